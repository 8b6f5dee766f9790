/-
The walk engine: panics, deferred calls.
-/
import Derived.Test.YtbgdjdhbejbhkaaDoorEngG
set_option linter.unusedVariables false
set_option linter.unusedSimpArgs false
namespace Go.Eng
/-! ### Panics, deferred calls, recover -/
section
variable {P : Program} {n : Nat} {Q : Post} {F : Fr} {D : List Deferred} {G : World} {M : Mem} {L : Own} {d : Option Tmp} {ty : TypeId} {K : Fr → List Deferred → Mem → Own → Prop}
theorem e_panic {x : Operand} {t : TypeId} {v : Value} (hx : ev F x = some (.iface t v)) (h : TP n Q [{ v := .iface t v, recovered := false }] F D G M L) : Tr P n d (.panic x) ty Q F D G M L K := fun hok w a hw ha => by
  have hr : (execOp a.eval ⟨d, .panic x, ty, "", #[], none⟩).run P w = .halt (.panic (.iface t v)) w := by
    simp [execOp, ha.eval hx, Instr.panic]
  refine ⟨fun _ _ => trivial, ?_⟩
  rw [Oper.semAt_eq _ _ _ (fun c h => by cases h), hr]
  exact h w a hw ha
theorem e_defer (hro : Q.ro = none) {c : Operand} {xs : List Operand} {argTypes : Array TypeId} {fn : Fn} {first cap vs : List Value} (hc : ev F c = some (.func fn first.toArray cap.toArray)) (hxs : evs F xs = some vs)
    (h : K F ({ target := .fn fn cap.toArray, args := (first ++ vs).toArray } :: D) M L) : Tr P n none (.defer ⟨.value c, xs.toArray, argTypes⟩) ty Q F D G M L K := fun hok w a hw ha => by
  have hev : ∀ x u, ev F x = some u → a.eval x = u := fun x u hx => ha.eval hx
  have hr : (execOp a.eval ⟨none, .defer ⟨.value c, xs.toArray, argTypes⟩, ty, "", #[], none⟩).run P w = .ok (.defer { target := .fn fn cap.toArray, args := (first ++ vs).toArray }) w := by
    simp [execOp, resolve, hev _ _ hc, Deferred.ofValue, evs_map hev xs vs hxs]
  refine ⟨fun _ _ => trivial, ?_⟩
  show Oper.uponIn _ _ _ _ _ _ _ ((Oper.semAt Q.ro _ _).run P w)
  rw [hro, Oper.semAt_none, hr, Oper.uponIn_defer]
  exact ⟨F, _, M, L, ⟨ha.size, ha.slot, by simp [Act.put, ha.defers]⟩, hw, h⟩
/-- A deferred call, made in a mode of the frame below. -/
structure ConD (P : Program) (f : FuncId) (args : Array Value) (u : FrameMode) (G : World) (M : Mem) (L : Own) (K : FrameMode → Mem → Own → Prop) : Prop where
  enter : ∀ args w, (callFunc f args).run P w = .ok (.enter f args) w
  calls : ∀ w, St G M L w → CallsD P f args u w fun e u' w' => ∃ v M' L', e = .returned v ∧ Le M M' ∧ St G M' L' w' ∧ K u' M' L'
/-- What recover hands back, and the mode behind it. -/
def recOf : FrameMode → Value × FrameMode
  | .panicking ({ v, recovered := false, goexit := false } :: older) => (v, .panicking ({ v, recovered := true } :: older))
  | u => (.nilIface, u)
def recQ (G : World) (M : Mem) (K : Mem → Own → Prop) : Post where
  ex := fun e F D w => match e with
    | .normal | .ret => D = [] ∧ ∃ M' L', Le M M' ∧ St G M' L' w ∧ K M' L'
    | _ => False
  pn := fun _ _ _ => False
  kp := []
  ro := none
  ins := fun _ _ _ _ _ _ h => h
theorem TQ.rec_normal {M' : Mem} {K : Mem → Own → Prop} (hle : Le M M') (hK : K M' L) : TQ (recQ G M K) .normal F [] G M' L := fun w hw => ⟨rfl, M', L, hle, hw, hK⟩
theorem TQ.rec_ret {M' : Mem} {K : Mem → Own → Prop} (hle : Le M M') (hK : K M' L) : TQ (recQ G M K) .ret F [] G M' L := fun w hw => ⟨rfl, M', L, hle, hw, hK⟩
theorem recoverD_of {c : Frame} {cs : List Frame} : (match recoverD (c :: cs) with | some (v, cs') => (v, cs') | none => (.nilIface, c :: cs)) = ((recOf c.mode).1, { c with mode := (recOf c.mode).2 } :: cs) := by
  obtain ⟨fn, tmps, todo, defers, mode, kind, ro⟩ := c
  cases mode with
  | run => simp [recoverD, recOf]
  | returning => simp [recoverD, recOf]
  | panicking chain =>
    cases chain with
    | nil => simp [recoverD, recOf]
    | cons p older =>
      obtain ⟨v, r, g⟩ := p
      cases r <;> cases g <;> simp [recoverD, recOf]
theorem enterRec {f : FuncId} {fn : Func} {id s : Nat} {ty : TypeId} {pos : String} {rest : Code} {args : List Value} {u : FrameMode} {K : FrameMode → Mem → Own → Prop}
    (hf : Fun P f fn (.seq (.region id #[⟨some s, .call ⟨.builtin .recover, #[], #[]⟩, ty, pos, #[], none⟩] false) rest)) (n : Nat) (hn : fn.ntmps = n) (hr : fn.results = #[])
    (h : T P n rest (recQ G M (K (recOf u).2)) ((s, (recOf u).1) :: argsFr 0 args) [] G M L) : ConD P f args.toArray u G M L K := by
  subst hn
  refine ⟨hf.enter, fun w hw => callsD_of_wpS hf.get hf.body fun c₀ cs hu => ?_⟩
  refine wpS_seq (wpS_region ?_)
  have hok := hf.ok
  simp only [okCode, Bool.and_eq_true] at hok
  have hs : s < fn.ntmps := by simpa [okOp, Nat.blt_eq] using hok.1
  show wpOpsS P _ _ [0] _ _ _
  have hrun : ∀ (ρ : Operand → Value), (execOp ρ ⟨some s, .call ⟨.builtin .recover, #[], #[]⟩, ty, pos, #[], none⟩).run P w = .ok .recover w := fun ρ => by
    simp [execOp, resolve, invoke, builtin]
  simp only [wpOpsS, List.getElem?_toArray, List.getElem?_cons_zero, Region.wanted, if_true, hrun]
  have hrec := recoverD_of (c := c₀) (cs := cs)
  have key : ∀ (v : Value) (cs' : List Frame), (v, cs') = ((recOf c₀.mode).1, { c₀ with mode := (recOf c₀.mode).2 } :: cs) →
      (Exit.thenS (rest.wpS P (bodyPostS P fn c₀ cs fun e u' w' => ∃ v M' L', e = .returned v ∧ Le M M' ∧ St G M' L' w' ∧ K u' M' L')) (bodyPostS P fn c₀ cs fun e u' w' => ∃ v M' L', e = .returned v ∧ Le M M' ∧ St G M' L' w' ∧ K u' M' L')) .normal
        (Act.put { tmps := args.toArray ++ Array.replicate (fn.ntmps - args.toArray.size) undef, defers := [] } (some s) v) cs' w := by
    intro v cs' he
    simp only [Prod.mk.injEq] at he
    obtain ⟨rfl, rfl⟩ := he
    refine wpS_of_wp (Code.wp_mono ?_ (wpIn_wide.1 (h hok.2 w _ hw (hu ▸ (rel_enter _ _).put hs _))))
    intro e a w' hq
    rw [← hu] at hq
    cases e with
    | normal =>
      obtain ⟨F', D', hr', hD, M', L', hle, hst, hk⟩ := hq
      exact ⟨hr'.defers.trans hD, _, rfl, _, results_none hr _ _ _, _, M', L', rfl, hle, hst, hk⟩
    | ret =>
      obtain ⟨F', D', hr', hD, M', L', hle, hst, hk⟩ := hq
      exact ⟨hr'.defers.trans hD, _, rfl, _, results_none hr _ _ _, _, M', L', rfl, hle, hst, hk⟩
    | panic c => exact hq.elim
    | exit i => obtain ⟨_, _, _, hq⟩ := hq; exact hq.elim
    | goto i => obtain ⟨_, _, _, hq⟩ := hq; exact hq.elim
    | outgrown => exact hq.elim
  cases hm : recoverD (c₀ :: cs) with
  | none => rw [hm] at hrec; exact key _ _ hrec
  | some p => rw [hm] at hrec; exact key p.1 p.2 hrec
/-- What the result variables hold. -/
def RC (P : Program) (F : Fr) (M : Mem) (L : Own) (r : ResultVar) (v : Value) : Prop :=
  ∀ w (tmps : Array Value), Sees M L w → (∀ i u, look F i = some u → tmps.getD i undef = u) →
    ((match r with | .tmp t => pure (tmps.getD t undef) | .cell a t => do loadVar t (← asAddr (tmps.getD a undef)) : Sem Value)).run P w = .ok v w
theorem rc_tmp {t : Tmp} {v : Value} (h : look F t = some v) : RC P F M L (.tmp t) v := fun w tmps hs ht => by
  have := ht _ _ h; rw [Array.getD_eq_getD_getElem?] at this; simp [this]
theorem rc_cell {s : Tmp} {t : TypeId} {d' : TypeDesc} {z : Value} {sz b0 : Nat} [ti : TI P t d' z sz b0] (ha : aggD d' = false) {ad : Addr} {v : Value} (h : look F s = some (.pointer (some ad))) (hc : CellAt M L ad v) : RC P F M L (.cell s t) v := fun w tmps hs ht => by
  have h1 := ht _ _ h; rw [Array.getD_eq_getD_getElem?] at h1
  simp [h1, asAddr, loadVar, run_isAgg ti.und, ha, hc w hs]
theorem rc_cellAgg {s : Tmp} {t : TypeId} {d' : TypeDesc} {z : Value} {sz b0 : Nat} [ti : TI P t d' z sz b0] (ha : aggD d' = true) {ad : Addr} {vs : List Value} (h : look F s = some (.pointer (some ad))) (hc : CellsN M L ad sz vs) : RC P F M L (.cell s t) (.agg vs.toArray) := fun w tmps hs ht => by
  obtain ⟨hc, hl⟩ := hc
  obtain ⟨j, hj, _, hjs, _⟩ := ti.parts
  subst hjs
  have h1 := ht _ _ h; rw [Array.getD_eq_getD_getElem?] at h1
  have := run_loadCells_list (P := P) (w := w) ad vs (hc w hs)
  rw [hl] at this
  simp [h1, asAddr, loadVar, run_isAgg ti.und, ha, run_size hj, this]
def RV (P : Program) (fn : Func) (F : Fr) (M : Mem) (L : Own) (v : Value) : Prop :=
  ∀ w (tmps : Array Value), Sees M L w → (∀ i u, look F i = some u → tmps.getD i undef = u) → (results fn tmps).run P w = .ok v w
theorem rv0 {fn : Func} (hr : fn.results = #[]) : RV P fn F M L (.tuple #[]) := fun w tmps hs ht => by simp [results, hr]
theorem rv1 {fn : Func} {r : ResultVar} {v : Value} (hr : fn.results = #[r]) (h : RC P F M L r v) : RV P fn F M L v := fun w tmps hs ht => by
  have h1 := h w tmps hs ht
  simp only [results, hr, List.mapM_toArray, List.mapM_cons, List.mapM_nil, Sem.run_bind, Sem.run_map]
  cases r <;> simp_all [Sem.run_bind]
theorem rv2 {fn : Func} {r r' : ResultVar} {v v' : Value} (hr : fn.results = #[r, r']) (h : RC P F M L r v) (h' : RC P F M L r' v') : RV P fn F M L (.tuple #[v, v']) := fun w tmps hs ht => by
  have h1 := h w tmps hs ht
  have h2 := h' w tmps hs ht
  simp only [results, hr, List.mapM_toArray, List.mapM_cons, List.mapM_nil, Sem.run_bind, Sem.run_map]
  cases r <;> cases r' <;> simp_all [Sem.run_bind]
theorem retRV {fn : Func} {M' : Mem} {v : Value} {K : Value → Mem → Own → Prop} {Kp : List PanicEntry → Mem → Own → Prop} {L' : Own} (hv : RV P fn F M' L v) (hd : DropTo L L') (hle : Le M M') (hK : K v M' L') : TQ (retQ P fn G M K Kp) .ret F [] G M' L := fun w hw =>
  ⟨rfl, v, M', L', fun tmps ht => hv w tmps hw.sees ht, hle, hw.dropTo, hK⟩
/-! ### A function that defers one call -/
def RR (G : World) (M : Mem) (K : Value → Mem → Own → Prop) (Kp : List PanicEntry → Mem → Own → Prop) : Ending → World → Prop := fun e w' => match e with
  | .returned v => ∃ M' L', Le M M' ∧ St G M' L' w' ∧ K v M' L'
  | .panicked c => ∃ M' L', Le M M' ∧ St G M' L' w' ∧ Kp c M' L'
  | .outgrown => False
def resSlots (fn : Func) : List Nat := fn.results.toList.map fun | .tmp t => t | .cell a _ => a
theorem mapM_congr {α : Type} {f g : α → Sem Value} : ∀ (l : List α), (∀ r ∈ l, f r = g r) → l.mapM f = l.mapM g
  | [], _ => rfl
  | r :: l, h => by rw [List.mapM_cons, List.mapM_cons, h r List.mem_cons_self, mapM_congr l fun x hx => h x (List.mem_cons_of_mem _ hx)]
theorem results_congr {fn : Func} {tmps tmps' : Array Value} (h : ∀ s ∈ resSlots fn, tmps.getD s undef = tmps'.getD s undef) : results fn tmps = results fn tmps' := by
  unfold results
  rw [← Array.toArray_toList (xs := fn.results)]
  simp only [List.mapM_toArray]
  congr 2
  refine mapM_congr _ fun r hr => ?_
  cases r with
  | tmp t => exact congrArg _ (h t (List.mem_map.2 ⟨_, hr, rfl⟩))
  | cell a t =>
    have := h a (List.mem_map.2 ⟨_, hr, rfl⟩)
    simp only [this]
theorem leaves_congr {fn : Func} {R : Ending → World → Prop} {tmps tmps' : Array Value} (h : ∀ s ∈ resSlots fn, tmps.getD s undef = tmps'.getD s undef) : ∀ (ds : List Deferred) (u : FrameMode) (w : World), Leaves P fn tmps R ds u w → Leaves P fn tmps' R ds u w
  | [], .returning, w, ⟨v, hr, hR⟩ => ⟨v, by rw [← results_congr h]; exact hr, hR⟩
  | [], .panicking _, w, hh => hh
  | [], .run, w, hh => hh
  | d :: ds, u, w, ⟨h1, fv, cap, f, args, h2, h3, h4⟩ => ⟨h1, fv, cap, f, args, h2, h3, h4.mono fun e u' w' he => by
    cases e with
    | returned v => exact leaves_congr h ds _ _ he
    | panicked c => exact leaves_congr h ds _ _ he
    | outgrown => exact he⟩
def retDQ (P : Program) (fn : Func) (G : World) (M : Mem) (K : Value → Mem → Own → Prop) (Kp : List PanicEntry → Mem → Own → Prop) : Post where
  ex := fun e F D w => match e with
    | .normal | .ret => ∀ tmps : Array Value, (∀ i u, look F i = some u → tmps.getD i undef = u) → Leaves P fn tmps (RR G M K Kp) D .returning w
    | _ => False
  pn := fun c a w => Leaves P fn a.tmps (RR G M K Kp) a.defers (.panicking c) w
  kp := resSlots fn
  ro := none
  ins := fun c a d v w hd h => leaves_congr (fun s hs => by
    have : d ≠ s := by
      rintro rfl
      have : (resSlots fn).contains d = true := by simpa using hs
      rw [this] at hd; cases hd
    simp [Act.put, Array.getElem?_setIfInBounds_ne this]) _ _ _ h
theorem enterD {f : FuncId} {fn : Func} {c : Code} {args : List Value} {K : Value → Mem → Own → Prop} {Kp : List PanicEntry → Mem → Own → Prop} (hf : Fun P f fn c) (n : Nat) (hn : fn.ntmps = n)
    (h : T P n c (retDQ P fn G M K Kp) (argsFr 0 args) [] G M L) : Con P f args.toArray G M L K Kp := by
  subst hn
  refine ⟨hf.enter, fun w hw => ?_⟩
  refine (calls_of_wp_defers (R := RR G M K Kp) hf.get hf.body (Code.wp_mono ?_ (wpIn_wide.1 (h hf.ok w _ hw (rel_enter _ _))))).mono ?_
  · intro e a w' hq
    cases e with
    | normal => obtain ⟨F', D', hr, hq⟩ := hq; show Leaves _ _ _ _ a.defers _ _; rw [hr.defers]; exact hq _ hr.slot
    | ret => obtain ⟨F', D', hr, hq⟩ := hq; show Leaves _ _ _ _ a.defers _ _; rw [hr.defers]; exact hq _ hr.slot
    | panic ch => exact hq
    | exit i => obtain ⟨_, _, _, hq⟩ := hq; exact hq.elim
    | goto i => obtain ⟨_, _, _, hq⟩ := hq; exact hq.elim
    | outgrown => exact hq.elim
  · intro e w' he
    cases e <;> exact he
/-- What comes of the one deferred call. -/
def AfterD (P : Program) (fn : Func) (F : Fr) (M0 : Mem) (K : Value → Mem → Own → Prop) (Kp : List PanicEntry → Mem → Own → Prop) (u : FrameMode) (M : Mem) (L : Own) : Prop :=
  (settle u = .returning ∧ ∃ v L1, RV P fn F M L v ∧ DropTo L L1 ∧ Le M0 M ∧ K v M L1) ∨ (∃ c L1, settle u = .panicking c ∧ DropTo L L1 ∧ Le M0 M ∧ Kp c M L1)
theorem leavesD {fn : Func} {M0 : Mem} {K : Value → Mem → Own → Prop} {Kp : List PanicEntry → Mem → Own → Prop} {f : FuncId} {cap args : List Value} {u : FrameMode} {Kd : FrameMode → Mem → Own → Prop} (hu : u ≠ .run)
    (hc : ConD P f (args ++ cap).toArray u G M L Kd) (h : ∀ u' M' L', Le M M' → Kd u' M' L' → AfterD P fn F M0 K Kp u' M' L') (w : World) (hw : St G M L w) (tmps : Array Value) (ht : ∀ i u, look F i = some u → tmps.getD i undef = u) :
    Leaves P fn tmps (RR G M0 K Kp) [{ target := .fn (.func f) cap.toArray, args := args.toArray }] u w := by
  refine leaves_cons (f := f) (args := (args ++ cap).toArray) hu ?_ ?_
  · have := hc.enter (args ++ cap).toArray w
    simp only [invoke, List.append_toArray]
    exact this
  · refine (hc.calls w hw).mono ?_
    rintro e u' w' ⟨v, M', L', rfl, hle, hst, hk⟩
    show Leaves P fn tmps (RR G M0 K Kp) [] (settle u') w'
    rcases h u' M' L' hle hk with ⟨hs, v', L1, hrv, hd, hle', hK⟩ | ⟨c, L1, hs, hd, hle', hK⟩
    · rw [hs]; exact ⟨v', hrv w' tmps hst.sees ht, M', L1, hle', hst.dropTo, hK⟩
    · rw [hs]; exact ⟨M', L1, hle', hst.dropTo, hK⟩
theorem TQ.retD {fn : Func} {M0 : Mem} {K : Value → Mem → Own → Prop} {Kp : List PanicEntry → Mem → Own → Prop} {f : FuncId} {cap args : List Value} {Kd : FrameMode → Mem → Own → Prop}
    (hc : ConD P f (args ++ cap).toArray .returning G M L Kd) (h : ∀ u' M' L', Le M M' → Kd u' M' L' → AfterD P fn F M0 K Kp u' M' L') :
    TQ (retDQ P fn G M0 K Kp) .ret F [{ target := .fn (.func f) cap.toArray, args := args.toArray }] G M L := fun w hw tmps ht => leavesD (by simp) hc h w hw tmps ht
theorem TP.retD {fn : Func} {M0 : Mem} {K : Value → Mem → Own → Prop} {Kp : List PanicEntry → Mem → Own → Prop} {f : FuncId} {cap args : List Value} {Kd : FrameMode → Mem → Own → Prop} {ch : List PanicEntry}
    (hc : ConD P f (args ++ cap).toArray (.panicking ch) G M L Kd) (h : ∀ u' M' L', Le M M' → Kd u' M' L' → AfterD P fn F M0 K Kp u' M' L') :
    TP n (retDQ P fn G M0 K Kp) ch F [{ target := .fn (.func f) cap.toArray, args := args.toArray }] G M L := fun w a hw ha => by
  show Leaves _ _ _ _ a.defers _ _
  rw [ha.defers]
  exact leavesD (by simp) hc h w hw a.tmps ha.slot
/-- A panic that no deferred call meets. -/
theorem TP.ret {fn : Func} {M0 : Mem} {K : Value → Mem → Own → Prop} {Kp : List PanicEntry → Mem → Own → Prop} {ch : List PanicEntry} (hle : Le M0 M) (h : Kp ch M L) : TP n (retQ P fn G M0 K Kp) ch F [] G M L := fun w a hw ha => ⟨ha.defers, M, L, hle, hw, h⟩
/-! ### Interface values -/
theorem run_eq_nilIface (w : World) (d : Nat) (t : TypeId) (ms : Array (String × TypeId)) (h : P.underlying t = some (.interface ms)) : (Op.equalIn (d + 1) t .nilIface .nilIface).run P w = .ok true w := by
  simp [Op.equalIn, run_underlying h]
theorem run_eq_ifaceNil (w : World) (d : Nat) (t u : TypeId) (v : Value) (ms : Array (String × TypeId)) (h : P.underlying t = some (.interface ms)) : (Op.equalIn (d + 1) t (.iface u v) .nilIface).run P w = .ok false w := by
  simp [Op.equalIn, run_underlying h]
theorem y_eqNilIface {x y : Operand} {t t' : TypeId} {ms : Array (String × TypeId)} {z : Value} {s b0 : Nat} [ti : TI P t (.interface ms) z s b0] (hx : ev F x = some .nilIface) (hy : y = .const .nilIface) : Yld P (.binOp .eql t x y t') ty F M L (.bool true) := fun w ρ hs hρ => by
  subst hy
  have h1 := run_eq_nilIface (P := P) w 9999 t ms ti.und
  have h2 : (binOp .eql t .nilIface .nilIface).run P w = .ok (.bool true) w := by
    simp only [binOp]; simp [Op.equal, Op.maxDepth, h1]
  have h3 : ρ (.const .nilIface) = .nilIface := hρ _ _ rfl
  have h4 : (eqGuard .eql t x (.const .nilIface) .nilIface .nilIface).run P w = .ok () w := by simp [eqGuard]
  simp only [execOp, hρ _ _ hx, h3, Sem.run_bind, h4, Result.andThen_ok, h2, Sem.run_pure]
theorem y_eqIfaceNil {x y : Operand} {t t' : TypeId} {ms : Array (String × TypeId)} {z : Value} {s b0 : Nat} [ti : TI P t (.interface ms) z s b0] {u : TypeId} {v : Value} (hx : ev F x = some (.iface u v)) (hy : ev F y = some .nilIface) : Yld P (.binOp .eql t x y t') ty F M L (.bool false) := fun w ρ hs hρ => by
  have h1 := run_eq_ifaceNil (P := P) w 9999 t u v ms ti.und
  have h2 : (binOp .eql t (.iface u v) .nilIface).run P w = .ok (.bool false) w := by
    simp only [binOp]; simp [Op.equal, Op.maxDepth, h1]
  have h4 : (eqGuard .eql t x y (.iface u v) .nilIface).run P w = .ok () w := by simp [eqGuard]
  simp only [execOp, hρ _ _ hx, hρ _ _ hy, Sem.run_bind, h4, Result.andThen_ok, h2, Sem.run_pure]
theorem y_assertOk {x : Operand} {xt t : TypeId} {d' : TypeDesc} {z : Value} {s b0 : Nat} [ti : TI P t d' z s b0] {v : Value} (hx : ev F x = some (.iface t v)) (hd : ∀ ms, d' ≠ .interface ms) : Yld P (.typeAssert x xt t true) ty F M L (.tuple #[v, .bool true]) := fun w ρ hs hρ => by
  cases d' <;> first | (exact absurd rfl (hd _)) | simp [execOp, hρ _ _ hx, Instr.typeAssert, run_underlying ti.und]
theorem y_assertNo {x : Operand} {xt t u : TypeId} {d' : TypeDesc} {z : Value} {s b0 : Nat} [ti : TI P t d' z s b0] {v : Value} (hx : ev F x = some (.iface u v)) (hd : ∀ ms, d' ≠ .interface ms) (hne : u ≠ t) : Yld P (.typeAssert x xt t true) ty F M L (.tuple #[z, .bool false]) := fun w ρ hs hρ => by
  obtain ⟨j, hj, hz, _, _⟩ := ti.parts
  cases d' <;> first | (exact absurd rfl (hd _)) | simp [execOp, hρ _ _ hx, Instr.typeAssert, run_underlying ti.und, hne, zeroValue, typeInfo, hj, hz]
end
end Go.Eng
