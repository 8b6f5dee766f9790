/-
The walk engine: ranges over functions.
-/
import Derived.Test.YtbgdjdhbejbhkaaDoorEngH
import Derived.RangeFuncIn
set_option linter.unusedVariables false
set_option linter.unusedSimpArgs false
namespace Go.Eng
/-! ### Ranges over functions -/
theorem run_getLoop {P : Program} {w : World} {l : Nat} {r : Loop} (h : w.heap[l]? = some (.loop r)) : (Instr.getLoop l).run P w = .ok r w := by
  simp [Instr.getLoop, Go.getObj, Sem.run, h]
theorem run_setObj {P : Program} {w : World} {l : Nat} {o o' : Obj} (h : w.heap[l]? = some o) (hn : ∀ c e f, o ≠ .cells c e f) : (Go.setObj l o').run P w = .ok () { w with heap := w.heap.setIfInBounds l o' } := by
  cases o <;> simp_all [Go.setObj, Sem.run]
theorem St.setObj {G : World} {M : Mem} {L : Own} {w : World} {b : Nat} {o o' : Obj} (h : St G M ((b, o) :: L) w) : St G M ((b, o') :: L) { w with heap := w.heap.setIfInBounds b o' } := by
  have hb := (h.own (b, o) List.mem_cons_self).1
  have hlt : b < w.heap.size := (Array.getElem?_eq_some_iff.1 hb).1
  refine h.set rfl rfl rfl ?_ (fun i hi => ?_)
  · simp [hlt]
  · exact Array.getElem?_setIfInBounds_ne (Ne.symm hi)
section
variable {P : Program} {n : Nat} {Q : Post} {F : Fr} {D : List Deferred} {G : World} {M : Mem} {L X R : Own} {d : Option Tmp} {ty : TypeId} {K : Fr → List Deferred → Mem → Own → Prop}
/-- What one round does, whatever else the iterator owns ('R'): it goes on ('Kt') or stops ('Kf'). -/
def YCon (P : Program) (l : Nat) (args : List Value) (G : World) (M : Mem) (X : Own) (Kt Kf : Mem → Own → Prop) : Prop :=
  ∀ (R : Own) w, St G M (R ++ X) w → ∃ w0 f tmps assign body, (Instr.yield l args.toArray).run P w = .ok (.round l f tmps assign body) w0 ∧
    RoundIn (fen none) 0 P l f tmps assign body w0 fun e w' => ∃ v M' X', e = .returned v ∧ Le M M' ∧ St G M' (R ++ X') w' ∧ ((v = .bool true ∧ Kt M' X') ∨ (v = .bool false ∧ Kf M' X'))
theorem e_yield {l : Nat} {c : Operand} {xs : List Operand} {argTypes : Array TypeId} {vs : List Value} {Kt Kf : Mem → Own → Prop}
    (hc : ev F c = some (.func (.yield l) #[] #[])) (hxs : evs F xs = some vs) (hy : YCon P l vs G M X Kt Kf)
    (ht : ∀ M' X', Le M M' → Kt M' X' → K (putF d (.bool true) F) D M' (R ++ X')) (hf : ∀ M' X', Le M M' → Kf M' X' → K (putF d (.bool false) F) D M' (R ++ X')) :
    Tr P n d (.call ⟨.value c, xs.toArray, argTypes⟩) ty Q F D G M (R ++ X) K := fun hok w a hw ha => by
  have hev : ∀ x u, ev F x = some u → a.eval x = u := fun x u hx => ha.eval hx
  obtain ⟨w0, f, tmps, assign, body, hr, hround⟩ := hy R w hw
  have hrun : (execOp a.eval ⟨d, .call ⟨.value c, xs.toArray, argTypes⟩, ty, "", #[], none⟩).run P w = .ok (.round l f tmps assign body) w0 := by
    simp only [execOp, resolve, hev _ _ hc, Deferred.ofValue, Sem.run_bind, Sem.run_pure, Result.andThen_ok, invoke, List.map_toArray, evs_map hev xs vs hxs, Array.empty_append]
    exact hr
  refine ⟨fun _ _ => trivial, ?_⟩
  rw [Oper.semAt_eq _ _ _ (fun c h => by cases h), hrun, Oper.uponIn_round]
  refine ⟨fun h => (by cases h), ?_⟩
  have hround' : RoundIn (fen Q.ro) 0 P l f tmps assign body w0 _ := hround
  refine hround'.mono ?_
  rintro e w' ⟨v, M', X', rfl, hle, hst, hk⟩
  rcases hk with ⟨rfl, hk⟩ | ⟨rfl, hk⟩
  · exact ⟨_, _, M', _, ha.putF hok _, hst, ht M' X' hle hk⟩
  · exact ⟨_, _, M', _, ha.putF hok _, hst, hf M' X' hle hk⟩
theorem e_yieldB {l : Nat} {c : Operand} {xs : List Operand} {argTypes : Array TypeId} {vs : List Value} {Kt Kf : Mem → Own → Prop}
    (hc : ev F c = some (.func (.yield l) #[] #[])) (hxs : evs F xs = some vs) (hy : YCon P l vs G M X Kt Kf)
    (h : ∀ b M' X', Le M M' → ((b = true ∧ Kt M' X') ∨ (b = false ∧ Kf M' X')) → K (putF d (.bool b) F) D M' (R ++ X')) :
    Tr P n d (.call ⟨.value c, xs.toArray, argTypes⟩) ty Q F D G M (R ++ X) K := e_yield hc hxs hy (fun M' X' hle hk => h true M' X' hle (.inl ⟨rfl, hk⟩)) (fun M' X' hle hk => h false M' X' hle (.inr ⟨rfl, hk⟩))
/-- The end of a round's body. -/
def roundQ (P : Program) (l : Nat) (Re : Ending → World → Prop) : Post where
  ex := fun e F D w => match e with
    | .normal => ∃ v w', (Instr.endRound l none).run P w = .ok v w' ∧ Re (.returned v) w'
    | .ret => ∃ v w', (Instr.endRound l (some .ret)).run P w = .ok v w' ∧ Re (.returned v) w'
    | .exit id => ∃ v w', (Instr.endRound l (some (.exit id))).run P w = .ok v w' ∧ Re (.returned v) w'
    | .goto t => ∃ v w', (Instr.endRound l (some (.goto t))).run P w = .ok v w' ∧ Re (.returned v) w'
    | _ => False
  pn := fun _ _ _ => False
  kp := []
  ro := some l
  ins := fun _ _ _ _ _ _ h => h
def asgQ (P : Program) (n l : Nat) (body : Code) (Qb : Post) : Post where
  ex := fun e F D w => match e with
    | .normal => ∀ a, Rel n a F D → ∃ w₂, (Instr.beginRound l).run P w = .ok () w₂ ∧ body.wpIn (fen (some l)) 0 P (post n Qb) a w₂
    | _ => False
  pn := fun _ _ _ => False
  kp := []
  ro := some l
  ins := fun _ _ _ _ _ _ h => h
theorem run_beginRound {w : World} {l : Nat} {r : Loop} (h : w.heap[l]? = some (.loop r)) (hs : r.state = .ready) : (Instr.beginRound l).run P w = .ok () { w with heap := w.heap.setIfInBounds l (.loop { r with state := .busy }) } := by
  simp [Instr.beginRound, run_getLoop h, run_setObj h, hs]
theorem run_endRound {w : World} {l : Nat} {r : Loop} {j : Option Code} (h : w.heap[l]? = some (.loop r)) : (Instr.endRound l j).run P w = .ok (.bool j.isNone) { w with heap := w.heap.setIfInBounds l (.loop { r with state := if j.isNone then .ready else .done, pending := j }) } := by
  simp [Instr.endRound, run_getLoop h, run_setObj h]
/-- The frame in which a round begins. -/
def roundFr (F : Fr) : List Tmp → List Value → Fr
  | p :: ps, v :: vs => roundFr ((p, v) :: F) ps vs
  | _, _ => F
theorem rel_round {tm : Array Value} : ∀ (ps : List Tmp) (vs : List Value) (F : Fr) (tm : Array Value), Rel n { tmps := tm, defers := [] } F [] → ps.all (fun p => Nat.blt p n) = true →
    Rel n { tmps := (ps.zip vs).foldl (fun t (p : Tmp × Value) => t.setIfInBounds p.1 p.2) tm, defers := [] } (roundFr F ps vs) []
  | [], vs, F, tm, h, _ => by simpa [roundFr] using h
  | p :: ps, [], F, tm, h, _ => by simpa [roundFr] using h
  | p :: ps, v :: vs, F, tm, h, hp => by
    simp only [List.all_cons, Bool.and_eq_true, Nat.blt_eq] at hp
    simp only [List.zip_cons_cons, List.foldl_cons, roundFr]
    exact rel_round (tm := tm) ps vs _ _ (h.put hp.1 v) hp.2
/-- The loop's record. -/
def recOfLoop (st : LoopState) (pd : Option Code) (fn : FuncId) (tm : Array Value) (ps : Array Tmp) (as bd : Code) (r : Nat) : Loop :=
  { state := st, pending := pd, fn := fn, tmps := tm, params := ps, assign := as, body := bd, defers := r }
abbrev lrec (l : Nat) (st : LoopState) (pd : Option Code) (fn : FuncId) (tm : Array Value) (ps : Array Tmp) (as bd : Code) (r : Nat) : Nat × Obj := (l, .loop (recOfLoop st pd fn tm ps as bd r))
/-- A round, out of the walk of its assignment and its body. -/
theorem ycon_body {l r fn : Nat} {tm : Array Value} {ps : List Tmp} {as bd : Code} {vs : List Value} {Kt Kf : Mem → Own → Prop} {pd : Option Code} (htm : Rel n { tmps := tm, defers := [] } F []) (hsz : vs.length = ps.length)
    (hok : (ps.all (fun p => Nat.blt p n) && okCode n as && okCode n bd) = true)
    (h : ∀ R : Own, T P n as (asgQ P n l bd (roundQ P l fun e w' => ∃ v M' X', e = .returned v ∧ Le M M' ∧ St G M' (R ++ X') w' ∧ ((v = .bool true ∧ Kt M' X') ∨ (v = .bool false ∧ Kf M' X')))) (roundFr F ps vs) [] G M
      (lrec l .ready pd fn tm ps.toArray as bd r :: (X ++ R))) :
    YCon P l vs G M (lrec l .ready pd fn tm ps.toArray as bd r :: X) Kt Kf := fun R w hw => by
  simp only [Bool.and_eq_true] at hok
  have hw' : St G M (lrec l .ready pd fn tm ps.toArray as bd r :: (X ++ R)) w := hw.perm (by
    refine List.perm_middle.trans ?_
    exact List.Perm.cons _ List.perm_append_comm)
  have hl : w.heap[l]? = some (.loop (recOfLoop .ready pd fn tm ps.toArray as bd r)) := (hw'.own _ List.mem_cons_self).1
  refine ⟨w, fn, (ps.toArray.zip vs.toArray).foldl (fun tmps (x : Tmp × Value) => tmps.setIfInBounds x.1 x.2) tm, as, bd, ?_, ?_⟩
  · simp only [Instr.yield, Sem.run_bind, run_getLoop hl, Result.andThen_ok, recOfLoop]
    have : ¬ (vs.toArray.size ≠ ps.toArray.size) := by simp [hsz]
    rw [if_neg this]
    rfl
  · refine roundIn_of_wpIn (F := fen none) trivial ?_
    have h1 := h R hok.1.2 w _ hw' (rel_round (tm := tm) ps vs F tm htm hok.1.1)
    have h2 : as.wpIn ((fen none).inRound l) 0 P _ _ w := h1
    have e1 : ((ps.toArray.zip vs.toArray).foldl (fun tmps (x : Tmp × Value) => tmps.setIfInBounds x.1 x.2) tm) = (ps.zip vs).foldl (fun t (p : Tmp × Value) => t.setIfInBounds p.1 p.2) tm := by simp
    rw [← e1] at h2
    refine (wpIn_mono h2 ?_ : as.wpIn ((fen none).inRound l) 0 P _ _ w)
    intro e a w₁ hq
    cases e with
    | normal =>
      obtain ⟨F', D', hr, hq⟩ := hq
      obtain ⟨w₂, hb, hbody⟩ := hq a hr
      refine ⟨w₂, hb, ?_⟩
      have hbody' : bd.wpIn ((fen none).inRound l) 0 P _ a w₂ := hbody
      refine wpIn_mono hbody' ?_
      intro e a w₃ hq
      cases e with
      | normal => obtain ⟨_, _, _, hq⟩ := hq; exact hq
      | ret => obtain ⟨_, _, _, hq⟩ := hq; exact hq
      | exit i => obtain ⟨_, _, _, hq⟩ := hq; exact hq
      | goto i => obtain ⟨_, _, _, hq⟩ := hq; exact hq
      | panic c => exact hq
      | outgrown => exact hq
    | ret => obtain ⟨_, _, _, hq⟩ := hq; exact hq
    | exit i => obtain ⟨_, _, _, hq⟩ := hq; exact hq
    | goto i => obtain ⟨_, _, _, hq⟩ := hq; exact hq
    | panic c => exact hq
    | outgrown => exact hq
/-- The assignment is through: the body. -/
theorem TQ.asg {l r fn : Nat} {tm : Array Value} {ps : Array Tmp} {as bd : Code} {pd : Option Code} {Re : Ending → World → Prop} (hok : okCode n bd = true)
    (h : T P n bd (roundQ P l Re) F D G M (lrec l .busy pd fn tm ps as bd r :: L)) : TQ (asgQ P n l bd (roundQ P l Re)) .normal F D G M (lrec l .ready pd fn tm ps as bd r :: L) := fun w hw a ha =>
  ⟨_, run_beginRound (hw.own _ List.mem_cons_self).1 rfl, h hok _ a hw.setObj ha⟩
section
variable {l r fn : Nat} {tm : Array Value} {ps : Array Tmp} {as bd : Code} {pd : Option Code} {M0 : Mem} {Kt Kf : Mem → Own → Prop} {st : LoopState}
/-- A round goes on. -/
theorem TQ.round_on (hle : Le M0 M) (hk : Kt M (lrec l .ready none fn tm ps as bd r :: X)) :
    TQ (roundQ P l fun e w' => ∃ v M' X', e = .returned v ∧ Le M0 M' ∧ St G M' (R ++ X') w' ∧ ((v = .bool true ∧ Kt M' X') ∨ (v = .bool false ∧ Kf M' X'))) .normal F D G M (lrec l st pd fn tm ps as bd r :: (X ++ R)) := fun w hw => by
  refine ⟨_, _, run_endRound (hw.own _ List.mem_cons_self).1, _, M, lrec l .ready none fn tm ps as bd r :: X, rfl, hle, ?_, .inl ⟨rfl, hk⟩⟩
  have := hw.setObj (o' := .loop { recOfLoop st pd fn tm ps as bd r with state := .ready, pending := none })
  exact this.perm ((List.Perm.cons _ List.perm_append_comm).trans List.perm_middle.symm)
theorem TQ.round_ret (hle : Le M0 M) (hk : Kf M (lrec l .done (some .ret) fn tm ps as bd r :: X)) :
    TQ (roundQ P l fun e w' => ∃ v M' X', e = .returned v ∧ Le M0 M' ∧ St G M' (R ++ X') w' ∧ ((v = .bool true ∧ Kt M' X') ∨ (v = .bool false ∧ Kf M' X'))) .ret F D G M (lrec l st pd fn tm ps as bd r :: (X ++ R)) := fun w hw => by
  refine ⟨_, _, run_endRound (hw.own _ List.mem_cons_self).1, _, M, lrec l .done (some .ret) fn tm ps as bd r :: X, rfl, hle, ?_, .inr ⟨rfl, hk⟩⟩
  have := hw.setObj (o' := .loop { recOfLoop st pd fn tm ps as bd r with state := .done, pending := some .ret })
  exact this.perm ((List.Perm.cons _ List.perm_append_comm).trans List.perm_middle.symm)
theorem TQ.round_exit {i : Nat} (hle : Le M0 M) (hk : Kf M (lrec l .done (some (.exit i)) fn tm ps as bd r :: X)) :
    TQ (roundQ P l fun e w' => ∃ v M' X', e = .returned v ∧ Le M0 M' ∧ St G M' (R ++ X') w' ∧ ((v = .bool true ∧ Kt M' X') ∨ (v = .bool false ∧ Kf M' X'))) (.exit i) F D G M (lrec l st pd fn tm ps as bd r :: (X ++ R)) := fun w hw => by
  refine ⟨_, _, run_endRound (hw.own _ List.mem_cons_self).1, _, M, lrec l .done (some (.exit i)) fn tm ps as bd r :: X, rfl, hle, ?_, .inr ⟨rfl, hk⟩⟩
  have := hw.setObj (o' := .loop { recOfLoop st pd fn tm ps as bd r with state := .done, pending := some (.exit i) })
  exact this.perm ((List.Perm.cons _ List.perm_append_comm).trans List.perm_middle.symm)
end
def mark (r : Nat) : Deferred := { target := .collected r, args := #[] }
/-- The statement. -/
theorem x_range {g : Operand} {ps : Array Tmp} {as bd : Code} {gf : FuncId} {first cap : List Value} {Kv : Value → Mem → Own → Prop} {Kp : List PanicEntry → Mem → Own → Prop} (hro : Q.ro = none)
    (hg : ev F g = some (.func (.func gf) first.toArray cap.toArray))
    (hcall : ∀ l r fn tm, Rel n { tmps := tm, defers := [] } F [] → Con P gf (first ++ [Value.func (.yield l) #[] #[]] ++ cap).toArray G M (lrec l .ready none fn tm ps as bd r :: (r, .deferred (some [])) :: L)
      (fun v M' L' => ∃ st pd L2, st ≠ .busy ∧ L' = lrec l st pd fn tm ps as bd r :: (r, .deferred (some [])) :: L2 ∧
        match pd with
        | none => TQ Q .normal F (mark r :: D) G M' (lrec l .exhausted pd fn tm ps as bd r :: (r, .deferred (some [])) :: L2)
        | some c => okCode n c = true ∧ T P n c Q F (mark r :: D) G M' (lrec l .exhausted pd fn tm ps as bd r :: (r, .deferred (some [])) :: L2))
      (fun c M' L' => TP n Q c F (mark r :: D) G M' L')) :
    T P n (.rangeFunc g ps as bd) Q F D G M L := fun hok w a hw ha => by
  refine wpIn_rangeFunc fun fn _ => ?_
  have hfr := hw.fresh
  let w1 : World := { w with heap := w.heap.push (.deferred (some [])) }
  have hs1 : St G M ((w.heap.size, .deferred (some [])) :: L) w1 := hw.push _
  let rc : Loop := recOfLoop .ready none fn a.tmps ps as bd w.heap.size
  let w2 : World := { w1 with heap := w1.heap.push (.loop rc) }
  have hs2 : St G M ((w1.heap.size, .loop rc) :: (w.heap.size, .deferred (some [])) :: L) w2 := hs1.push _
  have hrel : Rel n { tmps := a.tmps, defers := [] } F [] := ⟨ha.size, ha.slot, rfl⟩
  have hcon := hcall w1.heap.size w.heap.size fn a.tmps hrel
  refine ⟨w1.heap.size, [mark w.heap.size], w2, { target := .fn (.func gf) cap.toArray, args := (first ++ [Value.func (.yield w1.heap.size) #[] #[]]).toArray }, w2, gf, (first ++ [Value.func (.yield w1.heap.size) #[] #[]] ++ cap).toArray, w2, ?_, ?_, fun _ _ => trivial, ?_, fun h => (by cases h), ?_⟩
  · show (Instr.enterLoop fn a.tmps ps as bd (fen Q.ro).round).run P w = _
    have : (fen Q.ro).round = none := hro
    rw [this]
    simp only [Instr.enterLoop, Sem.run_bind, run_newObj, Result.andThen_ok, Sem.run_pure]
    rfl
  · have hev : a.eval g = .func (.func gf) first.toArray cap.toArray := ha.eval hg
    unfold resolve rangeCall
    simp only [hev, List.map_toArray, List.map_cons, List.map_nil]
    simp [Deferred.ofValue, Act.eval]
  · have he := hcon.enter (first ++ [Value.func (.yield w1.heap.size) #[] #[]] ++ cap).toArray w2
    simp only [invoke, List.append_toArray]
    exact he
  · refine callsIn_fen ((hcon.calls w2 hs2).mono ?_)
    intro e w3 he
    have ha' : Rel n { a with defers := [mark w.heap.size] ++ a.defers } F (mark w.heap.size :: D) := ⟨ha.size, ha.slot, by simp [ha.defers]⟩
    cases e with
    | returned v =>
      obtain ⟨M', L', hle, hst, st, pd, L2, hne, rfl, hk⟩ := he
      have hl := (hst.own _ List.mem_cons_self).1
      refine ⟨pd, { w3 with heap := w3.heap.setIfInBounds w1.heap.size (.loop { recOfLoop st pd fn a.tmps ps as bd w.heap.size with state := .exhausted }) }, ?_, ?_⟩
      · have h1 : ¬ ((recOfLoop st pd fn a.tmps ps as bd w.heap.size).state == LoopState.busy) = true := by simp [recOfLoop, hne]
        have h2 := run_setObj (P := P) (o' := .loop { recOfLoop st pd fn a.tmps ps as bd w.heap.size with state := .exhausted }) hl (fun c e f h => by cases h)
        simp only [Instr.endLoop, Sem.run_bind, run_getLoop hl, Result.andThen_ok, if_neg h1]
        simp only [h2, Result.andThen_ok, Sem.run_pure]
        rfl
      · have hst' := hst.setObj (o' := .loop { recOfLoop st pd fn a.tmps ps as bd w.heap.size with state := .exhausted })
        cases pd with
        | none => exact ⟨F, _, ha', hk _ hst'⟩
        | some c => exact hk.2 hk.1 _ _ hst' ha'
    | panicked c =>
      obtain ⟨M', L', hle, hst, hk⟩ := he
      exact hk w3 _ hst ha'
    | outgrown => exact he.elim
end
end Go.Eng
namespace Go.Eng
/-! ### A function in which functions were ranged over: the marks among its deferred calls -/
section
variable {P : Program}
theorem step_mark {fr : Frame} {cs : List Frame} {w : World} {r : Nat} {ds : List Deferred} (hm : fr.mode ≠ .run) (hd : fr.defers = mark r :: ds) (hr : w.heap[r]? = some (.deferred (some []))) :
    step P (lone fr cs w) = .next (lone { fr with defers := ds } cs { w with heap := w.heap.setIfInBounds r (.deferred none) }) := by
  have ht : (Instr.takeDeferred r).run P w = .ok [] { w with heap := w.heap.setIfInBounds r (.deferred none) } := by
    have h1 : (Go.getObj r).run P w = .ok (.deferred (some [])) w := by simp [Go.getObj, Sem.run, hr]
    have h2 := run_setObj (P := P) (o' := .deferred none) hr (fun c e f h => by cases h)
    simp [Instr.takeDeferred, h1, h2]
  refine step_lone_go ?_
  cases hmode : fr.mode with
  | run => exact absurd hmode hm
  | returning => simp [stepG, unwind, hmode, hd, mark, Sem.runT_eq, ht, GStep.bare_after]
  | panicking chain => simp [stepG, unwind, hmode, hd, mark, Sem.runT_eq, ht, GStep.bare_after]
def Lv (P : Program) (fn : Func) (tmps : Array Value) (Re : Ending → World → Prop) : List Deferred → FrameMode → World → Prop
  | [], .returning, w => ∃ v, (results fn tmps).run P w = .ok v w ∧ Re (.returned v) w
  | [], .panicking chain, w => Re (.panicked chain) w
  | [], .run, _ => False
  | d :: ds, u, w => u ≠ .run ∧ ∃ r, d = mark r ∧ w.heap[r]? = some (.deferred (some [])) ∧ Lv P fn tmps Re ds u { w with heap := w.heap.setIfInBounds r (.deferred none) }
theorem lv_steps {fn : Func} {tmps : Array Value} {Re : Ending → World → Prop} : ∀ (ds : List Deferred) (u : FrameMode) (w : World) (fr : Frame)
    (cs : List Frame), fr.mode = u → fr.defers = ds → fr.tmps = tmps → P.funcs[fr.fn]? = some fn → fr.kind = .normal → Lv P fn tmps Re ds u w →
    ∃ e w' fr', Re e w' ∧ Steps P (lone fr cs w) (lone fr' cs w') ∧ fr'.fn = fr.fn ∧ fr'.leaving P w' e ∧ e ≠ .outgrown := by
  intro ds
  induction ds with
  | nil =>
    intro u w fr cs hu hd ht hf hk h
    cases u with
    | run => exact h.elim
    | returning =>
      obtain ⟨v, hr, hR⟩ := h
      exact ⟨.returned v, w, fr, hR, Steps.refl P _, rfl, ⟨hu, hd, hk, fn, hf, ht ▸ hr⟩, by simp⟩
    | panicking chain => exact ⟨.panicked chain, w, fr, h, Steps.refl P _, rfl, ⟨hu, hd, fn, hf⟩, by simp⟩
  | cons d ds ih =>
    intro u w fr cs hu hd ht hf hk h
    obtain ⟨hrun, r, rfl, hr, hl⟩ := h
    have h1 := step_mark (P := P) (cs := cs) (hu ▸ hrun) hd hr
    obtain ⟨e, w', fr', hR, hs, hfn, hl', hne⟩ := ih u _ { fr with defers := ds } cs hu rfl ht hf hk hl
    exact ⟨e, w', fr', hR, .head h1 hs, hfn, hl', hne⟩
def bodyPostM (P : Program) (fn : Func) (Re : Ending → World → Prop) : Exit → Act → World → Prop
  | .normal, a, w | .ret, a, w => Lv P fn a.tmps Re a.defers .returning w
  | .panic chain, a, w => Lv P fn a.tmps Re a.defers (.panicking chain) w
  | _, _, _ => False
theorem calls_of_wp_marks {f : FuncId} {fn : Func} {c : Code} {args : Array Value} {w : World} {Re : Ending → World → Prop}
    (hf : P.funcs[f]? = some fn) (hb : fn.body = some c)
    (h : c.wp P (bodyPostM P fn Re) { tmps := args ++ Array.replicate (fn.ntmps - args.size) undef, defers := [] } w) : Calls P f args w Re := by
  intro cs
  let b : Frame := { (default : Frame) with fn := f, kind := .normal }
  have henter : Frame.enter P f args .normal =
      b.at { tmps := args ++ Array.replicate (fn.ntmps - args.size) undef, defers := [] } [.code c] := by
    simp [Frame.enter, Frame.at, hf, hb, b]
  obtain ⟨e, a', w', hq, harr⟩ := h b [] cs
  rw [← henter] at harr
  have fin : ∀ {m : Machine} {e' : Ending} {w'' : World} {fr' : Frame}, e' ≠ .outgrown → Steps P m (lone fr' cs w'') → Comes P m (lone fr' cs w'') e' := by
    intro m e' w'' fr' hne hs
    cases e' with
    | outgrown => exact absurd rfl hne
    | returned v => exact hs
    | panicked c => exact hs
  cases e with
  | normal =>
    obtain ⟨e', w'', fr', hR, hs, hfn, hl, hne⟩ := lv_steps a'.defers .returning w' { b.at a' [] with mode := .returning } cs rfl rfl rfl hf rfl hq
    exact ⟨e', w'', fr', hR, fin hne ((Steps.trans harr (.one step_end)).trans hs), hfn, hl⟩
  | ret =>
    obtain ⟨todo, hs₀⟩ := harr
    obtain ⟨e', w'', fr', hR, hs, hfn, hl, hne⟩ := lv_steps a'.defers .returning w' { b.at a' todo with mode := .returning } cs rfl rfl rfl hf rfl hq
    exact ⟨e', w'', fr', hR, fin hne (hs₀.trans hs), hfn, hl⟩
  | panic chain =>
    obtain ⟨todo, hs₀⟩ := harr
    obtain ⟨e', w'', fr', hR, hs, hfn, hl, hne⟩ := lv_steps a'.defers (.panicking chain) w' { b.at a' todo with mode := .panicking chain } cs rfl rfl rfl hf rfl hq
    exact ⟨e', w'', fr', hR, fin hne (hs₀.trans hs), hfn, hl⟩
  | exit id => exact hq.elim
  | goto l => exact hq.elim
  | outgrown => exact hq.elim
theorem lv_congr {fn : Func} {Re : Ending → World → Prop} {tmps tmps' : Array Value} (h : ∀ s ∈ resSlots fn, tmps.getD s undef = tmps'.getD s undef) : ∀ (ds : List Deferred) (u : FrameMode) (w : World), Lv P fn tmps Re ds u w → Lv P fn tmps' Re ds u w
  | [], .returning, w, ⟨v, hr, hR⟩ => ⟨v, by rw [← results_congr h]; exact hr, hR⟩
  | [], .panicking _, w, hh => hh
  | [], .run, w, hh => hh
  | d :: ds, u, w, ⟨h1, r, h2, h3, h4⟩ => ⟨h1, r, h2, h3, lv_congr h ds u _ h4⟩
end
def retMQ (P : Program) (fn : Func) (G : World) (M : Mem) (K : Value → Mem → Own → Prop) (Kp : List PanicEntry → Mem → Own → Prop) : Post where
  ex := fun e F D w => match e with
    | .normal | .ret => ∀ tmps : Array Value, (∀ i u, look F i = some u → tmps.getD i undef = u) → Lv P fn tmps (RR G M K Kp) D .returning w
    | _ => False
  pn := fun c a w => Lv P fn a.tmps (RR G M K Kp) a.defers (.panicking c) w
  kp := resSlots fn
  ro := none
  ins := fun c a d v w hd h => lv_congr (fun s hs => by
    have : d ≠ s := by
      rintro rfl
      have : (resSlots fn).contains d = true := by simpa using hs
      rw [this] at hd; cases hd
    simp [Act.put, Array.getElem?_setIfInBounds_ne this]) _ _ _ h
section
variable {P : Program} {n : Nat} {F : Fr} {D : List Deferred} {G : World} {M M0 : Mem} {L : Own} {K : Value → Mem → Own → Prop} {Kp : List PanicEntry → Mem → Own → Prop} {fn : Func}
theorem enterM {f : FuncId} {c : Code} {args : List Value} (hf : Fun P f fn c) (n : Nat) (hn : fn.ntmps = n)
    (h : T P n c (retMQ P fn G M K Kp) (argsFr 0 args) [] G M L) : Con P f args.toArray G M L K Kp := by
  subst hn
  refine ⟨hf.enter, fun w hw => ?_⟩
  refine (calls_of_wp_marks (Re := RR G M K Kp) hf.get hf.body (Code.wp_mono ?_ (wpIn_wide.1 (h hf.ok w _ hw (rel_enter _ _))))).mono ?_
  · intro e a w' hq
    cases e with
    | normal => obtain ⟨F', D', hr, hq⟩ := hq; show Lv _ _ _ _ a.defers _ _; rw [hr.defers]; exact hq _ hr.slot
    | ret => obtain ⟨F', D', hr, hq⟩ := hq; show Lv _ _ _ _ a.defers _ _; rw [hr.defers]; exact hq _ hr.slot
    | panic ch => exact hq
    | exit i => obtain ⟨_, _, _, hq⟩ := hq; exact hq.elim
    | goto i => obtain ⟨_, _, _, hq⟩ := hq; exact hq.elim
    | outgrown => exact hq.elim
  · intro e w' he
    cases e <;> exact he
theorem lv_end {v : Value} {L1 : Own} (hv : RV P fn F M L v) (hd : DropTo L L1) (hle : Le M0 M) (hK : K v M L1) (w : World) (hw : St G M L w) (tmps : Array Value) (ht : ∀ i u, look F i = some u → tmps.getD i undef = u) :
    Lv P fn tmps (RR G M0 K Kp) [] .returning w := ⟨v, hv w tmps hw.sees ht, M, L1, hle, hw.dropTo, hK⟩
theorem TQ.retM0 {v : Value} {L1 : Own} (hv : RV P fn F M L v) (hd : DropTo L L1) (hle : Le M0 M) (hK : K v M L1) : TQ (retMQ P fn G M0 K Kp) .ret F [] G M L := fun w hw tmps ht => lv_end hv hd hle hK w hw tmps ht
theorem TQ.retM1 {r : Nat} {L' L1 : Own} (hs : Sel L r (.deferred (some [])) L') {v : Value} (hv : RV P fn F M L' v) (hd : DropTo L' L1) (hle : Le M0 M) (hK : K v M L1) : TQ (retMQ P fn G M0 K Kp) .ret F [mark r] G M L := fun w hw tmps ht => by
  have hw' := hw.perm hs.perm
  exact ⟨by simp, r, rfl, (hw'.own _ List.mem_cons_self).1, lv_end hv hd hle hK _ hw'.setObj.drop tmps ht⟩
theorem TQ.retM2 {r r' : Nat} {L' L'' L1 : Own} (hs : Sel L r (.deferred (some [])) L') (hs' : Sel L' r' (.deferred (some [])) L'') {v : Value} (hv : RV P fn F M L'' v) (hd : DropTo L'' L1) (hle : Le M0 M) (hK : K v M L1) : TQ (retMQ P fn G M0 K Kp) .ret F [mark r, mark r'] G M L := fun w hw tmps ht => by
  have hw' := hw.perm hs.perm
  have h2 := hw'.setObj (o' := .deferred none)
  have h3 := h2.drop.perm hs'.perm
  exact ⟨by simp, r, rfl, (hw'.own _ List.mem_cons_self).1, by simp, r', rfl, (h3.own _ List.mem_cons_self).1, lv_end hv hd hle hK _ h3.setObj.drop tmps ht⟩
theorem TP.retM0 {c : List PanicEntry} (hle : Le M0 M) (hK : Kp c M L) : TP n (retMQ P fn G M0 K Kp) c F [] G M L := fun w a hw ha => by
  show Lv _ _ _ _ a.defers _ _
  rw [ha.defers]
  exact ⟨M, L, hle, hw, hK⟩
theorem TP.retM1 {r : Nat} {L' : Own} {c : List PanicEntry} (hs : Sel L r (.deferred (some [])) L') (hle : Le M0 M) (hK : Kp c M L') : TP n (retMQ P fn G M0 K Kp) c F [mark r] G M L := fun w a hw ha => by
  show Lv _ _ _ _ a.defers _ _
  rw [ha.defers]
  have hw' := hw.perm hs.perm
  exact ⟨by simp, r, rfl, (hw'.own _ List.mem_cons_self).1, M, L', hle, hw'.setObj.drop, hK⟩
end
end Go.Eng
