/-
The walk engine: ranges over functions. The walk engine: rows of rows. The walk engine: made rows. The walk engine: ways that meet, more numbers. The walk engine: strings, copies.
-/
import Derived.Test.YtplkoemjffplcaaGreatDoorEngFEtc
import Derived.RangeFuncIn
import Derived.Laws.Externs
import Derived.Laws.BytesString
import Derived.Laws.IdiomCopy
import Derived.Lib.MakeNoZero
import Derived.Lib.ConvBytes
set_option linter.all false
namespace Go.Eng
theorem run_getLoop {P : Program} {w : World} {l : Nat} {r : Loop} (h : w.heap[l]? = some (.loop r)) : (Instr.getLoop l).run P w = .ok r w := by
 simp [Instr.getLoop, Go.getObj, Sem.run, h]
theorem run_setObj {P : Program} {w : World} {l : Nat} {o o' : Obj} (h : w.heap[l]? = some o) (hn : ∀ c e f, o ≠ .cells c e f) : (Go.setObj l o').run P w = .ok () { w with heap := w.heap.setIfInBounds l o' } := by
 cases o <;> simp_all [Go.setObj, Sem.run]
theorem St.setObj {G : World} {M : Mem} {L : Own} {w : World} {b : Nat} {o o' : Obj} (h : St G M ((b, o) :: L) w) : St G M ((b, o') :: L) { w with heap := w.heap.setIfInBounds b o' } := by
 have hb := (h.own (b, o) List.mem_cons_self).1
 have hlt : b < w.heap.size := (Array.getElem?_eq_some_iff.1 hb).1
 refine h.set rfl rfl rfl ?_ (fun i hi => ?_)
 ·
  simp [hlt]
 exact Array.getElem?_setIfInBounds_ne (Ne.symm hi)
section
variable {P : Program} {n : Nat} {Q : Post} {F : Fr} {D : List Deferred} {G : World} {M : Mem} {L X R : Own} {d : Option Tmp} {ty : TypeId} {K : Fr → List Deferred → Mem → Own → Prop}
def YCon (P : Program) (l : Nat) (args : List Value) (G : World) (M : Mem) (X : Own) (Kt Kf : Mem → Own → Prop) : Prop :=
 ∀ (R : Own) w, St G M (R ++ X) w → ∃ w0 f tmps assign body, (Instr.yield l args.toArray).run P w = .ok (.round l f tmps assign body) w0 ∧
  RoundIn (fen none) 0 P l f tmps assign body w0 fun e w' => ∃ v M' X', e = .returned v ∧ Le M M' ∧ St G M' (R ++ X') w' ∧ ((v = .bool true ∧ Kt M' X') ∨ (v = .bool false ∧ Kf M' X'))
theorem e_yield {l : Nat} {c : Operand} {xs : List Operand} {argTypes : Array TypeId} {vs : List Value} {Kt Kf : Mem → Own → Prop}
  (hc : ev F c = some (.func (.yield l) #[] #[])) (hxs : evs F xs = some vs) (hy : YCon P l vs G M X Kt Kf)
  (ht : ∀ M' X', Le M M' → Kt M' X' → K (putF d (.bool true) F) D M' (R ++ X')) (hf : ∀ M' X', Le M M' → Kf M' X' → K (putF d (.bool false) F) D M' (R ++ X')) :
  Tr P n d (.call ⟨.value c, xs.toArray, argTypes⟩) ty Q F D G M (R ++ X) K := fun hok w a hw ha => by
 have hev : ∀ x u, ev F x = some u → a.eval x = u := fun x u hx => ha.eval hx
 obtain ⟨w0, f, tmps, assign, body, hr, hround⟩ := hy R w hw
 have hrun : (execOp a.eval ⟨d, .call ⟨.value c, xs.toArray, argTypes⟩, ty, "", #[], none⟩).run P w = .ok (.round l f tmps assign body) w0 := by
  simp only [execOp, resolve, hev _ _ hc, Deferred.ofValue, Sem.run_bind, Sem.run_pure, Result.andThen_ok, invoke, List.map_toArray, evs_map hev xs vs hxs, Array.empty_append]
  exact hr
 refine ⟨fun _ _ => trivial, ?_⟩
 rw [Oper.semAt_eq _ _ _ (fun c h => by cases h), hrun, Oper.uponIn_round]
 refine ⟨fun h => (by cases h), ?_⟩
 have hround' : RoundIn (fen Q.ro) 0 P l f tmps assign body w0 _ := hround
 refine hround'.mono ?_
 rintro e w' ⟨v, M', X', rfl, hle, hst, hk⟩
 rcases hk with ⟨rfl, hk⟩ | ⟨rfl, hk⟩
 ·
  exact ⟨_, _, M', _, ha.putF hok _, hst, ht M' X' hle hk⟩
 exact ⟨_, _, M', _, ha.putF hok _, hst, hf M' X' hle hk⟩
theorem e_yieldB {l : Nat} {c : Operand} {xs : List Operand} {argTypes : Array TypeId} {vs : List Value} {Kt Kf : Mem → Own → Prop}
  (hc : ev F c = some (.func (.yield l) #[] #[])) (hxs : evs F xs = some vs) (hy : YCon P l vs G M X Kt Kf)
  (h : ∀ b M' X', Le M M' → ((b = true ∧ Kt M' X') ∨ (b = false ∧ Kf M' X')) → K (putF d (.bool b) F) D M' (R ++ X')) :
  Tr P n d (.call ⟨.value c, xs.toArray, argTypes⟩) ty Q F D G M (R ++ X) K := e_yield hc hxs hy (fun M' X' hle hk => h true M' X' hle (.inl ⟨rfl, hk⟩)) (fun M' X' hle hk => h false M' X' hle (.inr ⟨rfl, hk⟩))
def roundQ (P : Program) (l : Nat) (Re : Ending → World → Prop) : Post where
 ex := fun e F D w => match e with
  | .normal => ∃ v w', (Instr.endRound l none).run P w = .ok v w' ∧ Re (.returned v) w'
  | .ret => ∃ v w', (Instr.endRound l (some .ret)).run P w = .ok v w' ∧ Re (.returned v) w'
  | .exit id => ∃ v w', (Instr.endRound l (some (.exit id))).run P w = .ok v w' ∧ Re (.returned v) w'
  | .goto t => ∃ v w', (Instr.endRound l (some (.goto t))).run P w = .ok v w' ∧ Re (.returned v) w'
  | _ => False
 pn := fun _ _ _ => False
 kp := []
 ro := some l
 ins := fun _ _ _ _ _ _ h => h
def asgQ (P : Program) (n l : Nat) (body : Code) (Qb : Post) : Post where
 ex := fun e F D w => match e with
  | .normal => ∀ a, Rel n a F D → ∃ w₂, (Instr.beginRound l).run P w = .ok () w₂ ∧ body.wpIn (fen (some l)) 0 P (post n Qb) a w₂
  | _ => False
 pn := fun _ _ _ => False
 kp := []
 ro := some l
 ins := fun _ _ _ _ _ _ h => h
theorem run_beginRound {w : World} {l : Nat} {r : Loop} (h : w.heap[l]? = some (.loop r)) (hs : r.state = .ready) : (Instr.beginRound l).run P w = .ok () { w with heap := w.heap.setIfInBounds l (.loop { r with state := .busy }) } := by
 simp [Instr.beginRound, run_getLoop h, run_setObj h, hs]
theorem run_endRound {w : World} {l : Nat} {r : Loop} {j : Option Code} (h : w.heap[l]? = some (.loop r)) : (Instr.endRound l j).run P w = .ok (.bool j.isNone) { w with heap := w.heap.setIfInBounds l (.loop { r with state := if j.isNone then .ready else .done, pending := j }) } := by
 simp [Instr.endRound, run_getLoop h, run_setObj h]
def roundFr (F : Fr) : List Tmp → List Value → Fr
 | p :: ps, v :: vs => roundFr ((p, v) :: F) ps vs
 | _, _ => F
theorem rel_round {tm : Array Value} : ∀ (ps : List Tmp) (vs : List Value) (F : Fr) (tm : Array Value), Rel n { tmps := tm, defers := [] } F [] → ps.all (fun p => Nat.blt p n) = true →
  Rel n { tmps := (ps.zip vs).foldl (fun t (p : Tmp × Value) => t.setIfInBounds p.1 p.2) tm, defers := [] } (roundFr F ps vs) []
 | [], vs, F, tm, h, _ => by simpa [roundFr] using h
 | p :: ps, [], F, tm, h, _ => by simpa [roundFr] using h
 | p :: ps, v :: vs, F, tm, h, hp => by
  simp only [List.all_cons, Bool.and_eq_true, Nat.blt_eq] at hp
  simp only [List.zip_cons_cons, List.foldl_cons, roundFr]
  exact rel_round (tm := tm) ps vs _ _ (h.put hp.1 v) hp.2
def recOfLoop (st : LoopState) (pd : Option Code) (fn : FuncId) (tm : Array Value) (ps : Array Tmp) (as bd : Code) (r : Nat) : Loop :=
 { state := st, pending := pd, fn := fn, tmps := tm, params := ps, assign := as, body := bd, defers := r }
abbrev lrec (l : Nat) (st : LoopState) (pd : Option Code) (fn : FuncId) (tm : Array Value) (ps : Array Tmp) (as bd : Code) (r : Nat) : Nat × Obj := (l, .loop (recOfLoop st pd fn tm ps as bd r))
theorem ycon_body {l r fn : Nat} {tm : Array Value} {ps : List Tmp} {as bd : Code} {vs : List Value} {Kt Kf : Mem → Own → Prop} {pd : Option Code} (htm : Rel n { tmps := tm, defers := [] } F []) (hsz : vs.length = ps.length)
  (hok : (ps.all (fun p => Nat.blt p n) && okCode n as && okCode n bd) = true)
  (h : ∀ R : Own, T P n as (asgQ P n l bd (roundQ P l fun e w' => ∃ v M' X', e = .returned v ∧ Le M M' ∧ St G M' (R ++ X') w' ∧ ((v = .bool true ∧ Kt M' X') ∨ (v = .bool false ∧ Kf M' X')))) (roundFr F ps vs) [] G M
   (lrec l .ready pd fn tm ps.toArray as bd r :: (X ++ R))) :
  YCon P l vs G M (lrec l .ready pd fn tm ps.toArray as bd r :: X) Kt Kf := fun R w hw => by
 simp only [Bool.and_eq_true] at hok
 have hw' : St G M (lrec l .ready pd fn tm ps.toArray as bd r :: (X ++ R)) w := hw.perm (by
  refine List.perm_middle.trans ?_
  exact List.Perm.cons _ List.perm_append_comm)
 have hl : w.heap[l]? = some (.loop (recOfLoop .ready pd fn tm ps.toArray as bd r)) := (hw'.own _ List.mem_cons_self).1
 refine ⟨w, fn, (ps.toArray.zip vs.toArray).foldl (fun tmps (x : Tmp × Value) => tmps.setIfInBounds x.1 x.2) tm, as, bd, ?_, ?_⟩
 ·
  simp only [Instr.yield, Sem.run_bind, run_getLoop hl, Result.andThen_ok, recOfLoop]
  have : ¬ (vs.toArray.size ≠ ps.toArray.size) := by simp [hsz]
  rw [if_neg this]
  rfl
 refine roundIn_of_wpIn (F := fen none) trivial ?_
 have h1 := h R hok.1.2 w _ hw' (rel_round (tm := tm) ps vs F tm htm hok.1.1)
 have h2 : as.wpIn ((fen none).inRound l) 0 P _ _ w := h1
 have e1 : ((ps.toArray.zip vs.toArray).foldl (fun tmps (x : Tmp × Value) => tmps.setIfInBounds x.1 x.2) tm) = (ps.zip vs).foldl (fun t (p : Tmp × Value) => t.setIfInBounds p.1 p.2) tm := by simp
 rw [← e1] at h2
 refine (wpIn_mono h2 ?_ : as.wpIn ((fen none).inRound l) 0 P _ _ w)
 intro e a w₁ hq
 cases e with
 | normal =>
  obtain ⟨F', D', hr, hq⟩ := hq
  obtain ⟨w₂, hb, hbody⟩ := hq a hr
  refine ⟨w₂, hb, ?_⟩
  have hbody' : bd.wpIn ((fen none).inRound l) 0 P _ a w₂ := hbody
  refine wpIn_mono hbody' ?_
  intro e a w₃ hq
  cases e with
  | normal => obtain ⟨_, _, _, hq⟩ := hq; exact hq
  | ret => obtain ⟨_, _, _, hq⟩ := hq; exact hq
  | exit i => obtain ⟨_, _, _, hq⟩ := hq; exact hq
  | goto i => obtain ⟨_, _, _, hq⟩ := hq; exact hq
  | panic c => exact hq
  | outgrown => exact hq
 | ret => obtain ⟨_, _, _, hq⟩ := hq; exact hq
 | exit i => obtain ⟨_, _, _, hq⟩ := hq; exact hq
 | goto i => obtain ⟨_, _, _, hq⟩ := hq; exact hq
 | panic c => exact hq
 | outgrown => exact hq
theorem TQ.asg {l r fn : Nat} {tm : Array Value} {ps : Array Tmp} {as bd : Code} {pd : Option Code} {Re : Ending → World → Prop} (hok : okCode n bd = true)
  (h : T P n bd (roundQ P l Re) F D G M (lrec l .busy pd fn tm ps as bd r :: L)) : TQ (asgQ P n l bd (roundQ P l Re)) .normal F D G M (lrec l .ready pd fn tm ps as bd r :: L) := fun w hw a ha =>
 ⟨_, run_beginRound (hw.own _ List.mem_cons_self).1 rfl, h hok _ a hw.setObj ha⟩
section
variable {l r fn : Nat} {tm : Array Value} {ps : Array Tmp} {as bd : Code} {pd : Option Code} {M0 : Mem} {Kt Kf : Mem → Own → Prop} {st : LoopState}
theorem TQ.round_on (hle : Le M0 M) (hk : Kt M (lrec l .ready none fn tm ps as bd r :: X)) :
  TQ (roundQ P l fun e w' => ∃ v M' X', e = .returned v ∧ Le M0 M' ∧ St G M' (R ++ X') w' ∧ ((v = .bool true ∧ Kt M' X') ∨ (v = .bool false ∧ Kf M' X'))) .normal F D G M (lrec l st pd fn tm ps as bd r :: (X ++ R)) := fun w hw => by
 refine ⟨_, _, run_endRound (hw.own _ List.mem_cons_self).1, _, M, lrec l .ready none fn tm ps as bd r :: X, rfl, hle, ?_, .inl ⟨rfl, hk⟩⟩
 have := hw.setObj (o' := .loop { recOfLoop st pd fn tm ps as bd r with state := .ready, pending := none })
 exact this.perm ((List.Perm.cons _ List.perm_append_comm).trans List.perm_middle.symm)
theorem TQ.round_ret (hle : Le M0 M) (hk : Kf M (lrec l .done (some .ret) fn tm ps as bd r :: X)) :
  TQ (roundQ P l fun e w' => ∃ v M' X', e = .returned v ∧ Le M0 M' ∧ St G M' (R ++ X') w' ∧ ((v = .bool true ∧ Kt M' X') ∨ (v = .bool false ∧ Kf M' X'))) .ret F D G M (lrec l st pd fn tm ps as bd r :: (X ++ R)) := fun w hw => by
 refine ⟨_, _, run_endRound (hw.own _ List.mem_cons_self).1, _, M, lrec l .done (some .ret) fn tm ps as bd r :: X, rfl, hle, ?_, .inr ⟨rfl, hk⟩⟩
 have := hw.setObj (o' := .loop { recOfLoop st pd fn tm ps as bd r with state := .done, pending := some .ret })
 exact this.perm ((List.Perm.cons _ List.perm_append_comm).trans List.perm_middle.symm)
end
def mark (r : Nat) : Deferred := { target := .collected r, args := #[] }
theorem x_range {g : Operand} {ps : Array Tmp} {as bd : Code} {gf : FuncId} {first cap : List Value} {Kv : Value → Mem → Own → Prop} {Kp : List PanicEntry → Mem → Own → Prop} (hro : Q.ro = none)
  (hg : ev F g = some (.func (.func gf) first.toArray cap.toArray))
  (hcall : ∀ l r fn tm, Rel n { tmps := tm, defers := [] } F [] → Con P gf (first ++ [Value.func (.yield l) #[] #[]] ++ cap).toArray G M (lrec l .ready none fn tm ps as bd r :: (r, .deferred (some [])) :: L)
   (fun v M' L' => ∃ st pd L2, st ≠ .busy ∧ L' = lrec l st pd fn tm ps as bd r :: (r, .deferred (some [])) :: L2 ∧
    match pd with
    | none => TQ Q .normal F (mark r :: D) G M' (lrec l .exhausted pd fn tm ps as bd r :: (r, .deferred (some [])) :: L2)
    | some c => okCode n c = true ∧ T P n c Q F (mark r :: D) G M' (lrec l .exhausted pd fn tm ps as bd r :: (r, .deferred (some [])) :: L2))
   (fun c M' L' => TP n Q c F (mark r :: D) G M' L')) :
  T P n (.rangeFunc g ps as bd) Q F D G M L := fun hok w a hw ha => by
 refine wpIn_rangeFunc fun fn _ => ?_
 have hfr := hw.fresh
 let w1 : World := { w with heap := w.heap.push (.deferred (some [])) }
 have hs1 : St G M ((w.heap.size, .deferred (some [])) :: L) w1 := hw.push _
 let rc : Loop := recOfLoop .ready none fn a.tmps ps as bd w.heap.size
 let w2 : World := { w1 with heap := w1.heap.push (.loop rc) }
 have hs2 : St G M ((w1.heap.size, .loop rc) :: (w.heap.size, .deferred (some [])) :: L) w2 := hs1.push _
 have hrel : Rel n { tmps := a.tmps, defers := [] } F [] := ⟨ha.size, ha.slot, rfl⟩
 have hcon := hcall w1.heap.size w.heap.size fn a.tmps hrel
 refine ⟨w1.heap.size, [mark w.heap.size], w2, { target := .fn (.func gf) cap.toArray, args := (first ++ [Value.func (.yield w1.heap.size) #[] #[]]).toArray }, w2, gf, (first ++ [Value.func (.yield w1.heap.size) #[] #[]] ++ cap).toArray, w2, ?_, ?_, fun _ _ => trivial, ?_, fun h => (by cases h), ?_⟩
 ·
  show (Instr.enterLoop fn a.tmps ps as bd (fen Q.ro).round).run P w = _
  have : (fen Q.ro).round = none := hro
  rw [this]
  simp only [Instr.enterLoop, Sem.run_bind, run_newObj, Result.andThen_ok, Sem.run_pure]
  rfl
 ·
  have hev : a.eval g = .func (.func gf) first.toArray cap.toArray := ha.eval hg
  unfold resolve rangeCall
  simp only [hev, List.map_toArray, List.map_cons, List.map_nil]
  simp [Deferred.ofValue, Act.eval]
 ·
  have he := hcon.enter (first ++ [Value.func (.yield w1.heap.size) #[] #[]] ++ cap).toArray w2
  simp only [invoke, List.append_toArray]
  exact he
 refine callsIn_fen ((hcon.calls w2 hs2).mono ?_)
 intro e w3 he
 have ha' : Rel n { a with defers := [mark w.heap.size] ++ a.defers } F (mark w.heap.size :: D) := ⟨ha.size, ha.slot, by simp [ha.defers]⟩
 cases e with
 | returned v =>
  obtain ⟨M', L', hle, hst, st, pd, L2, hne, rfl, hk⟩ := he
  have hl := (hst.own _ List.mem_cons_self).1
  refine ⟨pd, { w3 with heap := w3.heap.setIfInBounds w1.heap.size (.loop { recOfLoop st pd fn a.tmps ps as bd w.heap.size with state := .exhausted }) }, ?_, ?_⟩
  ·
   have h1 : ¬ ((recOfLoop st pd fn a.tmps ps as bd w.heap.size).state == LoopState.busy) = true := by simp [recOfLoop, hne]
   have h2 := run_setObj (P := P) (o' := .loop { recOfLoop st pd fn a.tmps ps as bd w.heap.size with state := .exhausted }) hl (fun c e f h => by cases h)
   simp only [Instr.endLoop, Sem.run_bind, run_getLoop hl, Result.andThen_ok, if_neg h1]
   simp only [h2, Result.andThen_ok, Sem.run_pure]
   rfl
  have hst' := hst.setObj (o' := .loop { recOfLoop st pd fn a.tmps ps as bd w.heap.size with state := .exhausted })
  cases pd with
  | none => exact ⟨F, _, ha', hk _ hst'⟩
  | some c => exact hk.2 hk.1 _ _ hst' ha'
 | panicked c =>
  obtain ⟨M', L', hle, hst, hk⟩ := he
  exact hk w3 _ hst ha'
 | outgrown => exact he.elim
end
end Go.Eng
namespace Go.Eng
section
variable {P : Program}
theorem step_mark {fr : Frame} {cs : List Frame} {w : World} {r : Nat} {ds : List Deferred} (hm : fr.mode ≠ .run) (hd : fr.defers = mark r :: ds) (hr : w.heap[r]? = some (.deferred (some []))) :
  step P (lone fr cs w) = .next (lone { fr with defers := ds } cs { w with heap := w.heap.setIfInBounds r (.deferred none) }) := by
 have ht : (Instr.takeDeferred r).run P w = .ok [] { w with heap := w.heap.setIfInBounds r (.deferred none) } := by
  have h1 : (Go.getObj r).run P w = .ok (.deferred (some [])) w := by simp [Go.getObj, Sem.run, hr]
  have h2 := run_setObj (P := P) (o' := .deferred none) hr (fun c e f h => by cases h)
  simp [Instr.takeDeferred, h1, h2]
 refine step_lone_go ?_
 cases hmode : fr.mode with
 | run => exact absurd hmode hm
 | returning => simp [stepG, unwind, hmode, hd, mark, Sem.runT_eq, ht, GStep.bare_after]
 | panicking chain => simp [stepG, unwind, hmode, hd, mark, Sem.runT_eq, ht, GStep.bare_after]
def Lv (P : Program) (fn : Func) (tmps : Array Value) (Re : Ending → World → Prop) : List Deferred → FrameMode → World → Prop
 | [], .returning, w => ∃ v, (results fn tmps).run P w = .ok v w ∧ Re (.returned v) w
 | [], .panicking chain, w => Re (.panicked chain) w
 | [], .run, _ => False
 | d :: ds, u, w => u ≠ .run ∧ ∃ r, d = mark r ∧ w.heap[r]? = some (.deferred (some [])) ∧ Lv P fn tmps Re ds u { w with heap := w.heap.setIfInBounds r (.deferred none) }
theorem lv_steps {fn : Func} {tmps : Array Value} {Re : Ending → World → Prop} : ∀ (ds : List Deferred) (u : FrameMode) (w : World) (fr : Frame)
  (cs : List Frame), fr.mode = u → fr.defers = ds → fr.tmps = tmps → P.funcs[fr.fn]? = some fn → fr.kind = .normal → Lv P fn tmps Re ds u w →
  ∃ e w' fr', Re e w' ∧ Steps P (lone fr cs w) (lone fr' cs w') ∧ fr'.fn = fr.fn ∧ fr'.leaving P w' e ∧ e ≠ .outgrown := by
 intro ds
 induction ds with
 | nil =>
  intro u w fr cs hu hd ht hf hk h
  cases u with
  | run => exact h.elim
  | returning =>
   obtain ⟨v, hr, hR⟩ := h
   exact ⟨.returned v, w, fr, hR, Steps.refl P _, rfl, ⟨hu, hd, hk, fn, hf, ht ▸ hr⟩, by simp⟩
  | panicking chain => exact ⟨.panicked chain, w, fr, h, Steps.refl P _, rfl, ⟨hu, hd, fn, hf⟩, by simp⟩
 | cons d ds ih =>
  intro u w fr cs hu hd ht hf hk h
  obtain ⟨hrun, r, rfl, hr, hl⟩ := h
  have h1 := step_mark (P := P) (cs := cs) (hu ▸ hrun) hd hr
  obtain ⟨e, w', fr', hR, hs, hfn, hl', hne⟩ := ih u _ { fr with defers := ds } cs hu rfl ht hf hk hl
  exact ⟨e, w', fr', hR, .head h1 hs, hfn, hl', hne⟩
def bodyPostM (P : Program) (fn : Func) (Re : Ending → World → Prop) : Exit → Act → World → Prop
 | .normal, a, w | .ret, a, w => Lv P fn a.tmps Re a.defers .returning w
 | .panic chain, a, w => Lv P fn a.tmps Re a.defers (.panicking chain) w
 | _, _, _ => False
theorem calls_of_wp_marks {f : FuncId} {fn : Func} {c : Code} {args : Array Value} {w : World} {Re : Ending → World → Prop}
  (hf : P.funcs[f]? = some fn) (hb : fn.body = some c)
  (h : c.wp P (bodyPostM P fn Re) { tmps := args ++ Array.replicate (fn.ntmps - args.size) undef, defers := [] } w) : Calls P f args w Re := by
 intro cs
 let b : Frame := { (default : Frame) with fn := f, kind := .normal }
 have henter : Frame.enter P f args .normal =
   b.at { tmps := args ++ Array.replicate (fn.ntmps - args.size) undef, defers := [] } [.code c] := by
  simp [Frame.enter, Frame.at, hf, hb, b]
 obtain ⟨e, a', w', hq, harr⟩ := h b [] cs
 rw [← henter] at harr
 have fin : ∀ {m : Machine} {e' : Ending} {w'' : World} {fr' : Frame}, e' ≠ .outgrown → Steps P m (lone fr' cs w'') → Comes P m (lone fr' cs w'') e' := by
  intro m e' w'' fr' hne hs
  cases e' with
  | outgrown => exact absurd rfl hne
  | returned v => exact hs
  | panicked c => exact hs
 cases e with
 | normal =>
  obtain ⟨e', w'', fr', hR, hs, hfn, hl, hne⟩ := lv_steps a'.defers .returning w' { b.at a' [] with mode := .returning } cs rfl rfl rfl hf rfl hq
  exact ⟨e', w'', fr', hR, fin hne ((Steps.trans harr (.one step_end)).trans hs), hfn, hl⟩
 | ret =>
  obtain ⟨todo, hs₀⟩ := harr
  obtain ⟨e', w'', fr', hR, hs, hfn, hl, hne⟩ := lv_steps a'.defers .returning w' { b.at a' todo with mode := .returning } cs rfl rfl rfl hf rfl hq
  exact ⟨e', w'', fr', hR, fin hne (hs₀.trans hs), hfn, hl⟩
 | panic chain =>
  obtain ⟨todo, hs₀⟩ := harr
  obtain ⟨e', w'', fr', hR, hs, hfn, hl, hne⟩ := lv_steps a'.defers (.panicking chain) w' { b.at a' todo with mode := .panicking chain } cs rfl rfl rfl hf rfl hq
  exact ⟨e', w'', fr', hR, fin hne (hs₀.trans hs), hfn, hl⟩
 | exit id => exact hq.elim
 | goto l => exact hq.elim
 | outgrown => exact hq.elim
theorem lv_congr {fn : Func} {Re : Ending → World → Prop} {tmps tmps' : Array Value} (h : ∀ s ∈ resSlots fn, tmps.getD s undef = tmps'.getD s undef) : ∀ (ds : List Deferred) (u : FrameMode) (w : World), Lv P fn tmps Re ds u w → Lv P fn tmps' Re ds u w
 | [], .returning, w, ⟨v, hr, hR⟩ => ⟨v, by rw [← results_congr h]; exact hr, hR⟩
 | [], .panicking _, w, hh => hh
 | [], .run, w, hh => hh
 | d :: ds, u, w, ⟨h1, r, h2, h3, h4⟩ => ⟨h1, r, h2, h3, lv_congr h ds u _ h4⟩
end
def retMQ (P : Program) (fn : Func) (G : World) (M : Mem) (K : Value → Mem → Own → Prop) (Kp : List PanicEntry → Mem → Own → Prop) : Post where
 ex := fun e F D w => match e with
  | .normal | .ret => ∀ tmps : Array Value, (∀ i u, look F i = some u → tmps.getD i undef = u) → Lv P fn tmps (RR G M K Kp) D .returning w
  | _ => False
 pn := fun c a w => Lv P fn a.tmps (RR G M K Kp) a.defers (.panicking c) w
 kp := resSlots fn
 ro := none
 ins := fun c a d v w hd h => lv_congr (fun s hs => by
  have : d ≠ s := by
   rintro rfl
   have : (resSlots fn).contains d = true := by simpa using hs
   rw [this] at hd; cases hd
  simp [Act.put, Array.getElem?_setIfInBounds_ne this]) _ _ _ h
section
variable {P : Program} {n : Nat} {F : Fr} {D : List Deferred} {G : World} {M M0 : Mem} {L : Own} {K : Value → Mem → Own → Prop} {Kp : List PanicEntry → Mem → Own → Prop} {fn : Func}
theorem enterM {f : FuncId} {c : Code} {args : List Value} (hf : Fun P f fn c) (n : Nat) (hn : fn.ntmps = n)
  (h : T P n c (retMQ P fn G M K Kp) (argsFr 0 args) [] G M L) : Con P f args.toArray G M L K Kp := by
 subst hn
 refine ⟨hf.enter, fun w hw => ?_⟩
 refine (calls_of_wp_marks (Re := RR G M K Kp) hf.get hf.body (Code.wp_mono ?_ (wpIn_wide.1 (h hf.ok w _ hw (rel_enter _ _))))).mono ?_
 ·
  intro e a w' hq
  cases e with
  | normal => obtain ⟨F', D', hr, hq⟩ := hq; show Lv _ _ _ _ a.defers _ _; rw [hr.defers]; exact hq _ hr.slot
  | ret => obtain ⟨F', D', hr, hq⟩ := hq; show Lv _ _ _ _ a.defers _ _; rw [hr.defers]; exact hq _ hr.slot
  | panic ch => exact hq
  | exit i => obtain ⟨_, _, _, hq⟩ := hq; exact hq.elim
  | goto i => obtain ⟨_, _, _, hq⟩ := hq; exact hq.elim
  | outgrown => exact hq.elim
 intro e w' he
 cases e <;> exact he
theorem lv_end {v : Value} {L1 : Own} (hv : RV P fn F M L v) (hd : DropTo L L1) (hle : Le M0 M) (hK : K v M L1) (w : World) (hw : St G M L w) (tmps : Array Value) (ht : ∀ i u, look F i = some u → tmps.getD i undef = u) :
  Lv P fn tmps (RR G M0 K Kp) [] .returning w := ⟨v, hv w tmps hw.sees ht, M, L1, hle, hw.dropTo, hK⟩
theorem TQ.retM0 {v : Value} {L1 : Own} (hv : RV P fn F M L v) (hd : DropTo L L1) (hle : Le M0 M) (hK : K v M L1) : TQ (retMQ P fn G M0 K Kp) .ret F [] G M L := fun w hw tmps ht => lv_end hv hd hle hK w hw tmps ht
theorem TQ.retM1 {r : Nat} {L' L1 : Own} (hs : Sel L r (.deferred (some [])) L') {v : Value} (hv : RV P fn F M L' v) (hd : DropTo L' L1) (hle : Le M0 M) (hK : K v M L1) : TQ (retMQ P fn G M0 K Kp) .ret F [mark r] G M L := fun w hw tmps ht => by
 have hw' := hw.perm hs.perm
 exact ⟨by simp, r, rfl, (hw'.own _ List.mem_cons_self).1, lv_end hv hd hle hK _ hw'.setObj.drop tmps ht⟩
theorem TP.retM0 {c : List PanicEntry} (hle : Le M0 M) (hK : Kp c M L) : TP n (retMQ P fn G M0 K Kp) c F [] G M L := fun w a hw ha => by
 show Lv _ _ _ _ a.defers _ _
 rw [ha.defers]
 exact ⟨M, L, hle, hw, hK⟩
theorem TP.retM1 {r : Nat} {L' : Own} {c : List PanicEntry} (hs : Sel L r (.deferred (some [])) L') (hle : Le M0 M) (hK : Kp c M L') : TP n (retMQ P fn G M0 K Kp) c F [mark r] G M L := fun w a hw ha => by
 show Lv _ _ _ _ a.defers _ _
 rw [ha.defers]
 have hw' := hw.perm hs.perm
 exact ⟨by simp, r, rfl, (hw'.own _ List.mem_cons_self).1, M, L', hle, hw'.setObj.drop, hK⟩
end
end Go.Eng
namespace Go.Eng
inductive BRows (M : Mem) : List Value → List (List UInt8) → Prop
 | nil : BRows M [] []
 | cons {A : Option Addr} {n c : Nat} {bs : List UInt8} {vs : List Value} {bss : List (List UInt8)} : Bytes M A n c bs → BRows M vs bss → BRows M (.slice A n c :: vs) (bs :: bss)
theorem BRows.len {M : Mem} {vs : List Value} {bss : List (List UInt8)} (h : BRows M vs bss) : vs.length = bss.length := by induction h <;> simp_all
theorem BRows.mono {M M' : Mem} {vs : List Value} {bss : List (List UInt8)} (h : BRows M vs bss) (hle : Le M M') : BRows M' vs bss := by
 induction h with
 | nil => exact .nil
 | cons hb _ ih => exact .cons (hb.mono hle) ih
theorem BRows.get {M : Mem} {vs : List Value} {bss : List (List UInt8)} (h : BRows M vs bss) : ∀ i, i < bss.length → ∃ A n c, vs[i]? = some (.slice A n c) ∧ Bytes M A n c (bss.getD i []) := by
 induction h with
 | nil => intro i hi; simp at hi
 | cons hb _ ih =>
  intro i hi
  cases i with
  | zero => exact ⟨_, _, _, rfl, by simpa using hb⟩
  | succ i => simpa using ih i (by simpa using hi)
theorem BRows.set {M : Mem} {vs : List Value} {bss : List (List UInt8)} (h : BRows M vs bss) {A : Option Addr} {n c : Nat} {bs : List UInt8} (hb : Bytes M A n c bs) : ∀ i, BRows M (vs.set i (.slice A n c)) (bss.set i bs) := by
 induction h with
 | nil => intro i; simpa using BRows.nil
 | cons hb' ht ih =>
  intro i
  cases i with
  | zero => simpa using BRows.cons hb ht
  | succ i => simpa using BRows.cons hb' (ih i)
theorem BRows.append {M : Mem} {vs vs' : List Value} {bss bss' : List (List UInt8)} (h : BRows M vs bss) (h' : BRows M vs' bss') : BRows M (vs ++ vs') (bss ++ bss') := by
 induction h with
 | nil => simpa using h'
 | cons hb _ ih => exact .cons hb ih
theorem BRows.snoc {M : Mem} {vs : List Value} {bss : List (List UInt8)} (h : BRows M vs bss) {A : Option Addr} {n c : Nat} {bs : List UInt8} (hb : Bytes M A n c bs) : BRows M (vs ++ [.slice A n c]) (bss ++ [bs]) := h.append (.cons hb .nil)
theorem BRows.one {M : Mem} {vs : List Value} {bss : List (List UInt8)} (h : BRows M vs bss) : vs.all Go.Eng.one = true := by
 induction h with
 | nil => rfl
 | cons _ _ ih => simpa [Go.Eng.one, Value.oneCell'] using ih
inductive PRows (M : Mem) : List Value → List (Int × List UInt8) → Prop
 | nil : PRows M [] []
 | cons {i : Int} {A : Option Addr} {n c : Nat} {bs : List UInt8} {vs : List Value} {ps : List (Int × List UInt8)} : Bytes M A n c bs → PRows M vs ps → PRows M (.int .i64 i :: .slice A n c :: vs) ((i, bs) :: ps)
theorem PRows.len {M : Mem} {vs : List Value} {ps : List (Int × List UInt8)} (h : PRows M vs ps) : vs.length = ps.length * 2 := by
 induction h with
 | nil => rfl
 | cons _ _ ih => simp; omega
theorem PRows.mono {M M' : Mem} {vs : List Value} {ps : List (Int × List UInt8)} (h : PRows M vs ps) (hle : Le M M') : PRows M' vs ps := by
 induction h with
 | nil => exact .nil
 | cons hb _ ih => exact .cons (hb.mono hle) ih
theorem PRows.get {M : Mem} {vs : List Value} {ps : List (Int × List UInt8)} (h : PRows M vs ps) : ∀ k, k < ps.length → ∃ A n c, vs[k * 2]? = some (.int .i64 (ps.getD k default).1) ∧ vs[k * 2 + 1]? = some (.slice A n c) ∧ Bytes M A n c (ps.getD k default).2 := by
 induction h with
 | nil => intro k hk; simp at hk
 | cons hb _ ih =>
  intro k hk
  cases k with
  | zero => exact ⟨_, _, _, rfl, rfl, by simpa using hb⟩
  | succ k =>
   obtain ⟨A, n, c, h1, h2, h3⟩ := ih k (by simpa using hk)
   refine ⟨A, n, c, ?_, ?_, by simpa using h3⟩
   ·
    rw [show (k + 1) * 2 = k * 2 + 1 + 1 by omega]; simpa using h1
   rw [show (k + 1) * 2 + 1 = k * 2 + 1 + 1 + 1 by omega]; simpa using h2
theorem PRows.snoc {M : Mem} {vs : List Value} {ps : List (Int × List UInt8)} (h : PRows M vs ps) {i : Int} {A : Option Addr} {n c : Nat} {bs : List UInt8} (hb : Bytes M A n c bs) : PRows M (vs ++ [.int .i64 i, .slice A n c]) (ps ++ [(i, bs)]) := by
 induction h with
 | nil => exact .cons hb .nil
 | cons hb' _ ih => exact .cons hb' ih
theorem OwnRow.pos {e : TypeId} {s n cap : Nat} {A : Option Addr} {vs : List Value} {E : Own} (h : OwnRow e s A n cap vs E) (hn : 0 < n) : ∃ g pre slack, A = some ⟨g, pre.length, none⟩ ∧ E = [(g, .cells (pre ++ (vs ++ slack)).toArray e (0, 0))] := by
 cases h with
 | nil => omega
 | @row g _ _ pre _ slack _ _ _ _ => exact ⟨g, pre, slack, rfl, rfl⟩
theorem OwnRow.set {e : TypeId} {s n cap g : Nat} {pre vs slack : List Value} (h : OwnRow e s (some ⟨g, pre.length, none⟩) n cap vs [(g, .cells (pre ++ (vs ++ slack)).toArray e (0, 0))]) (i : Nat) (v : Value) (hi : i < vs.length) :
  OwnRow e s (some ⟨g, pre.length, none⟩) n cap (vs.set i v) [(g, .cells ((pre ++ (vs ++ slack)).set (pre.length + i) v).toArray e (0, 0))] := by
 have e1 : (pre ++ (vs ++ slack)).set (pre.length + i) v = pre ++ (vs.set i v ++ slack) := by
  rw [List.set_append_right _ _ (by omega), Nat.add_sub_cancel_left, List.set_append_left _ _ hi]
 rw [e1]
 have hl := h.len
 have hle := h.le
 have hm := h.max
 refine OwnRow.row (by simp [hl]) ?_ hle hm
 generalize hA : (some (⟨g, pre.length, none⟩ : Addr)) = A at h
 generalize hE : [(g, Obj.cells (pre ++ (vs ++ slack)).toArray e (0, 0))] = E at h
 cases h with
 | nil => cases hA
 | @row g' _ _ pre' _ slack' k1 k2 k3 k4 =>
  simp only [List.cons.injEq, Prod.mk.injEq, Obj.cells.injEq, and_true] at hE
  have h2 := congrArg Array.toList hE.2
  simp only [] at h2
  have hp : pre.length = pre'.length := by injection hA with h; injection h
  have h3 := (List.append_inj h2 hp).2
  have h4 := (List.append_inj h3 rfl).2
  subst h4
  simpa using k2
end Go.Eng
namespace Go.Eng
section
variable {P : Program} {ty : TypeId} {F : Fr} {M : Mem} {L : Own} {x y : Operand} {t t' : TypeId}
end
section
variable {P : Program} {n : Nat} {Q : Post} {F : Fr} {D : List Deferred} {G : World} {M : Mem} {L R : Own} {d : Option Tmp} {ty : TypeId} {K : Fr → List Deferred → Mem → Own → Prop}
theorem e_make1 {t e : TypeId} {xl xc : Operand} {z z' : Value} {s b0 b' : Nat} {de : TypeDesc} [ti : TI P t (.slice e) z s b0] [te : TI P e de z' 1 b'] [tc : CellsOf z' [z']] {kl kc : IntKind} {l c : Int} (hl : ev F xl = some (.int kl l)) (hc : ev F xc = some (.int kc c))
  (h0 : 0 ≤ l) (hlc : l ≤ c) (hb : (b' : Int) * c ≤ 281474976710656) (h63 : c ≤ 9223372036854775807)
  (h : ∀ b, K (putF d (.slice (some ⟨b, 0, none⟩) l.toNat c.toNat) F) D M ((b, .cells (List.replicate c.toNat z').toArray e (0, 0)) :: L)) :
  Tr P n d (.makeSlice t xl xc) ty Q F D G M L K := e_make hl hc h0 hlc hb h63 fun b => by
 rw [Nat.mul_one, made_one tc.eq]; exact h b
theorem Row.whole {M : Mem} {b s m : Nat} {vs : List Value} {T : TypeId} {fr : Nat × Nat} (hM : M b = some (.cells vs.toArray T fr)) (hl : vs.length = m * s) (h63 : m ≤ 9223372036854775807) : Row M s (some ⟨b, 0, none⟩) m m vs :=
 ⟨hl, Nat.le_refl _, h63, fun _ => ⟨b, 0, _, T, fr, rfl, hM, fun j v hj => by simpa using hj⟩⟩
theorem Bytes.zeros {M : Mem} {b m : Nat} {T : TypeId} {fr : Nat × Nat} (hM : M b = some (.cells (List.replicate m (.int .u8 0)).toArray T fr)) (h63 : m ≤ 9223372036854775807) : Bytes M (some ⟨b, 0, none⟩) m m (List.replicate m 0) := by
 have := Row.whole (s := 1) hM (by simp) h63
 simpa [Bytes, bv] using this
variable {M0 : Mem} {L0 L' : Own} {ops : Array Oper} {τ f : Nat} {X : Array Bool}
theorem TO.to (T' : Own) (hp : PermTo L T') (h : TO P n ops τ M0 L0 f X Q F D G M T') : TO P n ops τ M0 L0 f X Q F D G M L := h.perm hp.perm
theorem TO.bring (b : Nat) {o : Obj} (hs : Sel L b o L') (h : TO P n ops τ M0 L0 f X Q F D G M ((b, o) :: L')) : TO P n ops τ M0 L0 f X Q F D G M L := h.perm hs.perm
theorem TO.bringE (E : Own) (hs : SelE L E L') (h : TO P n ops τ M0 L0 f X Q F D G M (E ++ L')) : TO P n ops τ M0 L0 f X Q F D G M L := h.perm hs.perm
theorem TO.pub (b : Nat) {o : Obj} (hs : Sel L b o L') (h : ∀ M', Le M M' → M' b = some o → TO P n ops τ M0 L0 f X Q F D G M' L') : TO P n ops τ M0 L0 f X Q F D G M L := fun hok hkp w a hw ha hcl hs' =>
 let ⟨h1, h2, h3⟩ := (hw.perm hs.perm).publish
 h _ h2 h3 hok hkp w a h1 ha hcl hs'
end
theorem OwnRow.cellIn {M : Mem} {L L' : Own} {e : TypeId} {s n cap : Nat} {A : Option Addr} {vs : List Value} {E : Own} (h : OwnRow e s A n cap vs E) (hs : SelE L E L') (hn : 0 < vs.length) : ∃ g o, A = some ⟨g, o, none⟩ ∧ ∀ j v, vs[j]? = some v → CellAt M L ⟨g, o + j, none⟩ v := by
 obtain ⟨g, o, e, hc⟩ := h.cell (M := M) (R := L') hn
 exact ⟨g, o, e, fun j v hj w hw => hc j v hj w ⟨hw.ro, fun p hp => hw.own p (hs.perm.mem_iff.2 hp)⟩⟩
theorem OwnRow.cellsIn {M : Mem} {L L' : Own} {e : TypeId} {s n cap : Nat} {A : Option Addr} {vs : List Value} {E : Own} (h : OwnRow e s A n cap vs E) (hs : SelE L E L') (hn : 0 < vs.length) : ∃ g o, A = some ⟨g, o, none⟩ ∧ ∀ i m, i + m ≤ vs.length → CellsN M L ⟨g, o + i, none⟩ m ((vs.drop i).take m) := by
 obtain ⟨g, o, e, hc⟩ := h.cellIn (M := M) hs hn
 refine ⟨g, o, e, fun i m hi => ⟨fun w hw j v hj => ?_, by simp; omega⟩⟩
 rw [add_plain, Nat.add_assoc]
 rw [List.getElem?_take] at hj
 split at hj
 ·
  rw [List.getElem?_drop] at hj
  exact hc _ v hj w hw
 cases hj
theorem CellsN.at_ {M : Mem} {L : Own} {b o o' n : Nat} {v : List Value} (h : CellsN M L ⟨b, o', none⟩ n v) (e : o' = o) : CellsN M L ⟨b, o, none⟩ n v := e ▸ h
theorem take_two {vs : List Value} {i : Nat} {a b : Value} (h1 : vs[i]? = some a) (h2 : vs[i + 1]? = some b) : (vs.drop i).take 2 = [a, b] := by
 have l1 := (List.getElem?_eq_some_iff.1 h1)
 have l2 := (List.getElem?_eq_some_iff.1 h2)
 obtain ⟨k1, e1⟩ := l1
 obtain ⟨k2, e2⟩ := l2
 rw [List.drop_eq_getElem_cons k1, List.drop_eq_getElem_cons k2, e1, e2]
 rfl
structure RowIn (M : Mem) (L : Own) (s : Nat) (A : Option Addr) (n : Nat) (vs : List Value) : Prop where
 len : vs.length = n * s
 addr : 0 < n → ∃ b o, A = some ⟨b, o, none⟩ ∧ ∀ j v, vs[j]? = some v → CellAt M L ⟨b, o + j, none⟩ v
theorem Row.in_ {M : Mem} {L : Own} {s n cap : Nat} {A : Option Addr} {vs : List Value} (h : Row M s A n cap vs) : RowIn M L s A n vs := ⟨h.len, fun hn => let ⟨b, o, e, hc⟩ := h.addr hn; ⟨b, o, e, fun j v hj => hc L j v hj⟩⟩
theorem OwnRow.in_ {M : Mem} {L L' : Own} {e : TypeId} {s n cap : Nat} {A : Option Addr} {vs : List Value} {E : Own} (h : OwnRow e s A n cap vs E) (hs : SelE L E L') (h0 : 0 < s) : RowIn M L s A n vs := ⟨h.len, fun hn => h.cellIn hs (by rw [h.len]; exact Nat.mul_pos hn h0)⟩
end Go.Eng
namespace Go.Eng
section
variable {P : Program} {ty : TypeId} {F : Fr} {M : Mem} {L : Own} {x y : Operand}
end
section
variable {P : Program} {n : Nat} {Q : Post} {F : Fr} {D : List Deferred} {G : World} {M : Mem} {L R : Own} {d : Option Tmp} {ty : TypeId} {K : Fr → List Deferred → Mem → Own → Prop}
end
section
variable {P : Program} {ty : TypeId} {F : Fr} {M : Mem} {L : Own} {x y : Operand} {t t' : TypeId}
theorem y_convE {z z' : Value} {s s' b0 b' : Nat} {d0 : TypeDesc} {kd k : IntKind} {a b : Int} [ti : TI P t d0 z s b0] [ti' : TI P t' (.int kd) z' s' b'] (hx : ev F x = some (.int k a)) (h : kd.wrap a = b) : Yld P (.convert t t' x) ty F M L (.int kd b) := h ▸ y_conv hx
theorem y_convI {z z' : Value} {s s' b0 b' : Nat} {d0 : TypeDesc} {k : IntKind} {a : Int} [ti : TI P t d0 z s b0] [ti' : TI P t' (.int .i64) z' s' b'] (hx : ev F x = some (.int k a)) (h : -9223372036854775808 ≤ a ∧ a ≤ 9223372036854775807) : Yld P (.convert t t' x) ty F M L (.int .i64 a) := y_convE hx (IntWalk.i64_in _ h)
theorem y_quoI {a b : Int} (hx : ev F x = some (.int .i64 a)) (hy : ev F y = some (.int .i64 b)) (h : 0 ≤ a ∧ 0 < b ∧ a ≤ 9223372036854775807) : Yld P (.binOp .quo t x y t') ty F M L (.int .i64 (a / b)) := by
 have h1 := y_quo (P := P) (M := M) (L := L) (t := t) (t' := t') (ty := ty) hx hy (by omega)
 have h2 : a / b ≤ a := Int.ediv_le_self _ h.1
 have h3 : 0 ≤ a / b := Int.ediv_nonneg h.1 (by omega)
 rwa [Int.tdiv_eq_ediv_of_nonneg h.1, IntWalk.i64_in _ (by omega)] at h1
theorem y_remI {k : IntKind} {a b : Int} (hx : ev F x = some (.int k a)) (hy : ev F y = some (.int k b)) (h : 0 ≤ a ∧ 0 < b) : Yld P (.binOp .rem t x y t') ty F M L (.int k (a % b)) := by
 have h1 := y_rem (P := P) (M := M) (L := L) (t := t) (t' := t') (ty := ty) hx hy (by omega)
 rwa [Int.tmod_eq_emod_of_nonneg h.1] at h1
end
theorem Bytes.take {M : Mem} {A : Option Addr} {n c : Nat} {bs : List UInt8} (h : Bytes M A n c bs) (k : Nat) (hk : k ≤ n) : Bytes M (sl A 0 c 1) k c (bs.take k) := by
 have h1 := Row.slice h (l := 0) (h := k) (m := c) (by omega) hk (by have := h.le; omega) (Nat.le_refl _)
 simpa [Bytes, List.map_take] using h1
theorem Bytes.drop {M : Mem} {A : Option Addr} {n c : Nat} {bs : List UInt8} (h : Bytes M A n c bs) (k : Nat) (hk : k ≤ n) : Bytes M (sl A k c 1) (n - k) (c - k) (bs.drop k) := by
 have h1 := Row.slice h (l := k) (h := n) (m := c) hk (Nat.le_refl _) h.le (Nat.le_refl _)
 have hs := h.size
 rw [Nat.mul_one, Nat.mul_one, ← List.map_drop, ← List.map_take, List.take_of_length_le (by simp; omega)] at h1
 exact h1
theorem Bytes.sub {M : Mem} {A : Option Addr} {n c : Nat} {bs : List UInt8} (h : Bytes M A n c bs) (l k : Nat) (hl : l ≤ k) (hk : k ≤ n) : Bytes M (sl A l c 1) (k - l) (c - l) ((bs.drop l).take (k - l)) := by
 have h1 := Row.slice h (l := l) (h := k) (m := c) hl hk (by have := h.le; omega) (Nat.le_refl _)
 rw [Nat.mul_one, Nat.mul_one, ← List.map_drop, ← List.map_take] at h1
 exact h1
theorem take_snoc {α : Type} (l : List α) (k : Nat) (d : α) (h : k < l.length) : l.take (k + 1) = l.take k ++ [l.getD k d] := by
 rw [List.take_add_one, List.getElem?_eq_getElem h, List.getD_eq_getElem?_getD, List.getElem?_eq_getElem h]; rfl
theorem getD_mem {α : Type} (l : List α) (k : Nat) (d : α) (h : k < l.length) : l.getD k d ∈ l := by
 rw [List.getD_eq_getElem?_getD, List.getElem?_eq_getElem h]; exact List.getElem_mem h
theorem flatten_take_le {α : Type} (l : List (List α)) (k : Nat) : (l.take k).flatten.length ≤ l.flatten.length := by
 conv => rhs; rw [← List.take_append_drop k l, List.flatten_append, List.length_append]
 omega
section
variable {P : Program} {n : Nat} {Q : Post} {F : Fr} {D : List Deferred} {G : World} {M : Mem} {L L' : Own} {ops : Array Oper} {rest : List Oper} {c : Code}
theorem TL.eqL (h : L = L') (k : TL P n ops rest Q F D G M L') : TL P n ops rest Q F D G M L := h ▸ k
theorem T.eqL (h : L = L') (k : T P n c Q F D G M L') : T P n c Q F D G M L := h ▸ k
theorem Con.postD {f : FuncId} {args : Array Value} {K K' : Value → Mem → Own → Prop} {Kp : List PanicEntry → Mem → Own → Prop} (h : Con P f args G M L K noPanic)
  (hk : ∀ v M' L1, Le M M' → K v M' L1 → ∃ L2, DropTo L1 L2 ∧ K' v M' L2) : Con P f args G M L K' Kp :=
 ⟨h.enter, fun w hw => (h.calls w hw).mono fun e w' he => by
  cases e with
  | returned v => obtain ⟨M', L1, a, b, c⟩ := he; obtain ⟨L2, d, e⟩ := hk v M' L1 a c; exact ⟨M', L2, a, b.dropTo, e⟩
  | panicked v => obtain ⟨M', L', a, b, c⟩ := he; exact c.elim
  | outgrown => exact he⟩
theorem x_rangeN {g : Operand} {ps : Array Tmp} {as bd : Code} {gf : FuncId} {first cap : List Value} (hro : Q.ro = none)
  (hg : ev F g = some (.func (.func gf) first.toArray cap.toArray))
  (hcall : ∀ (l r fn : Nat) (tm : Array Value) (ps' : Array Tmp) (as' bd' : Code), ps' = ps → as' = as → bd' = bd → Rel n { tmps := tm, defers := [] } F [] →
   Con P gf (first ++ [Value.func (.yield l) #[] #[]] ++ cap).toArray G M (lrec l .ready none fn tm ps' as' bd' r :: (r, .deferred (some [])) :: L)
   (fun v M' L' => ∃ st pd L2, st ≠ .busy ∧ L' = lrec l st pd fn tm ps' as' bd' r :: (r, .deferred (some [])) :: L2 ∧
    match pd with
    | none => TQ Q .normal F (mark r :: D) G M' (lrec l .exhausted pd fn tm ps' as' bd' r :: (r, .deferred (some [])) :: L2)
    | some c => okCode n c = true ∧ T P n c Q F (mark r :: D) G M' (lrec l .exhausted pd fn tm ps' as' bd' r :: (r, .deferred (some [])) :: L2))
   noPanic) :
  T P n (.rangeFunc g ps as bd) Q F D G M L := x_range (Kv := fun _ _ _ => True) (Kp := noPanic) hro hg fun l r fn tm h =>
 (hcall l r fn tm ps as bd rfl rfl rfl h).mono (fun v M' L' _ hk => hk) (fun _ _ _ _ h => h.elim)
end
section
variable {P : Program} {n : Nat} {F : Fr} {D : List Deferred} {G : World} {M M0 : Mem} {L R X : Own} {l r fn : Nat} {tm : Array Value} {ps : Array Tmp} {as_ bd : Code} {pd : Option Code} {Kt Kf : Mem → Own → Prop} {st : LoopState}
theorem TQ.eqL {Q : Post} {e : Exit} {L' : Own} (h : L = L') (k : TQ Q e F D G M L') : TQ Q e F D G M L := h ▸ k
theorem DropTo.selD {L L1 T : Own} {b : Nat} {o : Obj} (h : Sel L b o L1) (k : DropTo L1 T) : DropTo L ((b, o) :: T) := inferInstance
theorem TQ.on {L1 : Own} (Xn : Own) (hs : Sel L l (.loop (recOfLoop st pd fn tm ps as_ bd r)) L1) (hd : DropTo L1 Xn) (he : Xn = X ++ R) (hle : Le M0 M) (hk : Kt M (lrec l .ready none fn tm ps as_ bd r :: X)) :
  TQ (roundQ P l fun e w' => ∃ v M' X', e = .returned v ∧ Le M0 M' ∧ St G M' (R ++ X') w' ∧ ((v = .bool true ∧ Kt M' X') ∨ (v = .bool false ∧ Kf M' X'))) .normal F D G M L :=
 .dropTo _ (.selD hs hd) (.eqL (by rw [he]) (.round_on (st := st) (pd := pd) hle hk))
theorem TQ.off_ret {L1 : Own} (Xn : Own) (hs : Sel L l (.loop (recOfLoop st pd fn tm ps as_ bd r)) L1) (hd : DropTo L1 Xn) (he : Xn = X ++ R) (hle : Le M0 M) (hk : Kf M (lrec l .done (some .ret) fn tm ps as_ bd r :: X)) :
  TQ (roundQ P l fun e w' => ∃ v M' X', e = .returned v ∧ Le M0 M' ∧ St G M' (R ++ X') w' ∧ ((v = .bool true ∧ Kt M' X') ∨ (v = .bool false ∧ Kf M' X'))) .ret F D G M L :=
 .dropTo _ (.selD hs hd) (.eqL (by rw [he]) (.round_ret (st := st) (pd := pd) hle hk))
end
theorem x_join {P : Program} {n : Nat} {Q : Post} {F : Fr} {D : List Deferred} {G : World} {M : Mem} {L : Own} {a b : Code} (I : Fr → List Deferred → Mem → Own → Prop)
  (hb : ∀ F' D' M' L', I F' D' M' L' → T P n b Q F' D' G M' L') (ha : (∀ F' D' M' L', I F' D' M' L' → T P n b Q F' D' G M' L') → T P n a (thenQ P n b Q) F D G M L) : T P n (.seq a b) Q F D G M L := x_seq (ha hb)
instance {x : UInt8} : CellsOf (bv x) [bv x] := ⟨rfl⟩
section
variable {P : Program} {ty : TypeId} {F : Fr} {M : Mem} {L : Own}
theorem y_indexArrK {x ix : Operand} {t e : TypeId} {z z' : Value} {s b0 s' b' m : Nat} {d' : TypeDesc} [ti : TI P t (.array m e) z s b0] [te : TI P e d' z' s' b'] {b o o' mm : Nat} {k : IntKind} (j : Nat)
  (hx : ev F x = some (.pointer (some ⟨b, o, none⟩))) (hi : ev F ix = some (.int k (j : Int))) (h : j < m) [hm : MulN j s' mm] [ha : AddN o mm o'] :
  Yld P (.indexAddr t x ix) ty F M L (.pointer (some ⟨b, o', none⟩)) := by
 have := y_indexArr (P := P) (M := M) (L := L) (ty := ty) (t := t) hx hi (by omega)
 rw [Int.toNat_natCast, hm.eq, ha.eq] at this
 exact this
theorem y_indexAddrK {x ix : Operand} {t e : TypeId} {z z' : Value} {s b0 s' b' : Nat} {d' : TypeDesc} [ti : TI P t (.slice e) z s b0] [te : TI P e d' z' s' b'] {b o l c o' mm : Nat} {k : IntKind} (j : Nat)
  (hx : ev F x = some (.slice (some ⟨b, o, none⟩) l c)) (hi : ev F ix = some (.int k (j : Int))) (h : j < l) [hm : MulN j s' mm] [ha : AddN o mm o'] :
  Yld P (.indexAddr t x ix) ty F M L (.pointer (some ⟨b, o', none⟩)) := by
 have := y_indexAddr (P := P) (M := M) (L := L) (ty := ty) (t := t) hx hi (by omega)
 rw [Int.toNat_natCast, hm.eq, ha.eq] at this
 exact this
end
section
variable {P : Program} {ty : TypeId} {F : Fr} {M : Mem} {L : Own} {x y : Operand} {t t' : TypeId}
end
section
variable {P : Program} {n : Nat} {Q : Post} {F : Fr} {D : List Deferred} {G : World} {M M0 : Mem} {L L0 : Own} {ops : Array Oper} {rest : List Oper} {τ f : Nat} {X : Array Bool}
theorem TL.dropTo (T' : Own) (hd : DropTo L T') (h : TL P n ops rest Q F D G M T') : TL P n ops rest Q F D G M L := fun hok w a hw ha => h hok w a hw.dropTo ha
theorem TO.dropTo (T' : Own) (hd : DropTo L T') (h : TO P n ops τ M0 L0 f X Q F D G M T') : TO P n ops τ M0 L0 f X Q F D G M L := fun hok hkp w a hw ha hcl hs => h hok hkp w a hw.dropTo ha hcl hs
theorem TO.pubRow {R : Own} {e : TypeId} {s nn cap : Nat} {A : Option Addr} {vs : List Value} {E : Own} (ho : OwnRow e s A nn cap vs E) (h : ∀ M', Le M M' → Row M' s A nn cap vs → TO P n ops τ M0 L0 f X Q F D G M' R) : TO P n ops τ M0 L0 f X Q F D G M (E ++ R) := fun hok hkp w a hw ha hcl hs =>
 let ⟨M', h1, h2, h3⟩ := ho.pub hw
 h M' h1 h3 hok hkp w a h2 ha hcl hs
end
theorem Row.part {M : Mem} {b s n cap : Nat} {pre vs slack : List Value} {T : TypeId} {fr : Nat × Nat} (hM : M b = some (.cells (pre ++ (vs ++ slack)).toArray T fr)) (hl : vs.length = n * s) (hn : n ≤ cap) (h63 : cap ≤ 9223372036854775807) : Row M s (some ⟨b, pre.length, none⟩) n cap vs :=
 ⟨hl, hn, h63, fun _ => ⟨b, pre.length, _, T, fr, rfl, hM, fun j v hj => by
  rw [List.getElem?_toArray, List.getElem?_append_right (by omega), Nat.add_sub_cancel_left, List.getElem?_append_left (List.getElem?_eq_some_iff.1 hj).1]
  exact hj⟩⟩
theorem set_mid (pre vs slack : List Value) (j : Nat) (v : Value) (h : j < vs.length) : (pre ++ (vs ++ slack)).set (pre.length + j) v = pre ++ (vs.set j v ++ slack) := by
 rw [List.set_append_right _ _ (by omega), Nat.add_sub_cancel_left, List.set_append_left _ _ h]
theorem OwnRow.parts {e : TypeId} {s n cap : Nat} {A : Option Addr} {vs : List Value} {E : Own} (h : OwnRow e s A n cap vs E) (hn : 0 < n) : ∃ g pre slack, A = some ⟨g, pre.length, none⟩ ∧ E = [(g, .cells (pre ++ (vs ++ slack)).toArray e (0, 0))] := h.pos hn
theorem Row.cellsN {M : Mem} {s n cap : Nat} {A : Option Addr} {vs : List Value} (h : Row M s A n cap vs) (hn : 0 < n) : ∃ b o, A = some ⟨b, o, none⟩ ∧ ∀ L i m, i + m ≤ vs.length → CellsN M L ⟨b, o + i, none⟩ m ((vs.drop i).take m) := by
 obtain ⟨b, o, c, T, fr, e, hm, hc⟩ := h.at_ hn
 refine ⟨b, o, e, fun L i m hi => ⟨fun w hw j v hj => ?_, by simp; omega⟩⟩
 rw [add_plain, Nat.add_assoc]
 rw [List.getElem?_take] at hj
 split at hj
 ·
  rw [List.getElem?_drop] at hj
  exact cell_of (hw.ro _ _ hm) (hc _ v hj)
 cases hj
theorem CellsN.cell {M : Mem} {L : Own} {b o m : Nat} {vs : List Value} (h : CellsN M L ⟨b, o, none⟩ m vs) (j : Nat) {v : Value} (hj : vs[j]? = some v) : CellAt M L ⟨b, o + j, none⟩ v := fun w hw => by
 have := h.1 w hw j v hj
 rwa [add_plain] at this
end Go.Eng
namespace Go.Eng
def sB (bs : List UInt8) : ByteArray := ⟨bs.toArray⟩
theorem sB_size (bs : List UInt8) : (sB bs).size = bs.length := rfl
theorem toList_go (s : ByteArray) : ∀ (n i : Nat) (r : List UInt8), s.size - i = n → ByteArray.toList.loop s i r = r.reverse ++ s.data.toList.drop i
 | 0, i, r, h => by
  have hsz : s.size = s.data.toList.length := rfl
  unfold ByteArray.toList.loop
  have h1 : ¬ i < s.size := by omega
  rw [if_neg h1, List.drop_of_length_le (by omega), List.append_nil]
 | n + 1, i, r, h => by
  have hsz : s.size = s.data.toList.length := rfl
  unfold ByteArray.toList.loop
  have h1 : i < s.size := by omega
  rw [if_pos h1, toList_go s n (i + 1) _ (by omega)]
  have h2 : i < s.data.toList.length := by omega
  have h3 : s.get! i = s.data.toList[i] := by
   have h4 : i < s.data.size := h2
   show s.data[i]! = _
   rw [getElem!_pos s.data i h4]
   rfl
  rw [List.drop_eq_getElem_cons h2, List.reverse_cons, List.append_assoc, h3]
  rfl
theorem toList_sB (bs : List UInt8) : (sB bs).toList = bs := by
 unfold ByteArray.toList
 rw [toList_go _ _ 0 [] rfl]
 rfl
theorem toList_any (s : ByteArray) : s.toList = s.data.toList := by
 unfold ByteArray.toList
 rw [toList_go _ _ 0 [] rfl]
 rfl
theorem toList_inj {a b : ByteArray} : a.toList = b.toList ↔ a = b := by
 rw [toList_any, toList_any]
 constructor
 ·
  intro h; cases a; cases b; simp at h; simp [h]
 rintro rfl; rfl
theorem sB_inj {a b : List UInt8} : sB a = sB b ↔ a = b := by
 rw [← toList_inj, toList_sB, toList_sB]
theorem push_all : ∀ (bs : List UInt8) (s : ByteArray), (bs.map fun b => ((b.toNat : Nat) : Int)).foldl (fun r n => r.push (UInt8.ofNat n.toNat)) s = ⟨s.data ++ bs.toArray⟩
 | [], s => by simp
 | b :: bs, s => by
  rw [List.map_cons, List.foldl_cons, push_all bs]
  simp [ByteArray.push]
section
variable {P : Program} {ty : TypeId} {F : Fr} {M : Mem} {L : Own} {x y : Operand} {t t' : TypeId}
theorem y_toStr {e : TypeId} {z z0 z2 : Value} {s b0 b1 s2 b2 : Nat} [ti : TI P t (.slice e) z s b0] [te : TI P e (.int .u8) z0 1 b1] [ts : TI P t' .string z2 s2 b2] {A : Option Addr} {n c : Nat} {bs : List UInt8} (hx : ev F x = some (.slice A n c)) (h : Src M L 1 A n (bs.map bv)) :
  Yld P (.convert t t' x) ty F M L (.string (sB bs)) := fun w ρ hs hρ => by
 have hr : (convert t t' (.slice A n c)).run P w = .ok (.string (sB bs)) w := by
  rw [run_convert_bytes_string w t t' e A n c ti.und te.und ts.und]
  obtain ⟨hl, hh⟩ := h
  have hl : bs.length = n := by simpa using hl
  cases A with
  | none =>
   have : bs = [] := by
    rcases Nat.eq_zero_or_pos n with h0 | h0
    ·
     exact List.eq_nil_of_length_eq_zero (by omega)
    obtain ⟨ad, e, _⟩ := hh w hs (by omega); cases e
   subst this
   rfl
  | some ad =>
   have h1 := run_loadCells_list (P := P) (w := w) ad (bs.map bv) (fun j v hj => by
    have : 0 < n * 1 := by have := (List.getElem?_eq_some_iff.1 hj).1; simp at this; omega
    obtain ⟨ad', e', k⟩ := hh w hs this
    cases e'
    exact k j v hj)
   have h2 := run_bytesToString (P := P) w ad n c (bs.map fun b => ((b.toNat : Nat) : Int)) (by
    rw [List.length_map, hl] at h1
    rw [h1, List.map_map]; rfl)
   rw [h2, push_all]
   have e0 : ByteArray.empty.data = #[] := rfl
   simp [sB, e0]
 simp only [execOp, hρ _ _ hx, Sem.run_bind, hr, Result.andThen_ok, Sem.run_pure]
theorem y_eqlStr {a b : ByteArray} (hx : ev F x = some (.string a)) (hy : ev F y = some (.string b)) : Yld P (.binOp .eql t x y t') ty F M L (.bool (decide (a = b))) := fun w ρ hs hρ => by
 have hb : (a.toList == b.toList) = decide (a = b) := by
  rw [Bool.eq_iff_iff]; simp [toList_inj]
 have hr : (binOp .eql t (.string a) (.string b)).run P w = .ok (.bool (decide (a = b))) w := by
  simp only [binOp, Op.stringOp, Sem.run_pure, hb]
 simp only [execOp, hρ _ _ hx, hρ _ _ hy, Sem.run_bind, eqGuard_string, Result.andThen_ok, hr, Sem.run_pure]
theorem y_neqStr {a b : ByteArray} (hx : ev F x = some (.string a)) (hy : ev F y = some (.string b)) : Yld P (.binOp .neq t x y t') ty F M L (.bool (decide (a ≠ b))) := fun w ρ hs hρ => by
 have hb : (!(a.toList == b.toList)) = decide (a ≠ b) := by
  rw [Bool.eq_iff_iff]; simp [toList_inj]
 have hr : (binOp .neq t (.string a) (.string b)).run P w = .ok (.bool (decide (a ≠ b))) w := by
  simp only [binOp, Op.stringOp, Sem.run_pure, hb]
 simp only [execOp, hρ _ _ hx, hρ _ _ hy, Sem.run_bind, eqGuard_string, Result.andThen_ok, hr, Sem.run_pure]
end
section
variable {P : Program} {n : Nat} {Q : Post} {F : Fr} {D : List Deferred} {G : World} {M : Mem} {L L' : Own} {d : Option Tmp} {ty : TypeId} {K : Fr → List Deferred → Mem → Own → Prop}
theorem Src.take {s m k : Nat} {A : Option Addr} {vs : List Value} (h : Src M L s A m vs) (hk : k ≤ m) : Src M L s A k (vs.take (k * s)) := ⟨by
 have := h.1
 have h2 : k * s ≤ m * s := Nat.mul_le_mul_right _ hk
 rw [List.length_take]; omega, fun w hw h0 => by
 have h2 : k * s ≤ m * s := Nat.mul_le_mul_right _ hk
 obtain ⟨ad, e, hc⟩ := h.2 w hw (by omega)
 refine ⟨ad, e, fun j v hj => hc j v ?_⟩
 rw [List.getElem?_take] at hj
 split at hj
 ·
  exact hj
 cases hj⟩
theorem e_copy {t t2 e : TypeId} {xd xs : Operand} {z z0 : Value} {s0 b0 b1 : Nat} {de : TypeDesc} [ti : TI P t (.slice e) z0 s0 b0] [te : TI P e de z 1 b1] {dp sp : Option Addr} {dl dc sl sc b o : Nat} {c cs : List Value} {T : TypeId}
  (hd : ev F xd = some (.slice dp dl dc)) (hs : ev F xs = some (.slice sp sl sc)) (hn : cs.length = min sl dl) (hdp : 0 < cs.length → dp = some ⟨b, o, none⟩) (hsrc : Src M L 1 sp cs.length cs)
  (hh : Has L b (.cells c.toArray T (0, 0))) (hfit : o + cs.length ≤ c.length) (h1 : cs.all one = true) (hu : Upd L b (.cells c.toArray T (0, 0)) (.cells (c.take o ++ (cs ++ c.drop (o + cs.length))).toArray T (0, 0)) L')
  (h : K (putF d (.int .i64 cs.length) F) D M L') : Tr P n d (.call ⟨.builtin .copy, #[xd, xs], #[t, t2]⟩) ty Q F D G M L K := tr_value (fun c h => by cases h) fun w ρ hw hρ => by
 have hg := (hw.own _ hh.mem).1
 have hsz : (P.info? e).map (·.size) = some 1 := by obtain ⟨j, hj, _, hjs, _⟩ := te.parts; simp [hj, hjs]
 refine ⟨.int .i64 cs.length, w.setRow b (c.take o ++ (cs ++ c.drop (o + cs.length))).toArray, M, L', ?_, hw.upd hu rfl rfl rfl (setRow_heap w b _ _ T _ hg) (fun i hi => setRow_other w b i _ hi), h⟩
 have hrun : (Builtin.copy_ #[t, t2] ty #[.slice dp dl dc, .slice sp sl sc]).run P w = .ok (.int .i64 cs.length) (w.setRow b (c.take o ++ (cs ++ c.drop (o + cs.length))).toArray) := by
  rcases Nat.eq_zero_or_pos cs.length with h0 | h0
  ·
   have e0 : cs = [] := List.eq_nil_of_length_eq_zero h0
   subst e0
   have h2 := run_copy_none (P := P) w t t2 ty e dp sp dl dc sl sc ti.und hsz (by simpa [Nat.min_def] using hn.symm)
   rw [h2]
   simp only [List.length_nil, Nat.add_zero, List.nil_append, List.take_append_drop]
   rw [setRow_self w b _ T (0, 0) hg]
   rfl
  obtain ⟨ad, rfl, hc⟩ := hsrc.2 w hw.sees (by omega)
  obtain rfl := hdp h0
  have h2 := run_copy_row P w t t2 ty e b o dl dc ad sl sc c.toArray T cs ti.und hsz hg hn hc (by simpa using hfit) (fun v hv => List.all_eq_true.1 h1 v hv)
  rw [h2, List.append_assoc]
  rfl
 simp only [execOp, resolve, invoke, builtin, Sem.run_bind, Sem.run_pure, Result.andThen_ok, List.map_toArray, List.map_cons, List.map_nil, hρ _ _ hd, hρ _ _ hs, hrun]
theorem e_noZero {f : FuncId} {fn : Func} {t e : TypeId} {z z0 : Value} {s0 b0 b1 s1 : Nat} {de : TypeDesc} [ti : TI P t (.slice e) z0 s0 b0] [te : TI P e de z s1 b1] {ps : Array TypeId} {x : Operand} {tys : Array TypeId} {m : Int} (hf : P.funcs[f]? = some fn) (hname : (fn.name == "runtime.NumGoroutine") = false)
  (hb : fn.body.isNone = true) (hn : Extern.findNext fn = none) (he : Extern.find fn = some (Extern.BytealgMakeNoZero.makeNoZero ps #[t])) (hx : ev F x = some (.int .i64 m)) (hm : 0 ≤ m ∧ m ≤ 281474976710656)
  (h : ∀ b cs, m.toNat ≤ cs.length → cs.length ≤ 9223372036854775807 → K (putF d (.slice (some ⟨b, 0, none⟩) m.toNat cs.length) F) D M ((b, .cells (List.toArray cs) e (0, 0)) :: L)) :
  Tr P n d (.call ⟨.value (.func f), #[x], tys⟩) ty Q F D G M L K := tr_value (fun c h => by cases h) fun w ρ hw hρ => by
 obtain ⟨k, rfl⟩ : ∃ k : Nat, m = k := ⟨m.toNat, by omega⟩
 simp only [Int.toNat_natCast] at *
 obtain ⟨cs, hr, h1, h2⟩ := Lib.run_makeNoZero (P := P) w ps t e ti.und k (by omega)
 refine ⟨.slice (some ⟨w.heap.size, 0, none⟩) k cs.size, w.drew.drew.alloc (.cells cs e), M, _, ?_, ?_, h w.heap.size cs.toList (by simpa using h1) (by have := h2 (by simp only [maxLen]; omega); simp only [maxLen] at this; simpa using this)⟩
 ·
  have h3 := run_callFunc_extern hf hname hb hn he #[.int .i64 k] w
  rw [hr] at h3
  have e1 : ρ (.func f) = .func (.func f) #[] #[] := hρ _ _ rfl
  simp only [execOp, resolve, e1, Deferred.ofValue, Sem.run_bind, Sem.run_pure, Result.andThen_ok, invoke, List.map_toArray, List.map_cons, List.map_nil, hρ _ _ hx]
  simpa using h3
 exact St.alloc hw rfl rfl rfl rfl
theorem e_toBytes {t t' e : TypeId} {x : Operand} {z z0 z2 : Value} {s b0 s0 b1 s2 b2 : Nat} [ts : TI P t .string z s b0] [ti : TI P t' (.slice e) z0 s0 b1] [te : TI P e (.int .u8) z2 s2 b2] {v : ByteArray} (hx : ev F x = some (.string v)) (hv : v.size ≤ 9223372036854775807)
  (h : ∀ A c M', Le M M' → Bytes M' A v.size c v.data.toList → K (putF d (.slice A v.size c) F) D M' L) :
  Tr P n d (.convert t t' x) ty Q F D G M L K := tr_value (fun c h => by cases h) fun w ρ hw hρ => by
 have hr := Lib.run_convert_string_bytes (P := P) w t t' e v ts.und ti.und te.und
 have hcap := grownCap_le_maxLen w v.size 0 e (by simp only [maxLen]; omega)
 have hge := grownCap_ge w v.size 0 e
 simp only [maxLen] at hcap
 have hst : St G M ((w.heap.size, Obj.cells (Lib.bytesCells w e v) e ((Lib.bytesCells w e v).size, (Lib.bytesCells w e v).size + 1)) :: L) (Lib.bytesWorld w e v) := by
  have h0 := St.alloc (o := .cells (Lib.bytesCells w e v) e (0, 0)) (w' := w.drew.alloc (.cells (Lib.bytesCells w e v) e)) hw rfl rfl rfl rfl
  refine h0.set (w' := Lib.bytesWorld w e v) rfl rfl rfl (Lib.bytesWorld_at_new w e v) (fun i hi => ?_)
  show ((w.drew.alloc (.cells (Lib.bytesCells w e v) e)).heap.modify w.heap.size _)[i]? = _
  rw [Array.getElem?_modify, if_neg (Ne.symm hi)]
 obtain ⟨k1, k2, k3⟩ := hst.publish
 refine ⟨_, Lib.bytesWorld w e v, _, L, ?_, k1, h _ _ _ k2 ⟨by rw [List.length_map, Nat.mul_one]; rfl, hge, hcap, fun _ => ⟨w.heap.size, 0, _, e, _, rfl, k3, fun j u hj => ?_⟩⟩⟩
 ·
  simp only [execOp, hρ _ _ hx, Sem.run_bind, hr, Result.andThen_ok, Sem.run_pure]
 have hlt := (List.getElem?_eq_some_iff.1 hj).1
 rw [List.length_map] at hlt
 rw [Nat.zero_add]
 unfold Lib.bytesCells
 rw [Array.getElem?_append_left (by simpa using hlt), Array.getElem?_map, ← Array.getElem?_toList, ← hj, List.getElem?_map]
 rfl
end
end Go.Eng
