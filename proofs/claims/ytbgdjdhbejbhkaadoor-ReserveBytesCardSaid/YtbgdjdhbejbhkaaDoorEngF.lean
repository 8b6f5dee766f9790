/-
The walk engine: regions that draw their order.
-/
import Derived.Test.YtbgdjdhbejbhkaaDoorEngE
import Derived.StillTail
set_option linter.unusedVariables false
set_option linter.unusedSimpArgs false
namespace Go.Eng
open Go.Region (ready waitsFor)
/-! ### A region that draws its order -/
/-- What has come up is closed under what it waits for. -/
structure Cl (ops : Array Oper) (X : Array Bool) : Prop where
  size : X.size = ops.size
  closed : ∀ j oj, ops[j]? = some oj → X.getD j false = true → ∀ e ∈ oj.after, Region.binds .any e = true → X.getD e.on false = true
/-- Operation 'τ' has not come up. -/
def hd (τ : Nat) (X : Array Bool) : Prop := X.getD τ false = false
/-- Operation 'τ' waits for operation 'i'. -/
def tailB (ops : Array Oper) (τ i : Nat) : Bool :=
  Nat.ble ops.size τ || waitsFor .any ops τ i || (List.range ops.size).any fun j => waitsFor .any ops τ j && waitsFor .any ops j i
theorem hd_ne {τ i : Nat} {X : Array Bool} (h : i ≠ τ) : hd τ (X.setIfInBounds i true) ↔ hd τ X := by unfold hd; rw [getD_set_ne false h]
theorem hd_of {τ i : Nat} {X : Array Bool} (h : hd τ (X.setIfInBounds i true)) (hi : X.getD i false = false) : hd τ X := by
  by_cases hit : i = τ
  · subst hit; exact hi
  · exact (hd_ne hit).1 h
theorem Cl.start (ops : Array Oper) : Cl ops (Array.replicate ops.size false) :=
  ⟨by simp, fun j oj _ h => by rw [getD_replicate_false] at h; cases h⟩
theorem Cl.set {ops : Array Oper} {X : Array Bool} {i : Nat} (h : Cl ops X) (hi : i ∈ ready .any ops X) : Cl ops (X.setIfInBounds i true) := by
  obtain ⟨_, oi, hoi, hall⟩ := mem_ready.1 hi
  refine ⟨by simp [h.size], fun j oj hj hl e he hb => ?_⟩
  by_cases hij : i = j
  · subst hij
    have : oj = oi := Option.some.inj (hj.symm.trans hoi)
    subst this
    exact getD_set_true (hall e he hb)
  · rw [getD_set_ne false hij] at hl
    exact getD_set_true (h.closed j oj hj hl e he hb)
theorem Cl.back {ops : Array Oper} {X : Array Bool} {j i : Nat} (h : Cl ops X) (hw : waitsFor .any ops j i = true) (hx : X.getD i false = false) : X.getD j false = false := by
  cases hc : X.getD j false with
  | false => rfl
  | true =>
    obtain ⟨oj, hoj, e, he, hb, hon⟩ := Region.waitsFor_spec hw
    have := h.closed _ oj hoj hc e he hb
    rw [hon, hx] at this
    cases this
theorem Cl.tail {ops : Array Oper} {X : Array Bool} {τ : Nat} (h : Cl ops X) {i : Nat} (ht : tailB ops τ i = true) (hx : X.getD i false = false) : hd τ X := by
  simp only [tailB, Bool.or_eq_true, Bool.and_eq_true, List.mem_range, List.any_eq_true, Nat.ble_eq] at ht
  rcases ht with (ht | ht) | ⟨j, _, h1, h2⟩
  · unfold hd
    have : X[τ]? = none := Array.getElem?_eq_none (by rw [h.size]; exact ht)
    simp [Array.getD_eq_getD_getElem?, this]
  · exact h.back ht hx
  · exact h.back h1 (h.back h2 hx)
section
variable {P : Program} {ops : Array Oper} {Q : Exit → Act → World → Prop} {S : World → Prop} {τ : Nat} {ro : Option Nat}
/-- In state 'a', in every world that meets 'S', operation 'o' leaves 'v' in its temporary and does nothing else. -/
def YieldsS (P : Program) (ops : Array Oper) (ro : Option Nat) (S : World → Prop) (o : Oper) (v : Value) (a : Act) : Prop :=
  (Region.wanted o (yielded ops a.tmps) = true ∧ ∀ w, S w → (o.semAt ro a.eval).run P w = .ok (.value v) w) ∨
  (Region.wanted o (yielded ops a.tmps) = false ∧ v = undef)
theorem semAt_put (o : Oper) (hs : ∀ cs b, o.op ≠ .select cs b) (a : Act) (dst : Option Tmp) (v : Value) (h : ∀ d, dst = some d → d ∉ o.looksAt ops) : o.semAt ro (a.put dst v).eval = o.semAt ro a.eval := by
  have he : ∀ x ∈ o.op.operands, (a.put dst v).eval x = a.eval x := fun x hx => Act.eval_put fun d hd hxd => h d hd (by
    subst hxd
    exact List.mem_append_left _ (List.mem_filterMap.2 ⟨.tmp d, by simpa using hx, rfl⟩))
  unfold Oper.semAt
  cases ro with
  | none => exact execOp_put o hs a dst v h
  | some l =>
    split
    · rename_i l' c h1 h2
      rw [resolve_congr (ρ := (a.put dst v).eval) (ρ' := a.eval) c o.type (fun x hx => he x (by rw [h2]; simpa [Op.operands] using hx))]
    · exact execOp_put o hs a dst v h
theorem YieldsS.wpOpIn {i : Nat} {o : Oper} {v : Value} {a : Act} (hi : ops[i]? = some o) (hy : YieldsS P ops ro S o v a)
    {K : Act → World → Prop} {w : World} (hS : S w) (h : K (a.put o.dst v) w) : wpOpIn (fen ro) 0 P ops Q i K a w := by
  unfold Go.wpOpIn
  simp only [hi]
  rcases hy with ⟨hw, hv⟩ | ⟨hw, rfl⟩
  · simp only [hw, if_true, Oper.wpIn]
    refine ⟨fun _ _ => trivial, ?_⟩
    have : (o.semAt (fen ro).round a.eval).run P w = .ok (.value v) w := hv w hS
    rw [this]; exact h
  · simp only [hw, Bool.false_eq_true, if_false]; exact ⟨fun _ _ => trivial, h⟩
theorem YieldsS.of_same {o : Oper} {v : Value} {a a' : Act} (hy : YieldsS P ops ro S o v a) (he : o.semAt ro a'.eval = o.semAt ro a.eval)
    (hw : Region.wanted o (yielded ops a'.tmps) = Region.wanted o (yielded ops a.tmps)) : YieldsS P ops ro S o v a' := by
  unfold YieldsS at *
  rw [he, hw]
  exact hy
theorem wpOpIn_putS {j : Nat} {oi oj : Oper} {v : Value} (hj : ops[j]? = some oj) (hap : oi.apart ops oj = true)
    (hsi : ∀ cs b, oi.op ≠ .select cs b) (hsj : ∀ cs b, oj.op ≠ .select cs b)
    (hQ : ∀ c a w, Q (.panic c) (a.put oi.dst v) w → Q (.panic c) a w) {K : Act → World → Prop} {a : Act} {w : World}
    (hy : YieldsS P ops ro S oi v a) (h : wpOpIn (fen ro) 0 P ops Q j K (a.put oi.dst v) w) :
    wpOpIn (fen ro) 0 P ops Q j (fun a' w' => YieldsS P ops ro S oi v a' ∧ K (a'.put oi.dst v) w') a w := by
  obtain ⟨h1, h2, h3⟩ := Oper.apart_spec hap
  have keep : ∀ (a : Act), YieldsS P ops ro S oi v a → ∀ u, YieldsS P ops ro S oi v (a.put oj.dst u) := fun a hy u =>
    hy.of_same (semAt_put oi hsi a oj.dst u h3) (wanted_put oi a oj.dst u h3)
  have keepD : ∀ d, YieldsS P ops ro S oi v { a with defers := d :: a.defers } := fun d => hy.of_same rfl rfl
  unfold Go.wpOpIn at *
  simp only [hj] at *
  rw [wanted_put oj a oi.dst v h1] at h
  split
  · rename_i hw
    simp only [hw, if_true] at h
    unfold Oper.wpIn at *
    refine ⟨fun _ _ => trivial, ?_⟩
    have h := h.2
    rw [semAt_put oj hsj a oi.dst v h1] at h
    generalize (oj.semAt (fen ro).round a.eval).run P w = r at *
    cases r with
    | ok x w' =>
      cases x <;> simp only [Oper.uponIn] at h ⊢
      case value u => exact ⟨keep a hy u, by rw [← Act.put_comm a v u h2]; exact h⟩
      case skip => exact ⟨keep a hy _, by rw [← Act.put_comm a v undef h2]; exact h⟩
      case defer d =>
        refine ⟨keep _ (keepD d) _, ?_⟩
        rw [← Act.put_comm _ v undef h2, ← Act.put_defers]
        exact h
      case enter f args =>
        refine ⟨h.1, CallsIn.mono h.2 fun e w'' he => ?_⟩
        cases e with
        | returned u => exact ⟨keep a hy u, by rw [← Act.put_comm a v u h2]; exact he⟩
        | panicked c => exact hQ _ _ _ he
        | outgrown => exact he
      case row row args => exact ⟨h.1, RowsIn.mono h.2 fun u w'' he => ⟨keep a hy u, by rw [← Act.put_comm a v u h2]; exact he⟩⟩
      case round l f tmps assign body =>
        refine ⟨h.1, RoundIn.mono h.2 fun e w'' he => ?_⟩
        cases e with
        | returned u => exact ⟨keep a hy u, by rw [← Act.put_comm a v u h2]; exact he⟩
        | panicked c => exact hQ _ _ _ he
        | outgrown => exact he
    | halt x w' =>
      cases x <;> simp only [Oper.uponIn] at h ⊢
      case panic u => exact hQ _ _ _ h
  · rename_i hw
    simp only [hw] at h
    exact ⟨fun _ _ => trivial, keep a hy _, by rw [← Act.put_comm a v undef h2]; exact h.2⟩
/-- Whatever comes up next; ahead of the tail 'S' is to be shown anew behind each operation. -/
def wpAnyX (P : Program) (ro : Option Nat) (ops : Array Oper) (Q : Exit → Act → World → Prop) (S : World → Prop) (τ : Nat) : Nat → Array Bool → Act → World → Prop
  | 0, X, a, w => ready .any ops X = [] ∧ Q .normal a w
  | f + 1, X, a, w => (ready .any ops X = [] → Q .normal a w) ∧
    ∀ i ∈ ready .any ops X, wpOpIn (fen ro) 0 P ops Q i (fun a' w' => (hd τ (X.setIfInBounds i true) → S w') ∧ wpAnyX P ro ops Q S τ f (X.setIfInBounds i true) a' w') a w
theorem wpAny_of_X : ∀ (f : Nat) (X : Array Bool) (a : Act) (w : World), wpAnyX P ro ops Q S τ f X a w → wpAnyIn (fen ro) 0 P .any ops Q f X a w
  | 0, _, _, _, h => h
  | f + 1, _, _, _, h => ⟨h.1, fun i hi => wpOpIn_mono (fun a' w' hh => wpAny_of_X f _ a' w' hh.2) (h.2 i hi)⟩
theorem wpAnyX_first {i : Nat} {oi : Oper} {v : Value} {R : World → Prop} (hi : ops[i]? = some oi) (hsel : ∀ (j : Nat) (o : Oper) cs b, ops[j]? = some o → o.op ≠ .select cs b)
    (hQ : ∀ c a w, Q (.panic c) (a.put oi.dst v) w → Q (.panic c) a w) (hiτ : i ≠ τ) (hR : ∀ X w, Cl ops X → X.getD i false = false → (hd τ X → S w) → R w) : ∀ (f : Nat) (X : Array Bool) (a : Act) (w : World), Cl ops X →
      (∀ j oj, ops[j]? = some oj → j ≠ i → X.getD j true = false → (∀ e ∈ oj.after, Region.binds .any e = true → e.on ≠ i) → oi.apart ops oj = true) →
      i ∈ ready .any ops X → YieldsS P ops ro R oi v a → (hd τ X → S w) →
      wpAnyX P ro ops Q S τ f (X.setIfInBounds i true) (a.put oi.dst v) w → wpAnyX P ro ops Q S τ (f + 1) X a w := by
  intro f
  induction f with
  | zero =>
    intro X a w hcl _ hr hy hS H
    refine ⟨fun h => (by rw [h] at hr; cases hr), fun j hj => ?_⟩
    by_cases hji : j = i
    · subst hji; exact hy.wpOpIn hi (hR X w hcl (getD_both (mem_ready.1 hr).1) hS) ⟨fun hh => hS ((hd_ne hiτ).1 hh), H⟩
    · have := ready_mono hj hji
      rw [H.1] at this
      cases this
  | succ f ih =>
    intro X a w hcl hfree hr hy hS H
    refine ⟨fun h => (by rw [h] at hr; cases hr), fun j hj => ?_⟩
    by_cases hji : j = i
    · subst hji; exact hy.wpOpIn hi (hR X w hcl (getD_both (mem_ready.1 hr).1) hS) ⟨fun hh => hS ((hd_ne hiτ).1 hh), H⟩
    · have h1 := H.2 j (ready_mono hj hji)
      obtain ⟨hjun, oj, hoj, hall⟩ := mem_ready.1 hj
      have hnot : ∀ e ∈ oj.after, Region.binds .any e = true → e.on ≠ i := fun e he hb heq => by
        have h1 := hall e he hb
        have h0 := (mem_ready.1 hr).1
        rw [heq] at h1
        rcases Nat.lt_or_ge i X.size with h' | h'
        · simp [h'] at h0 h1; rw [h0] at h1; cases h1
        · simp [Array.getElem?_eq_none h'] at h1
      have h2 := wpOpIn_putS hoj (hfree j oj hoj hji hjun hnot) (fun cs b => hsel i oi cs b hi) (fun cs b => hsel j oj cs b hoj) hQ hy h1
      have hfree' : ∀ k ok, ops[k]? = some ok → k ≠ i → (X.setIfInBounds j true).getD k true = false →
          (∀ e ∈ ok.after, Region.binds .any e = true → e.on ≠ i) → oi.apart ops ok = true := fun k ok hk hki hun hno => by
        refine hfree k ok hk hki ?_ hno
        by_cases hjk : j = k
        · subst hjk; exact hjun
        · rw [getD_set_ne true hjk] at hun; exact hun
      have hclj := hcl.set hj
      have hback : hd τ (X.setIfInBounds j true) → hd τ ((X.setIfInBounds i true).setIfInBounds j true) := fun hh => by
        rw [Array.setIfInBounds_comm _ _ (Ne.symm hji)]
        exact (hd_ne hiτ).2 hh
      have hfwd : hd τ ((X.setIfInBounds j true)) → hd τ (X.setIfInBounds j true) := id
      refine wpOpIn_mono (fun a' w' h3 => ⟨fun hh => h3.2.1 (hback hh), ih (X.setIfInBounds j true) a' w' hclj hfree' (ready_mono hr (Ne.symm hji)) h3.1 (fun hh => h3.2.1 (hback hh)) ?_⟩) h2
      rw [Array.setIfInBounds_comm _ _ hji]
      exact h3.2.2
end
/-- The walk of a region that draws, at some number of operations that have come up: 'M0', 'L0' are the blocks that its reads may look at till the tail ('τ') begins. -/
def kpOk (Q : Post) (ops : Array Oper) : Bool := ops.toList.all fun o => match o.dst with | some d => !Q.kp.contains d | none => true
theorem kp_get {Q : Post} {ops : Array Oper} (h : kpOk Q ops = true) {i d : Nat} {op : Op} {ty : TypeId} {pos : String} {aft : Array Edge} {g : Option (Nat × Bool)} (hi : ops[i]? = some ⟨some d, op, ty, pos, aft, g⟩) : Q.kp.contains d = false := by
  have := List.all_eq_true.1 h ⟨some d, op, ty, pos, aft, g⟩ (by simpa using Array.mem_of_getElem? hi)
  simpa using this
def TO (P : Program) (n : Nat) (ops : Array Oper) (τ : Nat) (M0 : Mem) (L0 : Own) (f : Nat) (X : Array Bool) (Q : Post) (F : Fr) (D : List Deferred) (G : World) (M : Mem) (L : Own) : Prop :=
  ops.toList.all (okOp n) = true → kpOk Q ops = true → ∀ w a, St G M L w → Rel n a F D → Cl ops X → (hd τ X → Sees M0 L0 w) → wpAnyX P Q.ro ops (post n Q) (Sees M0 L0) τ f X a w
section
variable {P : Program} {n : Nat} {Q : Post} {F : Fr} {D : List Deferred} {G : World} {M M0 : Mem} {L L0 : Own} {ops : Array Oper} {τ f : Nat} {X : Array Bool}
/-- One of those that may come up comes up. -/
def wpTwo (P : Program) (n : Nat) (ops : Array Oper) (τ : Nat) (M0 : Mem) (L0 : Own) (f : Nat) (X : Array Bool) (Q : Post) (F : Fr) (D : List Deferred) (G : World) (M : Mem) (L : Own) (i : Nat) : Prop :=
  ops.toList.all (okOp n) = true → kpOk Q ops = true → ∀ w a, St G M L w → Rel n a F D → Cl ops X → (hd τ X → Sees M0 L0 w) → i ∈ ready .any ops X →
    wpOpIn (fen Q.ro) 0 P ops (post n Q) i (fun a' w' => (hd τ (X.setIfInBounds i true) → Sees M0 L0 w') ∧ wpAnyX P Q.ro ops (post n Q) (Sees M0 L0) τ f (X.setIfInBounds i true) a' w') a w
theorem x_draw {id : Nat} {l : List Oper} (τ : Nat) (hm : P.follows .mixedOrders = true) (hk : kpOk Q l.toArray = true) (h : TO P n l.toArray τ M L l.length (List.replicate l.length false).toArray Q F D G M L) : T P n (.region id l.toArray true) Q F D G M L := fun hok w a hw ha => by
  refine wpIn_region_any hm (wpAny_of_X (S := Sees M L) (τ := τ) _ _ _ _ ?_)
  have hcl := Cl.start l.toArray
  have e : Array.replicate l.toArray.size false = (List.replicate l.length false).toArray := by simp
  rw [e] at hcl ⊢
  exact h (by simpa [okCode] using hok) hk { w with drawn := w.drawn + 1 } a (hw.drawn _) ha hcl (fun _ => (hw.drawn _).sees)
theorem x_draw0 {id : Nat} {l : List Oper} (τ : Nat) (L0 : Own) (hsub : ∀ p ∈ L0, p ∈ L) (hm : P.follows .mixedOrders = true) (hk : kpOk Q l.toArray = true) (h : TO P n l.toArray τ M L0 l.length (List.replicate l.length false).toArray Q F D G M L) : T P n (.region id l.toArray true) Q F D G M L := fun hok w a hw ha => by
  refine wpIn_region_any hm (wpAny_of_X (S := Sees M L0) (τ := τ) _ _ _ _ ?_)
  have hcl := Cl.start l.toArray
  have e : Array.replicate l.toArray.size false = (List.replicate l.length false).toArray := by simp
  rw [e] at hcl ⊢
  exact h (by simpa [okCode] using hok) hk { w with drawn := w.drawn + 1 } a (hw.drawn _) ha hcl (fun _ => ⟨(hw.drawn _).ro, fun p hp => ((hw.drawn _).own p (hsub p hp)).1⟩)
theorem all_get {ops : Array Oper} (h : ops.toList.all (okOp n) = true) {i : Nat} {o : Oper} (hi : ops[i]? = some o) : okOp n o = true :=
  List.all_eq_true.1 h o (by simpa using Array.mem_of_getElem? hi)
/-- A read is taken next, whatever else could come up. -/
theorem to_y (i : Nat) {d : Tmp} {op : Op} {ty : TypeId} {pos : String} {aft : Array Edge} {g : Option (Nat × Bool)} {v : Value} (hi : ops[i]? = some ⟨some d, op, ty, pos, aft, g⟩)
    (hc : (Region.noSelect ops && tailB ops τ i && !Nat.beq i τ && Region.free .any ops X i && (ready .any ops X).contains i) = true)
    (hg : want ops F g = some true) (hy : Yld P op ty F M0 L0 v)
    (h : TO P n ops τ M0 L0 f (X.setIfInBounds i true) Q ((d, v) :: F) D G M L) : TO P n ops τ M0 L0 (f + 1) X Q F D G M L := fun hok hkp w a hw ha hcl hs => by
  simp only [Bool.and_eq_true, Bool.not_eq_true'] at hc
  obtain ⟨⟨⟨⟨c1, c2⟩, c3⟩, c4⟩, c5⟩ := hc
  have c3 : i ≠ τ := Nat.ne_of_beq_eq_false c3
  have hr : i ∈ ready .any ops X := by simpa using c5
  have hd : d < n := by have := all_get hok hi; simpa [okOp, Nat.blt_eq] using this
  have hy' : YieldsS P ops Q.ro (Sees M0 L0) ⟨some d, op, ty, pos, aft, g⟩ v a := .inl ⟨want_wanted (o := ⟨some d, op, ty, pos, aft, g⟩) hg ha, fun w' hw' => by
    rw [Oper.semAt_eq _ _ _ (hy.notDefer hw' (ρ := a.eval) (fun x u hx => ha.eval hx))]
    exact hy w' a.eval hw' (fun x u hx => ha.eval hx)⟩
  refine wpAnyX_first hi (Region.noSelect_spec c1) (fun c a' w hq => Q.ins c a' d v w (kp_get hkp hi) hq) c3 (fun X w h1 h2 h3 => h3 (h1.tail c2 h2)) f X a w hcl (Region.free_spec hi c4) hr hy' hs ?_
  exact h hok hkp w _ hw (ha.put hd v) (hcl.set hr) (fun hh => hs ((hd_ne c3).1 hh))
/-- What looks at no block (a move, a number ..) is taken next. -/
theorem to_p (i : Nat) {d : Tmp} {op : Op} {ty : TypeId} {pos : String} {aft : Array Edge} {g : Option (Nat × Bool)} {v : Value} (hi : ops[i]? = some ⟨some d, op, ty, pos, aft, g⟩)
    (hc : (Region.noSelect ops && !Nat.beq i τ && Region.free .any ops X i && (ready .any ops X).contains i) = true)
    (hg : want ops F g = some true) (hy : Yld P op ty F (fun _ => none) [] v)
    (h : TO P n ops τ M0 L0 f (X.setIfInBounds i true) Q ((d, v) :: F) D G M L) : TO P n ops τ M0 L0 (f + 1) X Q F D G M L := fun hok hkp w a hw ha hcl hs => by
  simp only [Bool.and_eq_true, Bool.not_eq_true'] at hc
  obtain ⟨⟨⟨c1, c3⟩, c4⟩, c5⟩ := hc
  have c3 : i ≠ τ := Nat.ne_of_beq_eq_false c3
  have hr : i ∈ ready .any ops X := by simpa using c5
  have hd : d < n := by have := all_get hok hi; simpa [okOp, Nat.blt_eq] using this
  have hsee : ∀ w, Sees (fun _ => none) [] w := fun w => ⟨fun b o h => (by cases h), fun p hp => (by cases hp)⟩
  have hy' : YieldsS P ops Q.ro (fun _ => True) ⟨some d, op, ty, pos, aft, g⟩ v a := .inl ⟨want_wanted (o := ⟨some d, op, ty, pos, aft, g⟩) hg ha, fun w' hw' => by
    rw [Oper.semAt_eq _ _ _ (hy.notDefer (hsee w') (ρ := a.eval) (fun x u hx => ha.eval hx))]
    exact hy w' a.eval (hsee w') (fun x u hx => ha.eval hx)⟩
  refine wpAnyX_first hi (Region.noSelect_spec c1) (fun c a' w hq => Q.ins c a' d v w (kp_get hkp hi) hq) c3 (fun X w h1 h2 h3 => trivial) f X a w hcl (Region.free_spec hi c4) hr hy' hs ?_
  exact h hok hkp w _ hw (ha.put hd v) (hcl.set hr) (fun hh => hs ((hd_ne c3).1 hh))
theorem to_skip (i : Nat) {d : Tmp} {op : Op} {ty : TypeId} {pos : String} {aft : Array Edge} {g : Option (Nat × Bool)} (hi : ops[i]? = some ⟨some d, op, ty, pos, aft, g⟩)
    (hc : (Region.noSelect ops && !Nat.beq i τ && Region.free .any ops X i && (ready .any ops X).contains i) = true)
    (hg : want ops F g = some false)
    (h : TO P n ops τ M0 L0 f (X.setIfInBounds i true) Q ((d, undef) :: F) D G M L) : TO P n ops τ M0 L0 (f + 1) X Q F D G M L := fun hok hkp w a hw ha hcl hs => by
  simp only [Bool.and_eq_true, Bool.not_eq_true'] at hc
  obtain ⟨⟨⟨c1, c3⟩, c4⟩, c5⟩ := hc
  have c3 : i ≠ τ := Nat.ne_of_beq_eq_false c3
  have hr : i ∈ ready .any ops X := by simpa using c5
  have hd : d < n := by have := all_get hok hi; simpa [okOp, Nat.blt_eq] using this
  have hy' : YieldsS P ops Q.ro (fun _ => True) ⟨some d, op, ty, pos, aft, g⟩ undef a := .inr ⟨want_wanted (o := ⟨some d, op, ty, pos, aft, g⟩) hg ha, rfl⟩
  refine wpAnyX_first hi (Region.noSelect_spec c1) (fun c a' w hq => Q.ins c a' d undef w (kp_get hkp hi) hq) c3 (fun X w h1 h2 h3 => trivial) f X a w hcl (Region.free_spec hi c4) hr hy' hs ?_
  exact h hok hkp w _ hw (ha.put hd undef) (hcl.set hr) (fun hh => hs ((hd_ne c3).1 hh))
/-- The one operation that can come up. -/
theorem to_sole (i : Nat) {d : Option Tmp} {op : Op} {ty : TypeId} {pos : String} {aft : Array Edge} {g : Option (Nat × Bool)} (hi : ops[i]? = some ⟨d, op, ty, pos, aft, g⟩)
    (hr : ready .any ops X = [i]) (hg : want ops F g = some true)
    (h : Tr P n d op ty Q F D G M L (fun F' D' M' L' => (hd τ (X.setIfInBounds i true) → ∀ w, St G M' L' w → Sees M0 L0 w) ∧ TO P n ops τ M0 L0 f (X.setIfInBounds i true) Q F' D' G M' L')) : TO P n ops τ M0 L0 (f + 1) X Q F D G M L := fun hok hkp w a hw ha hcl hs => by
  have hmem : i ∈ ready .any ops X := by rw [hr]; exact List.mem_cons_self
  refine ⟨fun h0 => (by rw [hr] at h0; cases h0), fun j hj => ?_⟩
  obtain rfl : j = i := by rw [hr] at hj; simpa using hj
  unfold wpOpIn
  simp only [hi]
  rw [if_pos (want_wanted (o := ⟨d, op, ty, pos, aft, g⟩) hg ha)]
  have hokj := all_get hok hi
  have h1 := h hokj w a hw ha
  refine Oper.wpIn_mono (K := fun a' w' => ∃ F' D' M' L', Rel n a' F' D' ∧ St G M' L' w' ∧ ((hd τ (X.setIfInBounds j true) → ∀ w, St G M' L' w → Sees M0 L0 w) ∧ TO P n ops τ M0 L0 f (X.setIfInBounds j true) Q F' D' G M' L'))
    (fun a' w' ⟨F', D', M', L', hr', hs', hk1, hk2⟩ => ⟨fun hh => hk1 hh w' hs', hk2 hok hkp w' a' hs' hr' (hcl.set hmem) (fun hh => hk1 hh w' hs')⟩) ?_
  exact h1
/-- Two operations may come up. -/
theorem to_two (i j : Nat) (hr : ready .any ops X = [i, j]) (h1 : wpTwo P n ops τ M0 L0 f X Q F D G M L i) (h2 : wpTwo P n ops τ M0 L0 f X Q F D G M L j) : TO P n ops τ M0 L0 (f + 1) X Q F D G M L := fun hok hkp w a hw ha hcl hs => by
  refine ⟨fun h0 => (by rw [hr] at h0; cases h0), fun k hk => ?_⟩
  have hk' := hk
  rw [hr] at hk'
  simp only [List.mem_cons, List.not_mem_nil, or_false] at hk'
  rcases hk' with rfl | rfl
  · exact h1 hok hkp w a hw ha hcl hs hk
  · exact h2 hok hkp w a hw ha hcl hs hk
/-- No entry is lost. -/
class Keeps (L0 L' : Own) : Prop where
  mem : ∀ p ∈ L0, p ∈ L'
instance (priority := 1200) {L : Own} : Keeps L L := ⟨fun _ h => h⟩
instance {L0 L' : Own} {e : Nat × Obj} [h : Keeps L0 L'] : Keeps L0 (e :: L') := ⟨fun p hp => List.mem_cons_of_mem _ (h.mem p hp)⟩
instance {L0 L' E : Own} [h : Keeps L0 L'] : Keeps L0 (E ++ L') := ⟨fun p hp => List.mem_append_right _ (h.mem p hp)⟩
instance (priority := 900) {L' : Own} : Keeps [] L' := ⟨fun p h => by cases h⟩
instance (priority := 900) {L0 L' : Own} {b : Nat} {o : Obj} [h : Has L' b o] [k : Keeps L0 L'] : Keeps ((b, o) :: L0) L' := ⟨fun p hp => by
  rcases List.mem_cons.1 hp with rfl | hp
  · exact h.mem
  · exact k.mem p hp⟩
/-- What is read is still there. -/
theorem keep {M' : Mem} {L' : Own} (hle : Le M0 M') (hsub : ∀ p ∈ L0, p ∈ L') (w : World) (hw : St G M' L' w) : Sees M0 L0 w :=
  ⟨fun b o h => hw.ro b o (hle b o h), fun p hp => (hw.own p (hsub p hp)).1⟩
theorem to_e (i : Nat) {d : Option Tmp} {op : Op} {ty : TypeId} {pos : String} {aft : Array Edge} {g : Option (Nat × Bool)} (hi : ops[i]? = some ⟨d, op, ty, pos, aft, g⟩)
    (hr : ready .any ops X = [i]) (hg : want ops F g = some true)
    (h : Tr P n d op ty Q F D G M L (fun F' D' M' L' => (Le M0 M' ∧ ∀ p ∈ L0, p ∈ L') ∧ TO P n ops τ M0 L0 f (X.setIfInBounds i true) Q F' D' G M' L')) : TO P n ops τ M0 L0 (f + 1) X Q F D G M L :=
  to_sole i hi hr hg (fun hok w a hw ha => Oper.wpIn_mono (fun a' w' ⟨F', D', M', L', h1, h2, h3, h4⟩ => ⟨F', D', M', L', h1, h2, fun _ => keep h3.1 h3.2, h4⟩) (h hok w a hw ha))
/-- An operation of the tail. -/
theorem to_t (i : Nat) {d : Option Tmp} {op : Op} {ty : TypeId} {pos : String} {aft : Array Edge} {g : Option (Nat × Bool)} (hi : ops[i]? = some ⟨d, op, ty, pos, aft, g⟩)
    (hr : ready .any ops X = [i]) (hτ : (X.setIfInBounds i true).getD τ false = true) (hg : want ops F g = some true)
    (h : Tr P n d op ty Q F D G M L (fun F' D' M' L' => TO P n ops τ M0 L0 f (X.setIfInBounds i true) Q F' D' G M' L')) : TO P n ops τ M0 L0 (f + 1) X Q F D G M L :=
  to_sole i hi hr hg (fun hok w a hw ha => Oper.wpIn_mono (fun a' w' ⟨F', D', M', L', h1, h2, h4⟩ => ⟨F', D', M', L', h1, h2, fun hh => absurd hh (by unfold hd; rw [hτ]; simp), h4⟩) (h hok w a hw ha))
theorem two_e (i : Nat) {d : Option Tmp} {op : Op} {ty : TypeId} {pos : String} {aft : Array Edge} {g : Option (Nat × Bool)} (hi : ops[i]? = some ⟨d, op, ty, pos, aft, g⟩) (hg : want ops F g = some true)
    (h : Tr P n d op ty Q F D G M L (fun F' D' M' L' => (Le M0 M' ∧ ∀ p ∈ L0, p ∈ L') ∧ TO P n ops τ M0 L0 f (X.setIfInBounds i true) Q F' D' G M' L')) : wpTwo P n ops τ M0 L0 f X Q F D G M L i := fun hok hkp w a hw ha hcl hs hmem => by
  unfold wpOpIn
  simp only [hi]
  rw [if_pos (want_wanted (o := ⟨d, op, ty, pos, aft, g⟩) hg ha)]
  have hokj := all_get hok hi
  have h1 := h hokj w a hw ha
  exact Oper.wpIn_mono (K := fun a' w' => ∃ F' D' M' L', Rel n a' F' D' ∧ St G M' L' w' ∧ ((Le M0 M' ∧ ∀ p ∈ L0, p ∈ L') ∧ TO P n ops τ M0 L0 f (X.setIfInBounds i true) Q F' D' G M' L'))
    (fun a' w' ⟨F', D', M', L', hr', hs', hk1, hk2⟩ => ⟨fun hh => keep hk1.1 hk1.2 w' hs', hk2 hok hkp w' a' hs' hr' (hcl.set hmem) (fun hh => keep hk1.1 hk1.2 w' hs')⟩) h1
/-- A read that is the one operation that can come up. -/
theorem to_y1 (i : Nat) {d : Tmp} {op : Op} {ty : TypeId} {pos : String} {aft : Array Edge} {g : Option (Nat × Bool)} {v : Value} (hi : ops[i]? = some ⟨some d, op, ty, pos, aft, g⟩)
    (hr : ready .any ops X = [i]) (hg : want ops F g = some true) (hy : Yld P op ty F M L v)
    (h : TO P n ops τ M0 L0 f (X.setIfInBounds i true) Q ((d, v) :: F) D G M L) : TO P n ops τ M0 L0 (f + 1) X Q F D G M L := fun hok hkp w a hw ha hcl hs => by
  have hmem : i ∈ ready .any ops X := by rw [hr]; exact List.mem_cons_self
  refine ⟨fun h0 => (by rw [hr] at h0; cases h0), fun j hj => ?_⟩
  obtain rfl : j = i := by rw [hr] at hj; simpa using hj
  unfold wpOpIn
  simp only [hi]
  rw [if_pos (want_wanted (o := ⟨some d, op, ty, pos, aft, g⟩) hg ha)]
  have hd' : d < n := by have := all_get hok hi; simpa [okOp, Nat.blt_eq] using this
  have hsub : hd τ (X.setIfInBounds j true) → Sees M0 L0 w := fun hh => hs (hd_of hh (getD_both (mem_ready.1 hmem).1))
  exact hy.wpIn hw.sees (fun x u hx => ha.eval hx) ⟨hsub, h hok hkp w _ hw (ha.put hd' v) (hcl.set hmem) hsub⟩
theorem to_nil (hr : ready .any ops X = []) (h : TQ Q .normal F D G M L) : TO P n ops τ M0 L0 f X Q F D G M L := fun hok hkp w a hw ha hcl hs => by
  cases f with
  | zero => exact ⟨hr, F, D, ha, h w hw⟩
  | succ f => exact ⟨fun _ => ⟨F, D, ha, h w hw⟩, fun i hi => (by rw [hr] at hi; cases hi)⟩
theorem to_cases {s : Nat} {p : Prop} [Decidable p] (hs : look F s = some (.bool (decide p))) (ht : p → TO P n ops τ M0 L0 f X Q ((s, .bool true) :: F) D G M L)
    (hf : ¬ p → TO P n ops τ M0 L0 f X Q ((s, .bool false) :: F) D G M L) : TO P n ops τ M0 L0 f X Q F D G M L := fun hok hkp w a hw ha => by
  by_cases hp : p
  · refine ht hp hok hkp w a hw (ha.sub' ?_)
    simp only [hp, decide_true] at hs
    exact hs
  · refine hf hp hok hkp w a hw (ha.sub' ?_)
    simp only [hp, decide_false] at hs
    exact hs
theorem to_casesb {s : Nat} {t : Bool} (hs : look F s = some (.bool t)) (ht : t = true → TO P n ops τ M0 L0 f X Q ((s, .bool true) :: F) D G M L)
    (hf : t = false → TO P n ops τ M0 L0 f X Q ((s, .bool false) :: F) D G M L) : TO P n ops τ M0 L0 f X Q F D G M L := fun hok hkp w a hw ha => by
  cases t with
  | true => exact ht rfl hok hkp w a hw (ha.sub' hs)
  | false => exact hf rfl hok hkp w a hw (ha.sub' hs)
theorem to_set {s : Nat} {v u : Value} (hs : look F s = some v) (he : v = u) (h : TO P n ops τ M0 L0 f X Q ((s, u) :: F) D G M L) : TO P n ops τ M0 L0 f X Q F D G M L := fun hok hkp w a hw ha =>
  h hok hkp w a hw (ha.sub' (he ▸ hs))
theorem TO.perm {L' : Own} (hp : L.Perm L') (h : TO P n ops τ M0 L0 f X Q F D G M L') : TO P n ops τ M0 L0 f X Q F D G M L := fun hok hkp w a hw ha => h hok hkp w a (hw.perm hp) ha
end
end Go.Eng
