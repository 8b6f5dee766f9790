/-
The walk engine: regions that draw their order. The walk engine: rows of bytes, entries. The walk engine: panics, deferred calls.
-/
import Derived.Test.YtplkoemjffplcaaGreatDoorEngCEtc
import Derived.StillTail
set_option linter.all false
namespace Go.Eng
open Go.Region (ready waitsFor)
structure Cl (ops : Array Oper) (X : Array Bool) : Prop where
 size : X.size = ops.size
 closed : ∀ j oj, ops[j]? = some oj → X.getD j false = true → ∀ e ∈ oj.after, Region.binds .any e = true → X.getD e.on false = true
def hd (τ : Nat) (X : Array Bool) : Prop := X.getD τ false = false
def tailB (ops : Array Oper) (τ i : Nat) : Bool :=
 Nat.ble ops.size τ || waitsFor .any ops τ i || (List.range ops.size).any fun j => waitsFor .any ops τ j && waitsFor .any ops j i
theorem hd_ne {τ i : Nat} {X : Array Bool} (h : i ≠ τ) : hd τ (X.setIfInBounds i true) ↔ hd τ X := by unfold hd; rw [getD_set_ne false h]
theorem hd_of {τ i : Nat} {X : Array Bool} (h : hd τ (X.setIfInBounds i true)) (hi : X.getD i false = false) : hd τ X := by
 by_cases hit : i = τ
 ·
  subst hit; exact hi
 exact (hd_ne hit).1 h
theorem Cl.start (ops : Array Oper) : Cl ops (Array.replicate ops.size false) :=
 ⟨by simp, fun j oj _ h => by rw [getD_replicate_false] at h; cases h⟩
theorem Cl.set {ops : Array Oper} {X : Array Bool} {i : Nat} (h : Cl ops X) (hi : i ∈ ready .any ops X) : Cl ops (X.setIfInBounds i true) := by
 obtain ⟨_, oi, hoi, hall⟩ := mem_ready.1 hi
 refine ⟨by simp [h.size], fun j oj hj hl e he hb => ?_⟩
 by_cases hij : i = j
 ·
  subst hij
  have : oj = oi := Option.some.inj (hj.symm.trans hoi)
  subst this
  exact getD_set_true (hall e he hb)
 rw [getD_set_ne false hij] at hl
 exact getD_set_true (h.closed j oj hj hl e he hb)
theorem Cl.back {ops : Array Oper} {X : Array Bool} {j i : Nat} (h : Cl ops X) (hw : waitsFor .any ops j i = true) (hx : X.getD i false = false) : X.getD j false = false := by
 cases hc : X.getD j false with
 | false => rfl
 | true =>
  obtain ⟨oj, hoj, e, he, hb, hon⟩ := Region.waitsFor_spec hw
  have := h.closed _ oj hoj hc e he hb
  rw [hon, hx] at this
  cases this
theorem Cl.tail {ops : Array Oper} {X : Array Bool} {τ : Nat} (h : Cl ops X) {i : Nat} (ht : tailB ops τ i = true) (hx : X.getD i false = false) : hd τ X := by
 simp only [tailB, Bool.or_eq_true, Bool.and_eq_true, List.mem_range, List.any_eq_true, Nat.ble_eq] at ht
 rcases ht with (ht | ht) | ⟨j, _, h1, h2⟩
 ·
  unfold hd
  have : X[τ]? = none := Array.getElem?_eq_none (by rw [h.size]; exact ht)
  simp [Array.getD_eq_getD_getElem?, this]
 ·
  exact h.back ht hx
 exact h.back h1 (h.back h2 hx)
section
variable {P : Program} {ops : Array Oper} {Q : Exit → Act → World → Prop} {S : World → Prop} {τ : Nat} {ro : Option Nat}
def YieldsS (P : Program) (ops : Array Oper) (ro : Option Nat) (S : World → Prop) (o : Oper) (v : Value) (a : Act) : Prop :=
 (Region.wanted o (yielded ops a.tmps) = true ∧ ∀ w, S w → (o.semAt ro a.eval).run P w = .ok (.value v) w) ∨
 (Region.wanted o (yielded ops a.tmps) = false ∧ v = undef)
theorem semAt_put (o : Oper) (hs : ∀ cs b, o.op ≠ .select cs b) (a : Act) (dst : Option Tmp) (v : Value) (h : ∀ d, dst = some d → d ∉ o.looksAt ops) : o.semAt ro (a.put dst v).eval = o.semAt ro a.eval := by
 have he : ∀ x ∈ o.op.operands, (a.put dst v).eval x = a.eval x := fun x hx => Act.eval_put fun d hd hxd => h d hd (by
  subst hxd
  exact List.mem_append_left _ (List.mem_filterMap.2 ⟨.tmp d, by simpa using hx, rfl⟩))
 unfold Oper.semAt
 cases ro with
 | none => exact execOp_put o hs a dst v h
 | some l =>
  split
  ·
   rename_i l' c h1 h2
   rw [resolve_congr (ρ := (a.put dst v).eval) (ρ' := a.eval) c o.type (fun x hx => he x (by rw [h2]; simpa [Op.operands] using hx))]
  exact execOp_put o hs a dst v h
theorem YieldsS.wpOpIn {i : Nat} {o : Oper} {v : Value} {a : Act} (hi : ops[i]? = some o) (hy : YieldsS P ops ro S o v a)
  {K : Act → World → Prop} {w : World} (hS : S w) (h : K (a.put o.dst v) w) : wpOpIn (fen ro) 0 P ops Q i K a w := by
 unfold Go.wpOpIn
 simp only [hi]
 rcases hy with ⟨hw, hv⟩ | ⟨hw, rfl⟩
 ·
  simp only [hw, if_true, Oper.wpIn]
  refine ⟨fun _ _ => trivial, ?_⟩
  have : (o.semAt (fen ro).round a.eval).run P w = .ok (.value v) w := hv w hS
  rw [this]; exact h
 simp only [hw, Bool.false_eq_true, if_false]; exact ⟨fun _ _ => trivial, h⟩
theorem YieldsS.of_same {o : Oper} {v : Value} {a a' : Act} (hy : YieldsS P ops ro S o v a) (he : o.semAt ro a'.eval = o.semAt ro a.eval)
  (hw : Region.wanted o (yielded ops a'.tmps) = Region.wanted o (yielded ops a.tmps)) : YieldsS P ops ro S o v a' := by
 unfold YieldsS at *
 rw [he, hw]
 exact hy
theorem wpOpIn_putS {j : Nat} {oi oj : Oper} {v : Value} (hj : ops[j]? = some oj) (hap : oi.apart ops oj = true)
  (hsi : ∀ cs b, oi.op ≠ .select cs b) (hsj : ∀ cs b, oj.op ≠ .select cs b)
  (hQ : ∀ c a w, Q (.panic c) (a.put oi.dst v) w → Q (.panic c) a w) {K : Act → World → Prop} {a : Act} {w : World}
  (hy : YieldsS P ops ro S oi v a) (h : wpOpIn (fen ro) 0 P ops Q j K (a.put oi.dst v) w) :
  wpOpIn (fen ro) 0 P ops Q j (fun a' w' => YieldsS P ops ro S oi v a' ∧ K (a'.put oi.dst v) w') a w := by
 obtain ⟨h1, h2, h3⟩ := Oper.apart_spec hap
 have keep : ∀ (a : Act), YieldsS P ops ro S oi v a → ∀ u, YieldsS P ops ro S oi v (a.put oj.dst u) := fun a hy u =>
  hy.of_same (semAt_put oi hsi a oj.dst u h3) (wanted_put oi a oj.dst u h3)
 have keepD : ∀ d, YieldsS P ops ro S oi v { a with defers := d :: a.defers } := fun d => hy.of_same rfl rfl
 unfold Go.wpOpIn at *
 simp only [hj] at *
 rw [wanted_put oj a oi.dst v h1] at h
 split
 ·
  rename_i hw
  simp only [hw, if_true] at h
  unfold Oper.wpIn at *
  refine ⟨fun _ _ => trivial, ?_⟩
  have h := h.2
  rw [semAt_put oj hsj a oi.dst v h1] at h
  generalize (oj.semAt (fen ro).round a.eval).run P w = r at *
  cases r with
  | ok x w' =>
   cases x <;> simp only [Oper.uponIn] at h ⊢
   case value u => exact ⟨keep a hy u, by rw [← Act.put_comm a v u h2]; exact h⟩
   case skip => exact ⟨keep a hy _, by rw [← Act.put_comm a v undef h2]; exact h⟩
   case defer d =>
    refine ⟨keep _ (keepD d) _, ?_⟩
    rw [← Act.put_comm _ v undef h2, ← Act.put_defers]
    exact h
   case enter f args =>
    refine ⟨h.1, CallsIn.mono h.2 fun e w'' he => ?_⟩
    cases e with
    | returned u => exact ⟨keep a hy u, by rw [← Act.put_comm a v u h2]; exact he⟩
    | panicked c => exact hQ _ _ _ he
    | outgrown => exact he
   case row row args => exact ⟨h.1, RowsIn.mono h.2 fun u w'' he => ⟨keep a hy u, by rw [← Act.put_comm a v u h2]; exact he⟩⟩
   case round l f tmps assign body =>
    refine ⟨h.1, RoundIn.mono h.2 fun e w'' he => ?_⟩
    cases e with
    | returned u => exact ⟨keep a hy u, by rw [← Act.put_comm a v u h2]; exact he⟩
    | panicked c => exact hQ _ _ _ he
    | outgrown => exact he
  | halt x w' =>
   cases x <;> simp only [Oper.uponIn] at h ⊢
   case panic u => exact hQ _ _ _ h
 rename_i hw
 simp only [hw] at h
 exact ⟨fun _ _ => trivial, keep a hy _, by rw [← Act.put_comm a v undef h2]; exact h.2⟩
def wpAnyX (P : Program) (ro : Option Nat) (ops : Array Oper) (Q : Exit → Act → World → Prop) (S : World → Prop) (τ : Nat) : Nat → Array Bool → Act → World → Prop
 | 0, X, a, w => ready .any ops X = [] ∧ Q .normal a w
 | f + 1, X, a, w => (ready .any ops X = [] → Q .normal a w) ∧
  ∀ i ∈ ready .any ops X, wpOpIn (fen ro) 0 P ops Q i (fun a' w' => (hd τ (X.setIfInBounds i true) → S w') ∧ wpAnyX P ro ops Q S τ f (X.setIfInBounds i true) a' w') a w
theorem wpAny_of_X : ∀ (f : Nat) (X : Array Bool) (a : Act) (w : World), wpAnyX P ro ops Q S τ f X a w → wpAnyIn (fen ro) 0 P .any ops Q f X a w
 | 0, _, _, _, h => h
 | f + 1, _, _, _, h => ⟨h.1, fun i hi => wpOpIn_mono (fun a' w' hh => wpAny_of_X f _ a' w' hh.2) (h.2 i hi)⟩
theorem wpAnyX_first {i : Nat} {oi : Oper} {v : Value} {R : World → Prop} (hi : ops[i]? = some oi) (hsel : ∀ (j : Nat) (o : Oper) cs b, ops[j]? = some o → o.op ≠ .select cs b)
  (hQ : ∀ c a w, Q (.panic c) (a.put oi.dst v) w → Q (.panic c) a w) (hiτ : i ≠ τ) (hR : ∀ X w, Cl ops X → X.getD i false = false → (hd τ X → S w) → R w) : ∀ (f : Nat) (X : Array Bool) (a : Act) (w : World), Cl ops X →
   (∀ j oj, ops[j]? = some oj → j ≠ i → X.getD j true = false → (∀ e ∈ oj.after, Region.binds .any e = true → e.on ≠ i) → oi.apart ops oj = true) →
   i ∈ ready .any ops X → YieldsS P ops ro R oi v a → (hd τ X → S w) →
   wpAnyX P ro ops Q S τ f (X.setIfInBounds i true) (a.put oi.dst v) w → wpAnyX P ro ops Q S τ (f + 1) X a w := by
 intro f
 induction f with
 | zero =>
  intro X a w hcl _ hr hy hS H
  refine ⟨fun h => (by rw [h] at hr; cases hr), fun j hj => ?_⟩
  by_cases hji : j = i
  ·
   subst hji; exact hy.wpOpIn hi (hR X w hcl (getD_both (mem_ready.1 hr).1) hS) ⟨fun hh => hS ((hd_ne hiτ).1 hh), H⟩
  have := ready_mono hj hji
  rw [H.1] at this
  cases this
 | succ f ih =>
  intro X a w hcl hfree hr hy hS H
  refine ⟨fun h => (by rw [h] at hr; cases hr), fun j hj => ?_⟩
  by_cases hji : j = i
  ·
   subst hji; exact hy.wpOpIn hi (hR X w hcl (getD_both (mem_ready.1 hr).1) hS) ⟨fun hh => hS ((hd_ne hiτ).1 hh), H⟩
  have h1 := H.2 j (ready_mono hj hji)
  obtain ⟨hjun, oj, hoj, hall⟩ := mem_ready.1 hj
  have hnot : ∀ e ∈ oj.after, Region.binds .any e = true → e.on ≠ i := fun e he hb heq => by
   have h1 := hall e he hb
   have h0 := (mem_ready.1 hr).1
   rw [heq] at h1
   rcases Nat.lt_or_ge i X.size with h' | h'
   ·
    simp [h'] at h0 h1; rw [h0] at h1; cases h1
   simp [Array.getElem?_eq_none h'] at h1
  have h2 := wpOpIn_putS hoj (hfree j oj hoj hji hjun hnot) (fun cs b => hsel i oi cs b hi) (fun cs b => hsel j oj cs b hoj) hQ hy h1
  have hfree' : ∀ k ok, ops[k]? = some ok → k ≠ i → (X.setIfInBounds j true).getD k true = false →
    (∀ e ∈ ok.after, Region.binds .any e = true → e.on ≠ i) → oi.apart ops ok = true := fun k ok hk hki hun hno => by
   refine hfree k ok hk hki ?_ hno
   by_cases hjk : j = k
   ·
    subst hjk; exact hjun
   rw [getD_set_ne true hjk] at hun; exact hun
  have hclj := hcl.set hj
  have hback : hd τ (X.setIfInBounds j true) → hd τ ((X.setIfInBounds i true).setIfInBounds j true) := fun hh => by
   rw [Array.setIfInBounds_comm _ _ (Ne.symm hji)]
   exact (hd_ne hiτ).2 hh
  have hfwd : hd τ ((X.setIfInBounds j true)) → hd τ (X.setIfInBounds j true) := id
  refine wpOpIn_mono (fun a' w' h3 => ⟨fun hh => h3.2.1 (hback hh), ih (X.setIfInBounds j true) a' w' hclj hfree' (ready_mono hr (Ne.symm hji)) h3.1 (fun hh => h3.2.1 (hback hh)) ?_⟩) h2
  rw [Array.setIfInBounds_comm _ _ hji]
  exact h3.2.2
end
def kpOk (Q : Post) (ops : Array Oper) : Bool := ops.toList.all fun o => match o.dst with | some d => !Q.kp.contains d | none => true
theorem kp_get {Q : Post} {ops : Array Oper} (h : kpOk Q ops = true) {i d : Nat} {op : Op} {ty : TypeId} {pos : String} {aft : Array Edge} {g : Option (Nat × Bool)} (hi : ops[i]? = some ⟨some d, op, ty, pos, aft, g⟩) : Q.kp.contains d = false := by
 have := List.all_eq_true.1 h ⟨some d, op, ty, pos, aft, g⟩ (by simpa using Array.mem_of_getElem? hi)
 simpa using this
def TO (P : Program) (n : Nat) (ops : Array Oper) (τ : Nat) (M0 : Mem) (L0 : Own) (f : Nat) (X : Array Bool) (Q : Post) (F : Fr) (D : List Deferred) (G : World) (M : Mem) (L : Own) : Prop :=
 ops.toList.all (okOp n) = true → kpOk Q ops = true → ∀ w a, St G M L w → Rel n a F D → Cl ops X → (hd τ X → Sees M0 L0 w) → wpAnyX P Q.ro ops (post n Q) (Sees M0 L0) τ f X a w
section
variable {P : Program} {n : Nat} {Q : Post} {F : Fr} {D : List Deferred} {G : World} {M M0 : Mem} {L L0 : Own} {ops : Array Oper} {τ f : Nat} {X : Array Bool}
def wpTwo (P : Program) (n : Nat) (ops : Array Oper) (τ : Nat) (M0 : Mem) (L0 : Own) (f : Nat) (X : Array Bool) (Q : Post) (F : Fr) (D : List Deferred) (G : World) (M : Mem) (L : Own) (i : Nat) : Prop :=
 ops.toList.all (okOp n) = true → kpOk Q ops = true → ∀ w a, St G M L w → Rel n a F D → Cl ops X → (hd τ X → Sees M0 L0 w) → i ∈ ready .any ops X →
  wpOpIn (fen Q.ro) 0 P ops (post n Q) i (fun a' w' => (hd τ (X.setIfInBounds i true) → Sees M0 L0 w') ∧ wpAnyX P Q.ro ops (post n Q) (Sees M0 L0) τ f (X.setIfInBounds i true) a' w') a w
theorem x_draw {id : Nat} {l : List Oper} (τ : Nat) (hm : P.follows .mixedOrders = true) (hk : kpOk Q l.toArray = true) (h : TO P n l.toArray τ M L l.length (List.replicate l.length false).toArray Q F D G M L) : T P n (.region id l.toArray true) Q F D G M L := fun hok w a hw ha => by
 refine wpIn_region_any hm (wpAny_of_X (S := Sees M L) (τ := τ) _ _ _ _ ?_)
 have hcl := Cl.start l.toArray
 have e : Array.replicate l.toArray.size false = (List.replicate l.length false).toArray := by simp
 rw [e] at hcl ⊢
 exact h (by simpa [okCode] using hok) hk { w with drawn := w.drawn + 1 } a (hw.drawn _) ha hcl (fun _ => (hw.drawn _).sees)
theorem x_draw0 {id : Nat} {l : List Oper} (τ : Nat) (L0 : Own) (hsub : ∀ p ∈ L0, p ∈ L) (hm : P.follows .mixedOrders = true) (hk : kpOk Q l.toArray = true) (h : TO P n l.toArray τ M L0 l.length (List.replicate l.length false).toArray Q F D G M L) : T P n (.region id l.toArray true) Q F D G M L := fun hok w a hw ha => by
 refine wpIn_region_any hm (wpAny_of_X (S := Sees M L0) (τ := τ) _ _ _ _ ?_)
 have hcl := Cl.start l.toArray
 have e : Array.replicate l.toArray.size false = (List.replicate l.length false).toArray := by simp
 rw [e] at hcl ⊢
 exact h (by simpa [okCode] using hok) hk { w with drawn := w.drawn + 1 } a (hw.drawn _) ha hcl (fun _ => ⟨(hw.drawn _).ro, fun p hp => ((hw.drawn _).own p (hsub p hp)).1⟩)
theorem all_get {ops : Array Oper} (h : ops.toList.all (okOp n) = true) {i : Nat} {o : Oper} (hi : ops[i]? = some o) : okOp n o = true :=
 List.all_eq_true.1 h o (by simpa using Array.mem_of_getElem? hi)
theorem to_y (i : Nat) {d : Tmp} {op : Op} {ty : TypeId} {pos : String} {aft : Array Edge} {g : Option (Nat × Bool)} {v : Value} (hi : ops[i]? = some ⟨some d, op, ty, pos, aft, g⟩)
  (hc : (Region.noSelect ops && tailB ops τ i && !Nat.beq i τ && Region.free .any ops X i && (ready .any ops X).contains i) = true)
  (hg : want ops F g = some true) (hy : Yld P op ty F M0 L0 v)
  (h : TO P n ops τ M0 L0 f (X.setIfInBounds i true) Q ((d, v) :: F) D G M L) : TO P n ops τ M0 L0 (f + 1) X Q F D G M L := fun hok hkp w a hw ha hcl hs => by
 simp only [Bool.and_eq_true, Bool.not_eq_true'] at hc
 obtain ⟨⟨⟨⟨c1, c2⟩, c3⟩, c4⟩, c5⟩ := hc
 have c3 : i ≠ τ := Nat.ne_of_beq_eq_false c3
 have hr : i ∈ ready .any ops X := by simpa using c5
 have hd : d < n := by have := all_get hok hi; simpa [okOp, Nat.blt_eq] using this
 have hy' : YieldsS P ops Q.ro (Sees M0 L0) ⟨some d, op, ty, pos, aft, g⟩ v a := .inl ⟨want_wanted (o := ⟨some d, op, ty, pos, aft, g⟩) hg ha, fun w' hw' => by
  rw [Oper.semAt_eq _ _ _ (hy.notDefer hw' (ρ := a.eval) (fun x u hx => ha.eval hx))]
  exact hy w' a.eval hw' (fun x u hx => ha.eval hx)⟩
 refine wpAnyX_first hi (Region.noSelect_spec c1) (fun c a' w hq => Q.ins c a' d v w (kp_get hkp hi) hq) c3 (fun X w h1 h2 h3 => h3 (h1.tail c2 h2)) f X a w hcl (Region.free_spec hi c4) hr hy' hs ?_
 exact h hok hkp w _ hw (ha.put hd v) (hcl.set hr) (fun hh => hs ((hd_ne c3).1 hh))
theorem to_p (i : Nat) {d : Tmp} {op : Op} {ty : TypeId} {pos : String} {aft : Array Edge} {g : Option (Nat × Bool)} {v : Value} (hi : ops[i]? = some ⟨some d, op, ty, pos, aft, g⟩)
  (hc : (Region.noSelect ops && !Nat.beq i τ && Region.free .any ops X i && (ready .any ops X).contains i) = true)
  (hg : want ops F g = some true) (hy : Yld P op ty F (fun _ => none) [] v)
  (h : TO P n ops τ M0 L0 f (X.setIfInBounds i true) Q ((d, v) :: F) D G M L) : TO P n ops τ M0 L0 (f + 1) X Q F D G M L := fun hok hkp w a hw ha hcl hs => by
 simp only [Bool.and_eq_true, Bool.not_eq_true'] at hc
 obtain ⟨⟨⟨c1, c3⟩, c4⟩, c5⟩ := hc
 have c3 : i ≠ τ := Nat.ne_of_beq_eq_false c3
 have hr : i ∈ ready .any ops X := by simpa using c5
 have hd : d < n := by have := all_get hok hi; simpa [okOp, Nat.blt_eq] using this
 have hsee : ∀ w, Sees (fun _ => none) [] w := fun w => ⟨fun b o h => (by cases h), fun p hp => (by cases hp)⟩
 have hy' : YieldsS P ops Q.ro (fun _ => True) ⟨some d, op, ty, pos, aft, g⟩ v a := .inl ⟨want_wanted (o := ⟨some d, op, ty, pos, aft, g⟩) hg ha, fun w' hw' => by
  rw [Oper.semAt_eq _ _ _ (hy.notDefer (hsee w') (ρ := a.eval) (fun x u hx => ha.eval hx))]
  exact hy w' a.eval (hsee w') (fun x u hx => ha.eval hx)⟩
 refine wpAnyX_first hi (Region.noSelect_spec c1) (fun c a' w hq => Q.ins c a' d v w (kp_get hkp hi) hq) c3 (fun X w h1 h2 h3 => trivial) f X a w hcl (Region.free_spec hi c4) hr hy' hs ?_
 exact h hok hkp w _ hw (ha.put hd v) (hcl.set hr) (fun hh => hs ((hd_ne c3).1 hh))
theorem to_skip (i : Nat) {d : Tmp} {op : Op} {ty : TypeId} {pos : String} {aft : Array Edge} {g : Option (Nat × Bool)} (hi : ops[i]? = some ⟨some d, op, ty, pos, aft, g⟩)
  (hc : (Region.noSelect ops && !Nat.beq i τ && Region.free .any ops X i && (ready .any ops X).contains i) = true)
  (hg : want ops F g = some false)
  (h : TO P n ops τ M0 L0 f (X.setIfInBounds i true) Q ((d, undef) :: F) D G M L) : TO P n ops τ M0 L0 (f + 1) X Q F D G M L := fun hok hkp w a hw ha hcl hs => by
 simp only [Bool.and_eq_true, Bool.not_eq_true'] at hc
 obtain ⟨⟨⟨c1, c3⟩, c4⟩, c5⟩ := hc
 have c3 : i ≠ τ := Nat.ne_of_beq_eq_false c3
 have hr : i ∈ ready .any ops X := by simpa using c5
 have hd : d < n := by have := all_get hok hi; simpa [okOp, Nat.blt_eq] using this
 have hy' : YieldsS P ops Q.ro (fun _ => True) ⟨some d, op, ty, pos, aft, g⟩ undef a := .inr ⟨want_wanted (o := ⟨some d, op, ty, pos, aft, g⟩) hg ha, rfl⟩
 refine wpAnyX_first hi (Region.noSelect_spec c1) (fun c a' w hq => Q.ins c a' d undef w (kp_get hkp hi) hq) c3 (fun X w h1 h2 h3 => trivial) f X a w hcl (Region.free_spec hi c4) hr hy' hs ?_
 exact h hok hkp w _ hw (ha.put hd undef) (hcl.set hr) (fun hh => hs ((hd_ne c3).1 hh))
theorem to_sole (i : Nat) {d : Option Tmp} {op : Op} {ty : TypeId} {pos : String} {aft : Array Edge} {g : Option (Nat × Bool)} (hi : ops[i]? = some ⟨d, op, ty, pos, aft, g⟩)
  (hr : ready .any ops X = [i]) (hg : want ops F g = some true)
  (h : Tr P n d op ty Q F D G M L (fun F' D' M' L' => (hd τ (X.setIfInBounds i true) → ∀ w, St G M' L' w → Sees M0 L0 w) ∧ TO P n ops τ M0 L0 f (X.setIfInBounds i true) Q F' D' G M' L')) : TO P n ops τ M0 L0 (f + 1) X Q F D G M L := fun hok hkp w a hw ha hcl hs => by
 have hmem : i ∈ ready .any ops X := by rw [hr]; exact List.mem_cons_self
 refine ⟨fun h0 => (by rw [hr] at h0; cases h0), fun j hj => ?_⟩
 obtain rfl : j = i := by rw [hr] at hj; simpa using hj
 unfold wpOpIn
 simp only [hi]
 rw [if_pos (want_wanted (o := ⟨d, op, ty, pos, aft, g⟩) hg ha)]
 have hokj := all_get hok hi
 have h1 := h hokj w a hw ha
 refine Oper.wpIn_mono (K := fun a' w' => ∃ F' D' M' L', Rel n a' F' D' ∧ St G M' L' w' ∧ ((hd τ (X.setIfInBounds j true) → ∀ w, St G M' L' w → Sees M0 L0 w) ∧ TO P n ops τ M0 L0 f (X.setIfInBounds j true) Q F' D' G M' L'))
  (fun a' w' ⟨F', D', M', L', hr', hs', hk1, hk2⟩ => ⟨fun hh => hk1 hh w' hs', hk2 hok hkp w' a' hs' hr' (hcl.set hmem) (fun hh => hk1 hh w' hs')⟩) ?_
 exact h1
theorem to_two (i j : Nat) (hr : ready .any ops X = [i, j]) (h1 : wpTwo P n ops τ M0 L0 f X Q F D G M L i) (h2 : wpTwo P n ops τ M0 L0 f X Q F D G M L j) : TO P n ops τ M0 L0 (f + 1) X Q F D G M L := fun hok hkp w a hw ha hcl hs => by
 refine ⟨fun h0 => (by rw [hr] at h0; cases h0), fun k hk => ?_⟩
 have hk' := hk
 rw [hr] at hk'
 simp only [List.mem_cons, List.not_mem_nil, or_false] at hk'
 rcases hk' with rfl | rfl
 ·
  exact h1 hok hkp w a hw ha hcl hs hk
 exact h2 hok hkp w a hw ha hcl hs hk
class Keeps (L0 L' : Own) : Prop where
 mem : ∀ p ∈ L0, p ∈ L'
instance (priority := 1200) {L : Own} : Keeps L L := ⟨fun _ h => h⟩
instance {L0 L' : Own} {e : Nat × Obj} [h : Keeps L0 L'] : Keeps L0 (e :: L') := ⟨fun p hp => List.mem_cons_of_mem _ (h.mem p hp)⟩
instance {L0 L' E : Own} [h : Keeps L0 L'] : Keeps L0 (E ++ L') := ⟨fun p hp => List.mem_append_right _ (h.mem p hp)⟩
instance (priority := 900) {L' : Own} : Keeps [] L' := ⟨fun p h => by cases h⟩
instance (priority := 900) {L0 L' : Own} {b : Nat} {o : Obj} [h : Has L' b o] [k : Keeps L0 L'] : Keeps ((b, o) :: L0) L' := ⟨fun p hp => by
 rcases List.mem_cons.1 hp with rfl | hp
 ·
  exact h.mem
 exact k.mem p hp⟩
theorem keep {M' : Mem} {L' : Own} (hle : Le M0 M') (hsub : ∀ p ∈ L0, p ∈ L') (w : World) (hw : St G M' L' w) : Sees M0 L0 w :=
 ⟨fun b o h => hw.ro b o (hle b o h), fun p hp => (hw.own p (hsub p hp)).1⟩
theorem to_e (i : Nat) {d : Option Tmp} {op : Op} {ty : TypeId} {pos : String} {aft : Array Edge} {g : Option (Nat × Bool)} (hi : ops[i]? = some ⟨d, op, ty, pos, aft, g⟩)
  (hr : ready .any ops X = [i]) (hg : want ops F g = some true)
  (h : Tr P n d op ty Q F D G M L (fun F' D' M' L' => (Le M0 M' ∧ ∀ p ∈ L0, p ∈ L') ∧ TO P n ops τ M0 L0 f (X.setIfInBounds i true) Q F' D' G M' L')) : TO P n ops τ M0 L0 (f + 1) X Q F D G M L :=
 to_sole i hi hr hg (fun hok w a hw ha => Oper.wpIn_mono (fun a' w' ⟨F', D', M', L', h1, h2, h3, h4⟩ => ⟨F', D', M', L', h1, h2, fun _ => keep h3.1 h3.2, h4⟩) (h hok w a hw ha))
theorem to_t (i : Nat) {d : Option Tmp} {op : Op} {ty : TypeId} {pos : String} {aft : Array Edge} {g : Option (Nat × Bool)} (hi : ops[i]? = some ⟨d, op, ty, pos, aft, g⟩)
  (hr : ready .any ops X = [i]) (hτ : (X.setIfInBounds i true).getD τ false = true) (hg : want ops F g = some true)
  (h : Tr P n d op ty Q F D G M L (fun F' D' M' L' => TO P n ops τ M0 L0 f (X.setIfInBounds i true) Q F' D' G M' L')) : TO P n ops τ M0 L0 (f + 1) X Q F D G M L :=
 to_sole i hi hr hg (fun hok w a hw ha => Oper.wpIn_mono (fun a' w' ⟨F', D', M', L', h1, h2, h4⟩ => ⟨F', D', M', L', h1, h2, fun hh => absurd hh (by unfold hd; rw [hτ]; simp), h4⟩) (h hok w a hw ha))
theorem two_e (i : Nat) {d : Option Tmp} {op : Op} {ty : TypeId} {pos : String} {aft : Array Edge} {g : Option (Nat × Bool)} (hi : ops[i]? = some ⟨d, op, ty, pos, aft, g⟩) (hg : want ops F g = some true)
  (h : Tr P n d op ty Q F D G M L (fun F' D' M' L' => (Le M0 M' ∧ ∀ p ∈ L0, p ∈ L') ∧ TO P n ops τ M0 L0 f (X.setIfInBounds i true) Q F' D' G M' L')) : wpTwo P n ops τ M0 L0 f X Q F D G M L i := fun hok hkp w a hw ha hcl hs hmem => by
 unfold wpOpIn
 simp only [hi]
 rw [if_pos (want_wanted (o := ⟨d, op, ty, pos, aft, g⟩) hg ha)]
 have hokj := all_get hok hi
 have h1 := h hokj w a hw ha
 exact Oper.wpIn_mono (K := fun a' w' => ∃ F' D' M' L', Rel n a' F' D' ∧ St G M' L' w' ∧ ((Le M0 M' ∧ ∀ p ∈ L0, p ∈ L') ∧ TO P n ops τ M0 L0 f (X.setIfInBounds i true) Q F' D' G M' L'))
  (fun a' w' ⟨F', D', M', L', hr', hs', hk1, hk2⟩ => ⟨fun hh => keep hk1.1 hk1.2 w' hs', hk2 hok hkp w' a' hs' hr' (hcl.set hmem) (fun hh => keep hk1.1 hk1.2 w' hs')⟩) h1
theorem to_y1 (i : Nat) {d : Tmp} {op : Op} {ty : TypeId} {pos : String} {aft : Array Edge} {g : Option (Nat × Bool)} {v : Value} (hi : ops[i]? = some ⟨some d, op, ty, pos, aft, g⟩)
  (hr : ready .any ops X = [i]) (hg : want ops F g = some true) (hy : Yld P op ty F M L v)
  (h : TO P n ops τ M0 L0 f (X.setIfInBounds i true) Q ((d, v) :: F) D G M L) : TO P n ops τ M0 L0 (f + 1) X Q F D G M L := fun hok hkp w a hw ha hcl hs => by
 have hmem : i ∈ ready .any ops X := by rw [hr]; exact List.mem_cons_self
 refine ⟨fun h0 => (by rw [hr] at h0; cases h0), fun j hj => ?_⟩
 obtain rfl : j = i := by rw [hr] at hj; simpa using hj
 unfold wpOpIn
 simp only [hi]
 rw [if_pos (want_wanted (o := ⟨some d, op, ty, pos, aft, g⟩) hg ha)]
 have hd' : d < n := by have := all_get hok hi; simpa [okOp, Nat.blt_eq] using this
 have hsub : hd τ (X.setIfInBounds j true) → Sees M0 L0 w := fun hh => hs (hd_of hh (getD_both (mem_ready.1 hmem).1))
 exact hy.wpIn hw.sees (fun x u hx => ha.eval hx) ⟨hsub, h hok hkp w _ hw (ha.put hd' v) (hcl.set hmem) hsub⟩
theorem to_nil (hr : ready .any ops X = []) (h : TQ Q .normal F D G M L) : TO P n ops τ M0 L0 f X Q F D G M L := fun hok hkp w a hw ha hcl hs => by
 cases f with
 | zero => exact ⟨hr, F, D, ha, h w hw⟩
 | succ f => exact ⟨fun _ => ⟨F, D, ha, h w hw⟩, fun i hi => (by rw [hr] at hi; cases hi)⟩
theorem to_cases {s : Nat} {p : Prop} [Decidable p] (hs : look F s = some (.bool (decide p))) (ht : p → TO P n ops τ M0 L0 f X Q ((s, .bool true) :: F) D G M L)
  (hf : ¬ p → TO P n ops τ M0 L0 f X Q ((s, .bool false) :: F) D G M L) : TO P n ops τ M0 L0 f X Q F D G M L := fun hok hkp w a hw ha => by
 by_cases hp : p
 ·
  refine ht hp hok hkp w a hw (ha.sub' ?_)
  simp only [hp, decide_true] at hs
  exact hs
 refine hf hp hok hkp w a hw (ha.sub' ?_)
 simp only [hp, decide_false] at hs
 exact hs
theorem to_casesb {s : Nat} {t : Bool} (hs : look F s = some (.bool t)) (ht : t = true → TO P n ops τ M0 L0 f X Q ((s, .bool true) :: F) D G M L)
  (hf : t = false → TO P n ops τ M0 L0 f X Q ((s, .bool false) :: F) D G M L) : TO P n ops τ M0 L0 f X Q F D G M L := fun hok hkp w a hw ha => by
 cases t with
 | true => exact ht rfl hok hkp w a hw (ha.sub' hs)
 | false => exact hf rfl hok hkp w a hw (ha.sub' hs)
theorem to_set {s : Nat} {v u : Value} (hs : look F s = some v) (he : v = u) (h : TO P n ops τ M0 L0 f X Q ((s, u) :: F) D G M L) : TO P n ops τ M0 L0 f X Q F D G M L := fun hok hkp w a hw ha =>
 h hok hkp w a hw (ha.sub' (he ▸ hs))
theorem TO.perm {L' : Own} (hp : L.Perm L') (h : TO P n ops τ M0 L0 f X Q F D G M L') : TO P n ops τ M0 L0 f X Q F D G M L := fun hok hkp w a hw ha => h hok hkp w a (hw.perm hp) ha
end
end Go.Eng
namespace Go.Eng
def bv (x : UInt8) : Value := .int .u8 (x.toNat : Int)
abbrev Bytes (M : Mem) (A : Option Addr) (n cap : Nat) (bs : List UInt8) : Prop := Row M 1 A n cap (bs.map bv)
theorem Row.size {M : Mem} {A : Option Addr} {n cap : Nat} {bs : List UInt8} (h : Bytes M A n cap bs) : bs.length = n := by have := h.len; simpa using this
theorem all_one_bv (bs : List UInt8) : (bs.map bv).all one = true := by simp [bv, one, Value.oneCell']
theorem Row.byte {M : Mem} {A : Option Addr} {n cap : Nat} {bs : List UInt8} (h : Bytes M A n cap bs) (hn : 0 < n) : ∃ b o, A = some ⟨b, o, none⟩ ∧ ∀ L j (hj : j < n), CellAt M L ⟨b, o + j, none⟩ (.int .u8 (((bs.getD j 0).toNat : Nat) : Int)) := by
 obtain ⟨b, o, e, hc⟩ := h.addr hn
 have hs := h.size
 refine ⟨b, o, e, fun L j hj => ?_⟩
 have := hc L j (bv (bs.getD j 0)) (by rw [List.getElem?_map, List.getD_eq_getElem?_getD, List.getElem?_eq_getElem (by omega)]; rfl)
 exact this
end Go.Eng
namespace Go.Eng
class SelE (L E : Own) (L' : outParam Own) : Prop where
 perm : L.Perm (E ++ L')
instance (priority := 1100) {E R : Own} : SelE (E ++ R) E R := ⟨List.Perm.refl _⟩
instance {e : Nat × Obj} {L E L' : Own} [h : SelE L E L'] : SelE (e :: L) E (e :: L') := ⟨(List.Perm.cons e h.perm).trans List.perm_middle.symm⟩
instance {E' L E L' : Own} [h : SelE L E L'] : SelE (E' ++ L) E (E' ++ L') :=
 ⟨(h.perm.append_left E').trans (by rw [← List.append_assoc, ← List.append_assoc]; exact List.Perm.append_right _ List.perm_append_comm)⟩
instance (priority := 500) {E : Own} : SelE E E [] := ⟨by simp⟩
class PermTo (L T : Own) : Prop where
 perm : L.Perm T
instance (priority := 1200) {L : Own} : PermTo L L := ⟨List.Perm.refl _⟩
instance (priority := 1100) {L L1 T : Own} {b : Nat} {o : Obj} [h : Sel L b o L1] [k : PermTo L1 T] : PermTo L ((b, o) :: T) := ⟨h.perm.trans (List.Perm.cons _ k.perm)⟩
instance {L L1 E T : Own} [h : SelE L E L1] [k : PermTo L1 T] : PermTo L (E ++ T) := ⟨h.perm.trans (k.perm.append_left E)⟩
section
variable {P : Program} {n : Nat} {Q : Post} {F : Fr} {D : List Deferred} {G : World} {M : Mem} {L L' T' : Own} {ops : Array Oper} {rest : List Oper} {c : Code} {e : Exit}
theorem T.to (T' : Own) (hp : PermTo L T') (h : T P n c Q F D G M T') : T P n c Q F D G M L := h.perm hp.perm
theorem TL.to (T' : Own) (hp : PermTo L T') (h : TL P n ops rest Q F D G M T') : TL P n ops rest Q F D G M L := h.perm hp.perm
theorem TQ.to (T' : Own) (hp : PermTo L T') (h : TQ Q e F D G M T') : TQ Q e F D G M L := h.perm hp.perm
theorem T.bringE (E : Own) (hs : SelE L E L') (h : T P n c Q F D G M (E ++ L')) : T P n c Q F D G M L := h.perm hs.perm
theorem TL.bringE (E : Own) (hs : SelE L E L') (h : TL P n ops rest Q F D G M (E ++ L')) : TL P n ops rest Q F D G M L := h.perm hs.perm
theorem TQ.bringE (E : Own) (hs : SelE L E L') (h : TQ Q e F D G M (E ++ L')) : TQ Q e F D G M L := h.perm hs.perm
theorem Con.to {f : FuncId} {args : Array Value} {K : Value → Mem → Own → Prop} {Kp : List PanicEntry → Mem → Own → Prop} (T' : Own) (hp : PermTo L T') (h : Con P f args G M T' K Kp) : Con P f args G M L K Kp := h.perm hp.perm
theorem Con.post {f : FuncId} {args : Array Value} {K K' : Value → Mem → Own → Prop} (h : Con P f args G M L K noPanic) (hk : ∀ v M' L', Le M M' → K v M' L' → K' v M' L') : Con P f args G M L K' noPanic := h.mono hk (fun _ _ _ _ h => h)
end
class DropTo (L T : Own) : Prop where
 perm : ∃ K, L.Perm (K ++ T)
instance (priority := 1200) {L : Own} : DropTo L L := ⟨[], List.Perm.refl _⟩
instance (priority := 1100) {e : Nat × Obj} {L T : Own} [h : DropTo L T] : DropTo (e :: L) T := by
 obtain ⟨K, hk⟩ := h.perm
 exact ⟨e :: K, hk.cons e⟩
instance {E L T : Own} [h : DropTo L T] : DropTo (E ++ L) T := by
 obtain ⟨K, hk⟩ := h.perm
 exact ⟨E ++ K, by rw [List.append_assoc]; exact hk.append_left E⟩
instance (priority := 1150) {L L1 T : Own} {b : Nat} {o : Obj} [h : Sel L b o L1] [k : DropTo L1 T] : DropTo L ((b, o) :: T) := by
 obtain ⟨K, hk⟩ := k.perm
 exact ⟨K, h.perm.trans ((hk.cons _).trans List.perm_middle.symm)⟩
instance (priority := 1150) {L L1 E T : Own} [h : SelE L E L1] [k : DropTo L1 T] : DropTo L (E ++ T) := by
 obtain ⟨K, hk⟩ := k.perm
 refine ⟨K, h.perm.trans ((hk.append_left E).trans ?_)⟩
 rw [← List.append_assoc, ← List.append_assoc]
 exact List.Perm.append_right _ List.perm_append_comm
theorem St.dropTo {G : World} {M : Mem} {L T : Own} {w : World} [h : DropTo L T] (hw : St G M L w) : St G M T w := by
 obtain ⟨K, hk⟩ := h.perm
 exact (hw.perm hk).dropAll
theorem T.dropTo {P : Program} {n : Nat} {Q : Post} {F : Fr} {D : List Deferred} {G : World} {M : Mem} {L : Own} {c : Code} (T' : Own) (hd : DropTo L T') (h : T P n c Q F D G M T') : T P n c Q F D G M L := fun hok w a hw ha => h hok w a hw.dropTo ha
theorem TQ.dropTo {Q : Post} {F : Fr} {D : List Deferred} {G : World} {M : Mem} {L : Own} {e : Exit} (T' : Own) (hd : DropTo L T') (h : TQ Q e F D G M T') : TQ Q e F D G M L := fun w hw => h w hw.dropTo
section
variable {P : Program} {n : Nat} {Q : Post} {F : Fr} {D : List Deferred} {G : World} {M : Mem} {L R : Own} {d : Option Tmp} {ty : TypeId} {K : Fr → List Deferred → Mem → Own → Prop}
theorem e_buildSlice0 {t e : TypeId} {z z' : Value} {s s' b0 b' : Nat} {de : TypeDesc} [ti : TI P t (.slice e) z s b0] [te : TI P e de z' s' b'] (h : ∀ b, K (putF d (.slice (some ⟨b, 0, none⟩) 0 0) F) D M ((b, .cells #[] e (0, 0)) :: L)) :
  Tr P n d (.buildSlice t 0 #[]) ty Q F D G M L K := tr_value (fun c h => by cases h) fun w ρ hw hρ => by
 obtain ⟨j, hj, hz, hjs, _⟩ := te.parts
 subst hjs
 refine ⟨_, _, M, _, ?_, hw.push (.cells #[] e (0, 0)), h _⟩
 simp [execOp, Instr.buildSlice, run_underlying ti.und, run_size hj, Instr.fill, newRow]
 have e0 : Array.map (fun _ => (default : Value)) (Array.range 0) = #[] := Array.ext (by simp) (by simp)
 rw [e0]
theorem OwnRow.made00 {e : TypeId} {s b : Nat} : OwnRow e s (some ⟨b, 0, none⟩) 0 0 [] [(b, .cells #[] e (0, 0))] := OwnRow.made0 (n := 0) (by simp) (by omega)
theorem e_append1 {t : TypeId} {e : TypeId} {x y : Operand} {z z0 : Value} {s b0 s0 b00 : Nat} {de : TypeDesc} [ti : TI P t (.slice e) z0 s0 b00] [te : TI P e de z s b0] (hz : z.cells.size = s ∧ 0 < s) {p : Nat × Obj} {A B : Option Addr} {nn cap m c : Nat} {vs news : List Value}
  (hx : ev F x = some (.slice A nn cap)) (hy : ev F y = some (.slice B m c)) (ho : OwnRow e s A nn cap vs [p]) (hs : Src M (p :: R) s B m news) (h1 : news.all one = true) (h63 : nn + m ≤ 9223372036854775807) (hby : (nn + m) * b0 ≤ 140737488355328)
  (h : ∀ A' cap' E', OwnRow e s A' (nn + m) cap' (vs ++ news) E' → K (putF d (.slice A' (nn + m) cap') F) D M (E' ++ R)) :
  Tr P n d (.call ⟨.builtin .append, #[x, y], #[t, t]⟩) ty Q F D G M (p :: R) K := e_append (E := [p]) hz hx hy ho hs h1 h63 hby h
end
end Go.Eng
namespace Go.Eng
section
variable {P : Program} {n : Nat} {Q : Post} {F : Fr} {D : List Deferred} {G : World} {M : Mem} {L : Own} {d : Option Tmp} {ty : TypeId} {K : Fr → List Deferred → Mem → Own → Prop}
theorem e_panic {x : Operand} {t : TypeId} {v : Value} (hx : ev F x = some (.iface t v)) (h : TP n Q [{ v := .iface t v, recovered := false }] F D G M L) : Tr P n d (.panic x) ty Q F D G M L K := fun hok w a hw ha => by
 have hr : (execOp a.eval ⟨d, .panic x, ty, "", #[], none⟩).run P w = .halt (.panic (.iface t v)) w := by
  simp [execOp, ha.eval hx, Instr.panic]
 refine ⟨fun _ _ => trivial, ?_⟩
 rw [Oper.semAt_eq _ _ _ (fun c h => by cases h), hr]
 exact h w a hw ha
theorem e_defer (hro : Q.ro = none) {c : Operand} {xs : List Operand} {argTypes : Array TypeId} {fn : Fn} {first cap vs : List Value} (hc : ev F c = some (.func fn first.toArray cap.toArray)) (hxs : evs F xs = some vs)
  (h : K F ({ target := .fn fn cap.toArray, args := (first ++ vs).toArray } :: D) M L) : Tr P n none (.defer ⟨.value c, xs.toArray, argTypes⟩) ty Q F D G M L K := fun hok w a hw ha => by
 have hev : ∀ x u, ev F x = some u → a.eval x = u := fun x u hx => ha.eval hx
 have hr : (execOp a.eval ⟨none, .defer ⟨.value c, xs.toArray, argTypes⟩, ty, "", #[], none⟩).run P w = .ok (.defer { target := .fn fn cap.toArray, args := (first ++ vs).toArray }) w := by
  simp [execOp, resolve, hev _ _ hc, Deferred.ofValue, evs_map hev xs vs hxs]
 refine ⟨fun _ _ => trivial, ?_⟩
 show Oper.uponIn _ _ _ _ _ _ _ ((Oper.semAt Q.ro _ _).run P w)
 rw [hro, Oper.semAt_none, hr, Oper.uponIn_defer]
 exact ⟨F, _, M, L, ⟨ha.size, ha.slot, by simp [Act.put, ha.defers]⟩, hw, h⟩
structure ConD (P : Program) (f : FuncId) (args : Array Value) (u : FrameMode) (G : World) (M : Mem) (L : Own) (K : FrameMode → Mem → Own → Prop) : Prop where
 enter : ∀ args w, (callFunc f args).run P w = .ok (.enter f args) w
 calls : ∀ w, St G M L w → CallsD P f args u w fun e u' w' => ∃ v M' L', e = .returned v ∧ Le M M' ∧ St G M' L' w' ∧ K u' M' L'
def recOf : FrameMode → Value × FrameMode
 | .panicking ({ v, recovered := false, goexit := false } :: older) => (v, .panicking ({ v, recovered := true } :: older))
 | u => (.nilIface, u)
def recQ (G : World) (M : Mem) (K : Mem → Own → Prop) : Post where
 ex := fun e F D w => match e with
  | .normal | .ret => D = [] ∧ ∃ M' L', Le M M' ∧ St G M' L' w ∧ K M' L'
  | _ => False
 pn := fun _ _ _ => False
 kp := []
 ro := none
 ins := fun _ _ _ _ _ _ h => h
theorem TQ.rec_normal {M' : Mem} {K : Mem → Own → Prop} (hle : Le M M') (hK : K M' L) : TQ (recQ G M K) .normal F [] G M' L := fun w hw => ⟨rfl, M', L, hle, hw, hK⟩
theorem recoverD_of {c : Frame} {cs : List Frame} : (match recoverD (c :: cs) with | some (v, cs') => (v, cs') | none => (.nilIface, c :: cs)) = ((recOf c.mode).1, { c with mode := (recOf c.mode).2 } :: cs) := by
 obtain ⟨fn, tmps, todo, defers, mode, kind, ro⟩ := c
 cases mode with
 | run => simp [recoverD, recOf]
 | returning => simp [recoverD, recOf]
 | panicking chain =>
  cases chain with
  | nil => simp [recoverD, recOf]
  | cons p older =>
   obtain ⟨v, r, g⟩ := p
   cases r <;> cases g <;> simp [recoverD, recOf]
theorem enterRec {f : FuncId} {fn : Func} {id s : Nat} {ty : TypeId} {pos : String} {rest : Code} {args : List Value} {u : FrameMode} {K : FrameMode → Mem → Own → Prop}
  (hf : Fun P f fn (.seq (.region id #[⟨some s, .call ⟨.builtin .recover, #[], #[]⟩, ty, pos, #[], none⟩] false) rest)) (n : Nat) (hn : fn.ntmps = n) (hr : fn.results = #[])
  (h : T P n rest (recQ G M (K (recOf u).2)) ((s, (recOf u).1) :: argsFr 0 args) [] G M L) : ConD P f args.toArray u G M L K := by
 subst hn
 refine ⟨hf.enter, fun w hw => callsD_of_wpS hf.get hf.body fun c₀ cs hu => ?_⟩
 refine wpS_seq (wpS_region ?_)
 have hok := hf.ok
 simp only [okCode, Bool.and_eq_true] at hok
 have hs : s < fn.ntmps := by simpa [okOp, Nat.blt_eq] using hok.1
 show wpOpsS P _ _ [0] _ _ _
 have hrun : ∀ (ρ : Operand → Value), (execOp ρ ⟨some s, .call ⟨.builtin .recover, #[], #[]⟩, ty, pos, #[], none⟩).run P w = .ok .recover w := fun ρ => by
  simp [execOp, resolve, invoke, builtin]
 simp only [wpOpsS, List.getElem?_toArray, List.getElem?_cons_zero, Region.wanted, if_true, hrun]
 have hrec := recoverD_of (c := c₀) (cs := cs)
 have key : ∀ (v : Value) (cs' : List Frame), (v, cs') = ((recOf c₀.mode).1, { c₀ with mode := (recOf c₀.mode).2 } :: cs) →
   (Exit.thenS (rest.wpS P (bodyPostS P fn c₀ cs fun e u' w' => ∃ v M' L', e = .returned v ∧ Le M M' ∧ St G M' L' w' ∧ K u' M' L')) (bodyPostS P fn c₀ cs fun e u' w' => ∃ v M' L', e = .returned v ∧ Le M M' ∧ St G M' L' w' ∧ K u' M' L')) .normal
    (Act.put { tmps := args.toArray ++ Array.replicate (fn.ntmps - args.toArray.size) undef, defers := [] } (some s) v) cs' w := by
  intro v cs' he
  simp only [Prod.mk.injEq] at he
  obtain ⟨rfl, rfl⟩ := he
  refine wpS_of_wp (Code.wp_mono ?_ (wpIn_wide.1 (h hok.2 w _ hw (hu ▸ (rel_enter _ _).put hs _))))
  intro e a w' hq
  rw [← hu] at hq
  cases e with
  | normal =>
   obtain ⟨F', D', hr', hD, M', L', hle, hst, hk⟩ := hq
   exact ⟨hr'.defers.trans hD, _, rfl, _, results_none hr _ _ _, _, M', L', rfl, hle, hst, hk⟩
  | ret =>
   obtain ⟨F', D', hr', hD, M', L', hle, hst, hk⟩ := hq
   exact ⟨hr'.defers.trans hD, _, rfl, _, results_none hr _ _ _, _, M', L', rfl, hle, hst, hk⟩
  | panic c => exact hq.elim
  | exit i => obtain ⟨_, _, _, hq⟩ := hq; exact hq.elim
  | goto i => obtain ⟨_, _, _, hq⟩ := hq; exact hq.elim
  | outgrown => exact hq.elim
 cases hm : recoverD (c₀ :: cs) with
 | none => rw [hm] at hrec; exact key _ _ hrec
 | some p => rw [hm] at hrec; exact key p.1 p.2 hrec
def RC (P : Program) (F : Fr) (M : Mem) (L : Own) (r : ResultVar) (v : Value) : Prop :=
 ∀ w (tmps : Array Value), Sees M L w → (∀ i u, look F i = some u → tmps.getD i undef = u) →
  ((match r with | .tmp t => pure (tmps.getD t undef) | .cell a t => do loadVar t (← asAddr (tmps.getD a undef)) : Sem Value)).run P w = .ok v w
theorem rc_tmp {t : Tmp} {v : Value} (h : look F t = some v) : RC P F M L (.tmp t) v := fun w tmps hs ht => by
 have := ht _ _ h; rw [Array.getD_eq_getD_getElem?] at this; simp [this]
theorem rc_cell {s : Tmp} {t : TypeId} {d' : TypeDesc} {z : Value} {sz b0 : Nat} [ti : TI P t d' z sz b0] (ha : aggD d' = false) {ad : Addr} {v : Value} (h : look F s = some (.pointer (some ad))) (hc : CellAt M L ad v) : RC P F M L (.cell s t) v := fun w tmps hs ht => by
 have h1 := ht _ _ h; rw [Array.getD_eq_getD_getElem?] at h1
 simp [h1, asAddr, loadVar, run_isAgg ti.und, ha, hc w hs]
theorem rc_cellAgg {s : Tmp} {t : TypeId} {d' : TypeDesc} {z : Value} {sz b0 : Nat} [ti : TI P t d' z sz b0] (ha : aggD d' = true) {ad : Addr} {vs : List Value} (h : look F s = some (.pointer (some ad))) (hc : CellsN M L ad sz vs) : RC P F M L (.cell s t) (.agg vs.toArray) := fun w tmps hs ht => by
 obtain ⟨hc, hl⟩ := hc
 obtain ⟨j, hj, _, hjs, _⟩ := ti.parts
 subst hjs
 have h1 := ht _ _ h; rw [Array.getD_eq_getD_getElem?] at h1
 have := run_loadCells_list (P := P) (w := w) ad vs (hc w hs)
 rw [hl] at this
 simp [h1, asAddr, loadVar, run_isAgg ti.und, ha, run_size hj, this]
def RV (P : Program) (fn : Func) (F : Fr) (M : Mem) (L : Own) (v : Value) : Prop :=
 ∀ w (tmps : Array Value), Sees M L w → (∀ i u, look F i = some u → tmps.getD i undef = u) → (results fn tmps).run P w = .ok v w
theorem rv1 {fn : Func} {r : ResultVar} {v : Value} (hr : fn.results = #[r]) (h : RC P F M L r v) : RV P fn F M L v := fun w tmps hs ht => by
 have h1 := h w tmps hs ht
 simp only [results, hr, List.mapM_toArray, List.mapM_cons, List.mapM_nil, Sem.run_bind, Sem.run_map]
 cases r <;> simp_all [Sem.run_bind]
theorem rv2 {fn : Func} {r r' : ResultVar} {v v' : Value} (hr : fn.results = #[r, r']) (h : RC P F M L r v) (h' : RC P F M L r' v') : RV P fn F M L (.tuple #[v, v']) := fun w tmps hs ht => by
 have h1 := h w tmps hs ht
 have h2 := h' w tmps hs ht
 simp only [results, hr, List.mapM_toArray, List.mapM_cons, List.mapM_nil, Sem.run_bind, Sem.run_map]
 cases r <;> cases r' <;> simp_all [Sem.run_bind]
theorem retRV {fn : Func} {M' : Mem} {v : Value} {K : Value → Mem → Own → Prop} {Kp : List PanicEntry → Mem → Own → Prop} {L' : Own} (hv : RV P fn F M' L v) (hd : DropTo L L') (hle : Le M M') (hK : K v M' L') : TQ (retQ P fn G M K Kp) .ret F [] G M' L := fun w hw =>
 ⟨rfl, v, M', L', fun tmps ht => hv w tmps hw.sees ht, hle, hw.dropTo, hK⟩
def RR (G : World) (M : Mem) (K : Value → Mem → Own → Prop) (Kp : List PanicEntry → Mem → Own → Prop) : Ending → World → Prop := fun e w' => match e with
 | .returned v => ∃ M' L', Le M M' ∧ St G M' L' w' ∧ K v M' L'
 | .panicked c => ∃ M' L', Le M M' ∧ St G M' L' w' ∧ Kp c M' L'
 | .outgrown => False
def resSlots (fn : Func) : List Nat := fn.results.toList.map fun | .tmp t => t | .cell a _ => a
theorem mapM_congr {α : Type} {f g : α → Sem Value} : ∀ (l : List α), (∀ r ∈ l, f r = g r) → l.mapM f = l.mapM g
 | [], _ => rfl
 | r :: l, h => by rw [List.mapM_cons, List.mapM_cons, h r List.mem_cons_self, mapM_congr l fun x hx => h x (List.mem_cons_of_mem _ hx)]
theorem results_congr {fn : Func} {tmps tmps' : Array Value} (h : ∀ s ∈ resSlots fn, tmps.getD s undef = tmps'.getD s undef) : results fn tmps = results fn tmps' := by
 unfold results
 rw [← Array.toArray_toList (xs := fn.results)]
 simp only [List.mapM_toArray]
 congr 2
 refine mapM_congr _ fun r hr => ?_
 cases r with
 | tmp t => exact congrArg _ (h t (List.mem_map.2 ⟨_, hr, rfl⟩))
 | cell a t =>
  have := h a (List.mem_map.2 ⟨_, hr, rfl⟩)
  simp only [this]
theorem leaves_congr {fn : Func} {R : Ending → World → Prop} {tmps tmps' : Array Value} (h : ∀ s ∈ resSlots fn, tmps.getD s undef = tmps'.getD s undef) : ∀ (ds : List Deferred) (u : FrameMode) (w : World), Leaves P fn tmps R ds u w → Leaves P fn tmps' R ds u w
 | [], .returning, w, ⟨v, hr, hR⟩ => ⟨v, by rw [← results_congr h]; exact hr, hR⟩
 | [], .panicking _, w, hh => hh
 | [], .run, w, hh => hh
 | d :: ds, u, w, ⟨h1, fv, cap, f, args, h2, h3, h4⟩ => ⟨h1, fv, cap, f, args, h2, h3, h4.mono fun e u' w' he => by
  cases e with
  | returned v => exact leaves_congr h ds _ _ he
  | panicked c => exact leaves_congr h ds _ _ he
  | outgrown => exact he⟩
def retDQ (P : Program) (fn : Func) (G : World) (M : Mem) (K : Value → Mem → Own → Prop) (Kp : List PanicEntry → Mem → Own → Prop) : Post where
 ex := fun e F D w => match e with
  | .normal | .ret => ∀ tmps : Array Value, (∀ i u, look F i = some u → tmps.getD i undef = u) → Leaves P fn tmps (RR G M K Kp) D .returning w
  | _ => False
 pn := fun c a w => Leaves P fn a.tmps (RR G M K Kp) a.defers (.panicking c) w
 kp := resSlots fn
 ro := none
 ins := fun c a d v w hd h => leaves_congr (fun s hs => by
  have : d ≠ s := by
   rintro rfl
   have : (resSlots fn).contains d = true := by simpa using hs
   rw [this] at hd; cases hd
  simp [Act.put, Array.getElem?_setIfInBounds_ne this]) _ _ _ h
theorem enterD {f : FuncId} {fn : Func} {c : Code} {args : List Value} {K : Value → Mem → Own → Prop} {Kp : List PanicEntry → Mem → Own → Prop} (hf : Fun P f fn c) (n : Nat) (hn : fn.ntmps = n)
  (h : T P n c (retDQ P fn G M K Kp) (argsFr 0 args) [] G M L) : Con P f args.toArray G M L K Kp := by
 subst hn
 refine ⟨hf.enter, fun w hw => ?_⟩
 refine (calls_of_wp_defers (R := RR G M K Kp) hf.get hf.body (Code.wp_mono ?_ (wpIn_wide.1 (h hf.ok w _ hw (rel_enter _ _))))).mono ?_
 ·
  intro e a w' hq
  cases e with
  | normal => obtain ⟨F', D', hr, hq⟩ := hq; show Leaves _ _ _ _ a.defers _ _; rw [hr.defers]; exact hq _ hr.slot
  | ret => obtain ⟨F', D', hr, hq⟩ := hq; show Leaves _ _ _ _ a.defers _ _; rw [hr.defers]; exact hq _ hr.slot
  | panic ch => exact hq
  | exit i => obtain ⟨_, _, _, hq⟩ := hq; exact hq.elim
  | goto i => obtain ⟨_, _, _, hq⟩ := hq; exact hq.elim
  | outgrown => exact hq.elim
 intro e w' he
 cases e <;> exact he
def AfterD (P : Program) (fn : Func) (F : Fr) (M0 : Mem) (K : Value → Mem → Own → Prop) (Kp : List PanicEntry → Mem → Own → Prop) (u : FrameMode) (M : Mem) (L : Own) : Prop :=
 (settle u = .returning ∧ ∃ v L1, RV P fn F M L v ∧ DropTo L L1 ∧ Le M0 M ∧ K v M L1) ∨ (∃ c L1, settle u = .panicking c ∧ DropTo L L1 ∧ Le M0 M ∧ Kp c M L1)
theorem leavesD {fn : Func} {M0 : Mem} {K : Value → Mem → Own → Prop} {Kp : List PanicEntry → Mem → Own → Prop} {f : FuncId} {cap args : List Value} {u : FrameMode} {Kd : FrameMode → Mem → Own → Prop} (hu : u ≠ .run)
  (hc : ConD P f (args ++ cap).toArray u G M L Kd) (h : ∀ u' M' L', Le M M' → Kd u' M' L' → AfterD P fn F M0 K Kp u' M' L') (w : World) (hw : St G M L w) (tmps : Array Value) (ht : ∀ i u, look F i = some u → tmps.getD i undef = u) :
  Leaves P fn tmps (RR G M0 K Kp) [{ target := .fn (.func f) cap.toArray, args := args.toArray }] u w := by
 refine leaves_cons (f := f) (args := (args ++ cap).toArray) hu ?_ ?_
 ·
  have := hc.enter (args ++ cap).toArray w
  simp only [invoke, List.append_toArray]
  exact this
 refine (hc.calls w hw).mono ?_
 rintro e u' w' ⟨v, M', L', rfl, hle, hst, hk⟩
 show Leaves P fn tmps (RR G M0 K Kp) [] (settle u') w'
 rcases h u' M' L' hle hk with ⟨hs, v', L1, hrv, hd, hle', hK⟩ | ⟨c, L1, hs, hd, hle', hK⟩
 ·
  rw [hs]; exact ⟨v', hrv w' tmps hst.sees ht, M', L1, hle', hst.dropTo, hK⟩
 rw [hs]; exact ⟨M', L1, hle', hst.dropTo, hK⟩
theorem TQ.retD {fn : Func} {M0 : Mem} {K : Value → Mem → Own → Prop} {Kp : List PanicEntry → Mem → Own → Prop} {f : FuncId} {cap args : List Value} {Kd : FrameMode → Mem → Own → Prop}
  (hc : ConD P f (args ++ cap).toArray .returning G M L Kd) (h : ∀ u' M' L', Le M M' → Kd u' M' L' → AfterD P fn F M0 K Kp u' M' L') :
  TQ (retDQ P fn G M0 K Kp) .ret F [{ target := .fn (.func f) cap.toArray, args := args.toArray }] G M L := fun w hw tmps ht => leavesD (by simp) hc h w hw tmps ht
theorem TP.retD {fn : Func} {M0 : Mem} {K : Value → Mem → Own → Prop} {Kp : List PanicEntry → Mem → Own → Prop} {f : FuncId} {cap args : List Value} {Kd : FrameMode → Mem → Own → Prop} {ch : List PanicEntry}
  (hc : ConD P f (args ++ cap).toArray (.panicking ch) G M L Kd) (h : ∀ u' M' L', Le M M' → Kd u' M' L' → AfterD P fn F M0 K Kp u' M' L') :
  TP n (retDQ P fn G M0 K Kp) ch F [{ target := .fn (.func f) cap.toArray, args := args.toArray }] G M L := fun w a hw ha => by
 show Leaves _ _ _ _ a.defers _ _
 rw [ha.defers]
 exact leavesD (by simp) hc h w hw a.tmps ha.slot
theorem TP.ret {fn : Func} {M0 : Mem} {K : Value → Mem → Own → Prop} {Kp : List PanicEntry → Mem → Own → Prop} {ch : List PanicEntry} (hle : Le M0 M) (h : Kp ch M L) : TP n (retQ P fn G M0 K Kp) ch F [] G M L := fun w a hw ha => ⟨ha.defers, M, L, hle, hw, h⟩
theorem run_eq_nilIface (w : World) (d : Nat) (t : TypeId) (ms : Array (String × TypeId)) (h : P.underlying t = some (.interface ms)) : (Op.equalIn (d + 1) t .nilIface .nilIface).run P w = .ok true w := by
 simp [Op.equalIn, run_underlying h]
theorem run_eq_ifaceNil (w : World) (d : Nat) (t u : TypeId) (v : Value) (ms : Array (String × TypeId)) (h : P.underlying t = some (.interface ms)) : (Op.equalIn (d + 1) t (.iface u v) .nilIface).run P w = .ok false w := by
 simp [Op.equalIn, run_underlying h]
theorem y_eqNilIface {x y : Operand} {t t' : TypeId} {ms : Array (String × TypeId)} {z : Value} {s b0 : Nat} [ti : TI P t (.interface ms) z s b0] (hx : ev F x = some .nilIface) (hy : y = .const .nilIface) : Yld P (.binOp .eql t x y t') ty F M L (.bool true) := fun w ρ hs hρ => by
 subst hy
 have h1 := run_eq_nilIface (P := P) w 9999 t ms ti.und
 have h2 : (binOp .eql t .nilIface .nilIface).run P w = .ok (.bool true) w := by
  simp only [binOp]; simp [Op.equal, Op.maxDepth, h1]
 have h3 : ρ (.const .nilIface) = .nilIface := hρ _ _ rfl
 have h4 : (eqGuard .eql t x (.const .nilIface) .nilIface .nilIface).run P w = .ok () w := by simp [eqGuard]
 simp only [execOp, hρ _ _ hx, h3, Sem.run_bind, h4, Result.andThen_ok, h2, Sem.run_pure]
theorem y_eqIfaceNil {x y : Operand} {t t' : TypeId} {ms : Array (String × TypeId)} {z : Value} {s b0 : Nat} [ti : TI P t (.interface ms) z s b0] {u : TypeId} {v : Value} (hx : ev F x = some (.iface u v)) (hy : ev F y = some .nilIface) : Yld P (.binOp .eql t x y t') ty F M L (.bool false) := fun w ρ hs hρ => by
 have h1 := run_eq_ifaceNil (P := P) w 9999 t u v ms ti.und
 have h2 : (binOp .eql t (.iface u v) .nilIface).run P w = .ok (.bool false) w := by
  simp only [binOp]; simp [Op.equal, Op.maxDepth, h1]
 have h4 : (eqGuard .eql t x y (.iface u v) .nilIface).run P w = .ok () w := by simp [eqGuard]
 simp only [execOp, hρ _ _ hx, hρ _ _ hy, Sem.run_bind, h4, Result.andThen_ok, h2, Sem.run_pure]
theorem y_assertOk {x : Operand} {xt t : TypeId} {d' : TypeDesc} {z : Value} {s b0 : Nat} [ti : TI P t d' z s b0] {v : Value} (hx : ev F x = some (.iface t v)) (hd : ∀ ms, d' ≠ .interface ms) : Yld P (.typeAssert x xt t true) ty F M L (.tuple #[v, .bool true]) := fun w ρ hs hρ => by
 cases d' <;> first | (exact absurd rfl (hd _)) | simp [execOp, hρ _ _ hx, Instr.typeAssert, run_underlying ti.und]
end
end Go.Eng
