/-
The walk engine: what a code does from every state that shows given blocks. The walk engine: operations, contracts of functions.
-/
import Derived.Tactics2
import Derived.Recover
import Derived.Orders
import Derived.OrdersHeld
import Derived.KernelRfl
import Derived.OrdersIn
import Derived.RangeFuncIn
import Derived.TacticsIn
set_option linter.all false
namespace Go.Eng

abbrev Fr := List (Nat × Value)
def look : Fr → Nat → Option Value
 | [], _ => none
 | (j, v) :: F, i => cond (Nat.beq j i) (some v) (look F i)
def ev (F : Fr) : Operand → Option Value
 | .tmp t => look F t
 | .const v => some v
 | .global g => some (.pointer (some ⟨g, 0, none⟩))
 | .func f => some (.func (.func f) #[] #[])
abbrev Mem := Nat → Option Obj
abbrev Own := List (Nat × Obj)
def Le (M M' : Mem) : Prop := ∀ b o, M b = some o → M' b = some o
theorem Le.refl (M : Mem) : Le M M := fun _ _ h => h
theorem Le.trans {A B C : Mem} (h : Le A B) (k : Le B C) : Le A C := fun b o x => k b o (h b o x)

structure Sees (M : Mem) (L : Own) (w : World) : Prop where
 ro : ∀ b o, M b = some o → w.heap[b]? = some o
 own : ∀ p ∈ L, w.heap[p.1]? = some p.2
structure St (G : World) (M : Mem) (L : Own) (w : World) : Prop where
 os : w.os = G.os
 tape : w.tape = G.tape
 output : w.output = G.output
 ro : ∀ b o, M b = some o → w.heap[b]? = some o
 own : ∀ p ∈ L, w.heap[p.1]? = some p.2 ∧ M p.1 = none
 nd : (L.map Prod.fst).Nodup
theorem St.sees {G : World} {M : Mem} {L : Own} {w : World} (h : St G M L w) : Sees M L w := ⟨h.ro, fun p hp => (h.own p hp).1⟩
theorem St.perm {G : World} {M : Mem} {L L' : Own} {w : World} (h : St G M L w) (hp : L.Perm L') : St G M L' w :=
 ⟨h.os, h.tape, h.output, h.ro, fun p hq => h.own p (hp.mem_iff.2 hq), (hp.map _).nodup_iff.1 h.nd⟩
theorem St.drop {G : World} {M : Mem} {L : Own} {x : Nat × Obj} {w : World} (h : St G M (x :: L) w) : St G M L w :=
 ⟨h.os, h.tape, h.output, h.ro, fun p hq => h.own p (List.mem_cons_of_mem _ hq), by have := h.nd; simp at this; exact this.2⟩
theorem St.dropAll {G : World} {M : Mem} {K L : Own} {w : World} (h : St G M (K ++ L) w) : St G M L w := by
 induction K with
 | nil => exact h
 | cons x K ih => exact ih h.drop
theorem St.same {G : World} {M : Mem} {L : Own} {w w' : World} (h : St G M L w) (h1 : w'.os = w.os) (h2 : w'.tape = w.tape) (h3 : w'.output = w.output) (h4 : w'.heap = w.heap) : St G M L w' :=
 ⟨h1.trans h.os, h2.trans h.tape, h3.trans h.output, fun b o x => h4 ▸ h.ro b o x, fun p hp => by rw [h4]; exact h.own p hp, h.nd⟩
theorem St.drawn {G : World} {M : Mem} {L : Own} {w : World} (h : St G M L w) (n : Nat) : St G M L { w with drawn := n } := h.same rfl rfl rfl rfl
theorem St.fresh {G : World} {M : Mem} {L : Own} {w : World} (h : St G M L w) : M w.heap.size = none ∧ ∀ p ∈ L, p.1 < w.heap.size := by
 refine ⟨?_, fun p hp => ?_⟩
 ·
  cases hm : M w.heap.size with
  | none => rfl
  | some o => have := h.ro _ _ hm; simp at this
 have := (h.own p hp).1
 exact (Array.getElem?_eq_some_iff.1 this).1
theorem St.alloc {G : World} {M : Mem} {L : Own} {w w' : World} {o : Obj} (h : St G M L w) (h1 : w'.os = w.os) (h2 : w'.tape = w.tape) (h3 : w'.output = w.output) (h4 : w'.heap = w.heap.push o) :
  St G M ((w.heap.size, o) :: L) w' := by
 have hf := h.fresh
 refine ⟨h1.trans h.os, h2.trans h.tape, h3.trans h.output, fun b o' x => ?_, fun p hp => ?_, ?_⟩
 ·
  have hx := h.ro b o' x
  have hlt := (Array.getElem?_eq_some_iff.1 hx).1
  rw [h4, Array.getElem?_push_lt hlt]
  rw [Array.getElem?_eq_getElem hlt] at hx
  exact hx
 ·
  rcases List.mem_cons.1 hp with rfl | hp
  ·
   exact ⟨by rw [h4]; simp, hf.1⟩
  have hx := h.own p hp
  have hlt := hf.2 p hp
  refine ⟨?_, hx.2⟩
  rw [h4, Array.getElem?_push_lt hlt]
  have := hx.1
  rw [Array.getElem?_eq_getElem hlt] at this
  exact this
 simp only [List.map_cons, List.nodup_cons]
 refine ⟨fun hm => ?_, h.nd⟩
 obtain ⟨p, hp, he⟩ := List.mem_map.1 hm
 have := hf.2 p hp
 omega
theorem St.set {G : World} {M : Mem} {L : Own} {w w' : World} {b : Nat} {o o' : Obj} (h : St G M ((b, o) :: L) w) (h1 : w'.os = w.os) (h2 : w'.tape = w.tape) (h3 : w'.output = w.output)
  (h4 : w'.heap[b]? = some o') (h5 : ∀ i, i ≠ b → w'.heap[i]? = w.heap[i]?) : St G M ((b, o') :: L) w' := by
 have hb := h.own (b, o) List.mem_cons_self
 have hnd := h.nd
 simp only [List.map_cons, List.nodup_cons] at hnd
 refine ⟨h1.trans h.os, h2.trans h.tape, h3.trans h.output, fun c oc x => ?_, fun p hp => ?_, ?_⟩
 ·
  by_cases hc : c = b
  ·
   subst hc; rw [hb.2] at x; cases x
  rw [h5 c hc]; exact h.ro c oc x
 ·
  rcases List.mem_cons.1 hp with rfl | hp
  ·
   exact ⟨h4, hb.2⟩
  have hne : p.1 ≠ b := fun he => hnd.1 (he ▸ List.mem_map_of_mem hp)
  refine ⟨by rw [h5 _ hne]; exact (h.own p (List.mem_cons_of_mem _ hp)).1, (h.own p (List.mem_cons_of_mem _ hp)).2⟩
 simpa only [List.map_cons, List.nodup_cons] using hnd
def pub (M : Mem) (b : Nat) (o : Obj) : Mem := fun i => if i = b then some o else M i
theorem St.publish {G : World} {M : Mem} {L : Own} {w : World} {b : Nat} {o : Obj} (h : St G M ((b, o) :: L) w) : St G (pub M b o) L w ∧ Le M (pub M b o) ∧ pub M b o b = some o := by
 have hb := h.own (b, o) List.mem_cons_self
 have hnd := h.nd
 simp only [List.map_cons, List.nodup_cons] at hnd
 refine ⟨⟨h.os, h.tape, h.output, fun c oc x => ?_, fun p hp => ?_, hnd.2⟩, fun c oc x => ?_, by simp [pub]⟩
 ·
  unfold pub at x
  split at x
  ·
   rename_i hc; subst hc; cases x; exact hb.1
  exact h.ro c oc x
 ·
  have hne : p.1 ≠ b := fun he => hnd.1 (he ▸ List.mem_map_of_mem hp)
  refine ⟨(h.own p (List.mem_cons_of_mem _ hp)).1, ?_⟩
  simp only [pub, if_neg hne]
  exact (h.own p (List.mem_cons_of_mem _ hp)).2
 unfold pub
 split
 ·
  rename_i hc; subst hc; rw [hb.2] at x; cases x
 exact x

class Has (L : Own) (b : Nat) (o : outParam Obj) : Prop where
 mem : (b, o) ∈ L
instance (priority := 1100) {b : Nat} {o : Obj} {L : Own} : Has ((b, o) :: L) b o := ⟨List.mem_cons_self⟩
instance {e : Nat × Obj} {b : Nat} {o : Obj} {L : Own} [h : Has L b o] : Has (e :: L) b o := ⟨List.mem_cons_of_mem _ h.mem⟩
class Sel (L : Own) (b : Nat) (o : outParam Obj) (L' : outParam Own) : Prop where
 perm : L.Perm ((b, o) :: L')
instance (priority := 1100) {b : Nat} {o : Obj} {L : Own} : Sel ((b, o) :: L) b o L := ⟨List.Perm.refl _⟩
instance {e : Nat × Obj} {b : Nat} {o : Obj} {L L' : Own} [h : Sel L b o L'] : Sel (e :: L) b o (e :: L') :=
 ⟨(List.Perm.cons e h.perm).trans (List.Perm.swap _ _ _)⟩
class Upd (L : Own) (b : Nat) (o : outParam Obj) (o' : Obj) (L' : outParam Own) : Prop where
 perm : ∃ K, L.Perm ((b, o) :: K) ∧ L'.Perm ((b, o') :: K)
instance (priority := 1100) {b : Nat} {o o' : Obj} {L : Own} : Upd ((b, o) :: L) b o o' ((b, o') :: L) := ⟨L, List.Perm.refl _, List.Perm.refl _⟩
instance {e : Nat × Obj} {b : Nat} {o o' : Obj} {L L' : Own} [h : Upd L b o o' L'] : Upd (e :: L) b o o' (e :: L') := by
 obtain ⟨K, h1, h2⟩ := h.perm
 exact ⟨e :: K, (List.Perm.cons e h1).trans (List.Perm.swap _ _ _), (List.Perm.cons e h2).trans (List.Perm.swap _ _ _)⟩
theorem St.upd {G : World} {M : Mem} {L L' : Own} {w w' : World} {b : Nat} {o o' : Obj} (hu : Upd L b o o' L') (h : St G M L w) (h1 : w'.os = w.os) (h2 : w'.tape = w.tape) (h3 : w'.output = w.output)
  (h4 : w'.heap[b]? = some o') (h5 : ∀ i, i ≠ b → w'.heap[i]? = w.heap[i]?) : St G M L' w' := by
 obtain ⟨K, k1, k2⟩ := hu.perm
 exact ((h.perm k1).set h1 h2 h3 h4 h5).perm k2.symm
theorem Upd.mem {L L' : Own} {b : Nat} {o o' : Obj} (hu : Upd L b o o' L') : (b, o) ∈ L := by
 obtain ⟨K, k1, _⟩ := hu.perm
 exact k1.mem_iff.2 List.mem_cons_self

structure Rel (n : Nat) (a : Act) (F : Fr) (D : List Deferred) : Prop where
 size : n ≤ a.tmps.size
 slot : ∀ i v, look F i = some v → a.tmps.getD i undef = v
 defers : a.defers = D
theorem Rel.eval {n : Nat} {a : Act} {F : Fr} {D : List Deferred} (h : Rel n a F D) {x : Operand} {v : Value} (hx : ev F x = some v) : a.eval x = v := by
 cases x with
 | tmp t => exact h.slot t v hx
 | const c => simpa [ev, Act.eval] using hx
 | global g => simpa [ev, Act.eval] using hx
 | func f => simpa [ev, Act.eval] using hx
theorem Rel.put {n : Nat} {a : Act} {F : Fr} {D : List Deferred} (h : Rel n a F D) {d : Nat} (hd : d < n) (v : Value) : Rel n (a.put (some d) v) ((d, v) :: F) D := by
 refine ⟨by simpa [Act.put] using h.size, fun i u hi => ?_, by simpa [Act.put] using h.defers⟩
 have hlt : d < a.tmps.size := Nat.lt_of_lt_of_le hd h.size
 simp only [look] at hi
 by_cases hdi : d = i
 ·
  subst hdi
  simp [Nat.beq_refl] at hi
  simp [Act.put, hlt, hi]
 have hb : Nat.beq d i = false := by rw [Bool.eq_false_iff]; exact fun hh => hdi (Nat.eq_of_beq_eq_true hh)
 rw [hb] at hi
 have := h.slot i u hi
 simp only [Act.put, Array.getD_eq_getD_getElem?] at this ⊢
 rw [Array.getElem?_setIfInBounds_ne hdi]
 exact this
structure Sub (F' F : Fr) : Prop where
 out : ∀ i v, look F' i = some v → look F i = some v
theorem Sub.nil {F : Fr} : Sub [] F := ⟨fun _ _ h => by cases h⟩
theorem Sub.refl {F : Fr} : Sub F F := ⟨fun _ _ h => h⟩
theorem Sub.cons {F F' : Fr} {i : Nat} {v : Value} (h : look F i = some v) (hs : Sub F' F) : Sub ((i, v) :: F') F := ⟨fun j u hj => by
 simp only [look] at hj
 by_cases hij : i = j
 ·
  subst hij
  simp [Nat.beq_refl] at hj
  exact hj ▸ h
 have hb : Nat.beq i j = false := by rw [Bool.eq_false_iff]; exact fun hh => hij (Nat.eq_of_beq_eq_true hh)
 rw [hb] at hj
 exact hs.out j u hj⟩
theorem Rel.sub {n : Nat} {a : Act} {F F' : Fr} {D : List Deferred} (h : Rel n a F D) (hs : Sub F' F) : Rel n a F' D := ⟨h.size, fun i v hi => h.slot i v (hs.out i v hi), h.defers⟩

theorem Rel.sub' {n : Nat} {a : Act} {F : Fr} {D : List Deferred} (h : Rel n a F D) {s : Nat} {v : Value} (hs : look F s = some v) : Rel n a ((s, v) :: F) D := h.sub (Sub.cons hs Sub.refl)

def okOp (n : Nat) (o : Oper) : Bool := match o.dst with | some d => Nat.blt d n | none => true
def okCode (n : Nat) : Code → Bool
 | .region _ ops _ => ops.toList.all (okOp n)
 | .seq a b => okCode n a && okCode n b
 | .cond _ a b => okCode n a && okCode n b
 | .block _ b => okCode n b
 | .loop b => okCode n b
 | .scope b => okCode n b
 | .rangeFunc _ ps a b => ps.toList.all (fun p => Nat.blt p n) && okCode n a && okCode n b
 | _ => true

structure Post where
 ex : Exit → Fr → List Deferred → World → Prop
 pn : List PanicEntry → Act → World → Prop
 kp : List Nat
 ro : Option Nat
 ins : ∀ c a d v w, kp.contains d = false → pn c (a.put (some d) v) w → pn c a w
def post (n : Nat) (Q : Post) : Exit → Act → World → Prop
 | .outgrown, _, _ => False
 | .panic c, a, w => Q.pn c a w
 | e, a, w => ∃ F D, Rel n a F D ∧ Q.ex e F D w
def fen (ro : Option Nat) : Fence := { fn := fun _ => True, depth := none, alive := false, round := ro }
theorem comesIn_fen {P : Program} {ro : Option Nat} {m m' : Machine} {e : Ending} : ComesIn (Machine.fenced P (fen ro)) P m m' e ↔ Comes P m m' e := comesIn_wide
theorem callsIn_fen {P : Program} {ro : Option Nat} {k : Nat} {f : FuncId} {args : Array Value} {w : World} {R : Ending → World → Prop} (h : Calls P f args w R) : CallsIn (fen ro) k P f args w R :=
 ⟨trivial, fun cs _ => let ⟨e, w', fr, r, s, x⟩ := h cs; ⟨e, w', fr, r, comesIn_fen.2 s, x⟩⟩
def T (P : Program) (n : Nat) (c : Code) (Q : Post) (F : Fr) (D : List Deferred) (G : World) (M : Mem) (L : Own) : Prop :=
 okCode n c = true → ∀ w a, St G M L w → Rel n a F D → c.wpIn (fen Q.ro) 0 P (post n Q) a w
def TQ (Q : Post) (e : Exit) (F : Fr) (D : List Deferred) (G : World) (M : Mem) (L : Own) : Prop := ∀ w, St G M L w → Q.ex e F D w
def TP (n : Nat) (Q : Post) (c : List PanicEntry) (F : Fr) (D : List Deferred) (G : World) (M : Mem) (L : Own) : Prop := ∀ w a, St G M L w → Rel n a F D → Q.pn c a w
def At (P : Program) (n : Nat) (c : Code) (Q : Post) (F : Fr) (D : List Deferred) (w : World) : Prop :=
 okCode n c = true → ∀ a, Rel n a F D → c.wpIn (fen Q.ro) 0 P (post n Q) a w
def thenQ (P : Program) (n : Nat) (c : Code) (Q : Post) : Post where
 ex := fun e F D w => match e with
  | .normal => At P n c Q F D w
  | e => Q.ex e F D w
 pn := Q.pn
 kp := Q.kp
 ro := Q.ro
 ins := Q.ins
def blockQ (id : Nat) (Q : Post) : Post where
 ex := fun e F D w => match e with
  | .exit i => if i = id then Q.ex .normal F D w else Q.ex (.exit i) F D w
  | e => Q.ex e F D w
 pn := Q.pn
 kp := Q.kp
 ro := Q.ro
 ins := Q.ins
section
variable {P : Program} {n : Nat} {Q : Post} {F : Fr} {D : List Deferred} {G : World} {M : Mem} {L : Own}

theorem T.sub {c : Code} {F' : Fr} (hs : Sub F' F) (h : T P n c Q F' D G M L) : T P n c Q F D G M L := fun hok w a hw ha => h hok w a hw (ha.sub hs)
theorem TQ.then_normal {c : Code} (h : T P n c Q F D G M L) : TQ (thenQ P n c Q) .normal F D G M L := fun w hw hok a ha => h hok w a hw ha
theorem TQ.then_exit {c : Code} {i : Nat} (h : TQ Q (.exit i) F D G M L) : TQ (thenQ P n c Q) (.exit i) F D G M L := h
theorem TQ.then_ret {c : Code} (h : TQ Q .ret F D G M L) : TQ (thenQ P n c Q) .ret F D G M L := h
theorem TQ.block_normal {i : Nat} (h : TQ Q .normal F D G M L) : TQ (blockQ i Q) .normal F D G M L := h
theorem TQ.block_ret {i : Nat} (h : TQ Q .ret F D G M L) : TQ (blockQ i Q) .ret F D G M L := h
theorem TQ.block_exit {i : Nat} (h : TQ Q .normal F D G M L) : TQ (blockQ i Q) (.exit i) F D G M L := fun w hw => by
 show (if i = i then _ else _); rw [if_pos rfl]; exact h w hw
theorem TQ.sub {e : Exit} {F' : Fr} (hq : ∀ w, Q.ex e F' D w → Q.ex e F D w) (h : TQ Q e F' D G M L) : TQ Q e F D G M L := fun w hw => hq w (h w hw)

theorem post_then {c : Code} (hok : okCode n c = true) (e : Exit) (a : Act) (w : World) (h : post n (thenQ P n c Q) e a w) : Exit.then (c.wpIn (fen Q.ro) 0 P (post n Q)) (post n Q) e a w := by
 cases e with
 | normal => obtain ⟨F, D, hr, hq⟩ := h; exact hq hok a hr
 | exit i => exact h
 | goto i => exact h
 | ret => exact h
 | panic ch => exact h
 | outgrown => exact h
theorem post_block {i : Nat} (e : Exit) (a : Act) (w : World) (h : post n (blockQ i Q) e a w) : Exit.inBlock i (post n Q) e a w := by
 cases e with
 | normal => exact h
 | exit j =>
  obtain ⟨F, D, hr, hq⟩ := h
  simp only [Exit.inBlock]
  simp only [blockQ] at hq
  split
  ·
   rename_i hj; rw [if_pos hj] at hq; exact ⟨F, D, hr, hq⟩
  rename_i hj; rw [if_neg hj] at hq; exact ⟨F, D, hr, hq⟩
 | goto i => exact h
 | ret => exact h
 | panic ch => exact h
 | outgrown => exact h

theorem x_skip (h : TQ Q .normal F D G M L) : T P n .skip Q F D G M L := fun _ w a hw ha => wpIn_skip ⟨F, D, ha, h w hw⟩
theorem x_ret (h : TQ Q .ret F D G M L) : T P n .ret Q F D G M L := fun _ w a hw ha => wpIn_ret ⟨F, D, ha, h w hw⟩
theorem x_exit {i : Nat} (h : TQ Q (.exit i) F D G M L) : T P n (.exit i) Q F D G M L := fun _ w a hw ha => wpIn_exit ⟨F, D, ha, h w hw⟩
theorem x_seq {x y : Code} (h : T P n x (thenQ P n y Q) F D G M L) : T P n (.seq x y) Q F D G M L := fun hok w a hw ha => by
 simp only [okCode, Bool.and_eq_true] at hok
 exact wpIn_seq (wpIn_mono (h hok.1 w a hw ha) (post_then hok.2))
theorem x_block {i : Nat} {c : Code} (h : T P n c (blockQ i Q) F D G M L) : T P n (.block i c) Q F D G M L := fun hok w a hw ha =>
 wpIn_block (wpIn_mono (h hok w a hw ha) post_block)
theorem x_cond {c : Operand} {x y : Code} {p : Prop} [Decidable p] (hc : ev F c = some (.bool (decide p))) (ht : p → T P n x Q F D G M L) (hf : ¬ p → T P n y Q F D G M L) : T P n (.cond c x y) Q F D G M L := fun hok w a hw ha => by
 simp only [okCode, Bool.and_eq_true] at hok
 refine wpIn_cond_split (ha.eval hc) (fun h => ht (of_decide_eq_true h) hok.1 w a hw ha) (fun h => hf (of_decide_eq_false h) hok.2 w a hw ha)
theorem x_condb {c : Operand} {x y : Code} {t : Bool} (hc : ev F c = some (.bool t)) (ht : t = true → T P n x Q F D G M L) (hf : t = false → T P n y Q F D G M L) : T P n (.cond c x y) Q F D G M L := fun hok w a hw ha => by
 simp only [okCode, Bool.and_eq_true] at hok
 exact wpIn_cond_split (ha.eval hc) (fun h => ht h hok.1 w a hw ha) (fun h => hf h hok.2 w a hw ha)
theorem x_true {c : Operand} {x y : Code} {t : Bool} (hc : ev F c = some (.bool t)) (hp : t = true) (ht : T P n x Q F D G M L) : T P n (.cond c x y) Q F D G M L := fun hok w a hw ha => by
 simp only [okCode, Bool.and_eq_true] at hok
 subst hp
 exact wpIn_cond_true (ha.eval hc) (ht hok.1 w a hw ha)
theorem x_false {c : Operand} {x y : Code} {t : Bool} (hc : ev F c = some (.bool t)) (hp : t = false) (hf : T P n y Q F D G M L) : T P n (.cond c x y) Q F D G M L := fun hok w a hw ha => by
 simp only [okCode, Bool.and_eq_true] at hok
 subst hp
 exact wpIn_cond_false (ha.eval hc) (hf hok.2 w a hw ha)

def loopQ (I : Nat → Fr → List Deferred → Mem → Own → Prop) (G : World) (m : Nat) (Q : Post) : Post where
 ex := fun e F D w => match e with
  | .normal => ∃ m' F' M' L', m' < m ∧ Sub F' F ∧ St G M' L' w ∧ I m' F' D M' L'
  | e => Q.ex e F D w
 pn := Q.pn
 kp := Q.kp
 ro := Q.ro
 ins := Q.ins
theorem x_loop {c : Code} (I : Nat → Fr → List Deferred → Mem → Own → Prop) (m : Nat) {F0 : Fr} (h0 : I m F0 D M L) (hs : Sub F0 F)
  (round : ∀ m F D M L, I m F D M L → T P n c (loopQ I G m Q) F D G M L) : T P n (.loop c) Q F D G M L := fun hok w a hw ha => by
 intro b k cs hro hb hr
 have key : ∀ m a w, (∃ F D M L, Rel n a F D ∧ St G M L w ∧ I m F D M L) → ∃ e a' w', post n Q e a' w' ∧ ArrivesIn (Machine.fenced P (fen Q.ro)) P (lone (b.atR a (.code c :: .inLoop c :: k)) cs w) b k cs e a' w' := by
  intro m
  induction m using Nat.strongRecOn with
  | _ m ih =>
   rintro a w ⟨F, D, M, L, hra, hw, hI⟩
   obtain ⟨e, a₁, w₁, hq, harr⟩ := round m F D M L hI hok w a hw hra b (.inLoop c :: k) cs hro hb hr
   cases e with
   | normal =>
    obtain ⟨F₁, D₁, hr₁, m', F', M', L', hlt, hsub, hw', hI'⟩ := hq
    obtain ⟨e₂, a₂, w₂, hq₂, harr₂⟩ := ih m' hlt a₁ w₁ ⟨F', D₁, M', L', hr₁.sub hsub, hw', hI'⟩
    exact ⟨e₂, a₂, w₂, hq₂, .of_steps (StepsIn.trans harr (.one (fenced_calm hb hr rfl) stepR_inLoop)) harr₂⟩
   | exit id => exact ⟨.exit id, a₁, w₁, hq, .pass (x := .inLoop c) rfl (fun _ _ => .inl (by simp)) harr⟩
   | goto l => exact ⟨.goto l, a₁, w₁, hq, .pass (x := .inLoop c) rfl (fun _ _ => .inl (by simp)) harr⟩
   | ret => exact ⟨.ret, a₁, w₁, hq, .pass (x := .inLoop c) rfl (fun _ _ => .inl (by simp)) harr⟩
   | panic ch => exact ⟨.panic ch, a₁, w₁, hq, .pass (x := .inLoop c) rfl (fun _ _ => .inl (by simp)) harr⟩
   | outgrown => exact hq.elim
 obtain ⟨e, a', w', hq, harr⟩ := key m a w ⟨F0, D, M, L, ha.sub hs, hw, h0⟩
 exact ⟨e, a', w', hq, .of_steps (.one (fenced_calm hb hr rfl) stepR_loop) harr⟩
theorem TQ.loop_next {m m' : Nat} {I : Nat → Fr → List Deferred → Mem → Own → Prop} {F' : Fr} (hlt : m' < m) (hs : Sub F' F) (h : I m' F' D M L) : TQ (loopQ I G m Q) .normal F D G M L :=
 fun w hw => ⟨m', F', M, L, hlt, hs, hw, h⟩
theorem TQ.loop_exit {m i : Nat} {I : Nat → Fr → List Deferred → Mem → Own → Prop} (h : TQ Q (.exit i) F D G M L) : TQ (loopQ I G m Q) (.exit i) F D G M L := h
theorem TQ.loop_ret {m : Nat} {I : Nat → Fr → List Deferred → Mem → Own → Prop} (h : TQ Q .ret F D G M L) : TQ (loopQ I G m Q) .ret F D G M L := h
end
end Go.Eng
namespace Go.Eng

def want (ops : Array Oper) (F : Fr) : Option (Nat × Bool) → Option Bool
 | none => some true
 | some (j, b) => match (ops[j]?).bind (·.dst) with
  | some s => match look F s with
   | some (.bool c) => some (c == b)
   | some (.tuple _) => some false
   | _ => none
  | none => none
theorem want_wanted {n : Nat} {a : Act} {F : Fr} {D : List Deferred} {ops : Array Oper} {o : Oper} {b : Bool} (h : want ops F o.guard = some b) (ha : Rel n a F D) : Region.wanted o (yielded ops a.tmps) = b := by
 unfold want at h
 unfold Region.wanted
 split at h
 ·
  rename_i hg; rw [hg]; simpa using h
 rename_i j c hg
 rw [hg]
 split at h
 ·
  rename_i s hs
  split at h
  ·
   rename_i d hd
   have h1 := ha.slot _ _ hd
   have : (a.tmps[s]?) = some (.bool d) := by
    rw [Array.getD_eq_getD_getElem?] at h1
    cases hx : a.tmps[s]? with
    | none => rw [hx] at h1; simp [undef] at h1
    | some u => rw [hx] at h1; simpa using h1
   simp only [yielded, hs, Option.bind_some, this]
   simp only [Option.some.injEq] at h
   rw [← h]
   cases d <;> cases c <;> rfl
  ·
   rename_i d hd
   have h1 := ha.slot _ _ hd
   have hy : yielded ops a.tmps j = none := by
    simp only [yielded, hs, Option.bind_some]
    rw [Array.getD_eq_getD_getElem?] at h1
    cases hx : a.tmps[s]? with
    | none => rfl
    | some u => rw [hx] at h1; simp only [Option.getD_some] at h1; subst h1; rfl
   simp only [hy]
   simp only [Option.some.injEq] at h
   rw [← h]; rfl
  cases h
 cases h

def Yld (P : Program) (op : Op) (ty : TypeId) (F : Fr) (M : Mem) (L : Own) (v : Value) : Prop :=
 ∀ w (ρ : Operand → Value), Sees M L w → (∀ x u, ev F x = some u → ρ x = u) → (execOp ρ ⟨none, op, ty, "", #[], none⟩).run P w = .ok (.value v) w
def Tr (P : Program) (n : Nat) (d : Option Tmp) (op : Op) (ty : TypeId) (Q : Post) (F : Fr) (D : List Deferred) (G : World) (M : Mem) (L : Own) (K : Fr → List Deferred → Mem → Own → Prop) : Prop :=
 okOp n ⟨d, op, ty, "", #[], none⟩ = true → ∀ w a, St G M L w → Rel n a F D →
  Oper.wpIn (fen Q.ro) 0 P ⟨d, op, ty, "", #[], none⟩ a w (fun a' w' => ∃ F' D' M' L', Rel n a' F' D' ∧ St G M' L' w' ∧ K F' D' M' L') (post n Q)
def TL (P : Program) (n : Nat) (ops : Array Oper) (rest : List Oper) (Q : Post) (F : Fr) (D : List Deferred) (G : World) (M : Mem) (L : Own) : Prop :=
 rest.all (okOp n) = true → ∀ w a, St G M L w → Rel n a F D → wpListIn (fen Q.ro) 0 P ops (post n Q) rest a w
section
variable {P : Program} {n : Nat} {Q : Post} {F : Fr} {D : List Deferred} {G : World} {M : Mem} {L : Own} {ops : Array Oper} {rest : List Oper}
theorem x_region {id : Nat} {l : List Oper} (h : TL P n l.toArray l Q F D G M L) : T P n (.region id l.toArray false) Q F D G M L := fun hok w a hw ha =>
 wpIn_region_lit (h (by simpa [okCode] using hok) w a hw ha)
theorem tl_nil (h : TQ Q .normal F D G M L) : TL P n ops [] Q F D G M L := fun _ w a hw ha => ⟨F, D, ha, h w hw⟩
theorem tl_then {c : Code} (h : T P n c Q F D G M L) : TL P n ops [] (thenQ P n c Q) F D G M L := tl_nil (.then_normal h)
theorem Yld.notDefer {op : Op} {ty : TypeId} {v : Value} (hy : Yld P op ty F M L v) {w : World} {ρ : Operand → Value} (hs : Sees M L w) (hρ : ∀ x u, ev F x = some u → ρ x = u) : ∀ c, op ≠ .defer c := by
 rintro c rfl
 have := hy w ρ hs hρ
 simp only [execOp, Sem.run_bind] at this
 cases hr : (resolve ρ c ty).run P w with
 | ok x w' => rw [hr] at this; simp at this
 | halt x w' => rw [hr] at this; simp at this
theorem Yld.wpIn {op : Op} {ty : TypeId} {v : Value} (hy : Yld P op ty F M L v) {w : World} {a : Act} (hs : Sees M L w) (hρ : ∀ x u, ev F x = some u → a.eval x = u)
  {d : Option Tmp} {pos : String} {aft : Array Edge} {g : Option (Nat × Bool)} {ro : Option Nat} {K : Act → World → Prop} {Q : Exit → Act → World → Prop} (h : K (a.put d v) w) : Oper.wpIn (fen ro) 0 P ⟨d, op, ty, pos, aft, g⟩ a w K Q := by
 refine ⟨fun _ _ => trivial, ?_⟩
 rw [Oper.semAt_eq _ _ _ (hy.notDefer hs hρ)]
 have hr : (execOp a.eval ⟨d, op, ty, pos, aft, g⟩).run P w = .ok (.value v) w := hy w a.eval hs hρ
 rw [hr]
 exact h
theorem tl_y {d : Tmp} {op : Op} {ty : TypeId} {pos : String} {aft : Array Edge} {g : Option (Nat × Bool)} {v : Value} (hg : want ops F g = some true) (hy : Yld P op ty F M L v)
  (h : TL P n ops rest Q ((d, v) :: F) D G M L) : TL P n ops (⟨some d, op, ty, pos, aft, g⟩ :: rest) Q F D G M L := fun hok w a hw ha => by
 simp only [List.all_cons, Bool.and_eq_true] at hok
 have hd : d < n := by have := hok.1; simp only [okOp, Nat.blt_eq] at this; exact this
 unfold wpListIn
 rw [if_pos (want_wanted (o := ⟨some d, op, ty, pos, aft, g⟩) hg ha)]
 exact hy.wpIn hw.sees (fun x u hx => ha.eval hx) (h hok.2 w _ hw (ha.put hd v))
theorem tl_e {d : Option Tmp} {op : Op} {ty : TypeId} {pos : String} {aft : Array Edge} {g : Option (Nat × Bool)} (hg : want ops F g = some true)
  (h : Tr P n d op ty Q F D G M L (fun F' D' M' L' => TL P n ops rest Q F' D' G M' L')) : TL P n ops (⟨d, op, ty, pos, aft, g⟩ :: rest) Q F D G M L := fun hok w a hw ha => by
 simp only [List.all_cons, Bool.and_eq_true] at hok
 unfold wpListIn
 rw [if_pos (want_wanted (o := ⟨d, op, ty, pos, aft, g⟩) hg ha)]
 have h1 := h hok.1 w a hw ha
 refine Oper.wpIn_mono (K := fun a' w' => ∃ F' D' M' L', Rel n a' F' D' ∧ St G M' L' w' ∧ TL P n ops rest Q F' D' G M' L') (fun a' w' ⟨F', D', M', L', hr, hs, hk⟩ => hk hok.2 w' a' hs hr) ?_
 exact h1
theorem tl_skip {d : Tmp} {op : Op} {ty : TypeId} {pos : String} {aft : Array Edge} {g : Option (Nat × Bool)} (hg : want ops F g = some false)
  (h : TL P n ops rest Q ((d, undef) :: F) D G M L) : TL P n ops (⟨some d, op, ty, pos, aft, g⟩ :: rest) Q F D G M L := fun hok w a hw ha => by
 simp only [List.all_cons, Bool.and_eq_true] at hok
 have hd : d < n := by have := hok.1; simp only [okOp, Nat.blt_eq] at this; exact this
 unfold wpListIn
 rw [if_neg (by rw [want_wanted (o := ⟨some d, op, ty, pos, aft, g⟩) hg ha]; simp)]
 exact ⟨fun _ _ => trivial, h hok.2 w _ hw (ha.put hd undef)⟩
theorem tl_cases {s : Nat} {p : Prop} [Decidable p] (hs : look F s = some (.bool (decide p))) (ht : p → TL P n ops rest Q ((s, .bool true) :: F) D G M L)
  (hf : ¬ p → TL P n ops rest Q ((s, .bool false) :: F) D G M L) : TL P n ops rest Q F D G M L := fun hok w a hw ha => by
 by_cases hp : p
 ·
  refine ht hp hok w a hw (ha.sub' ?_)
  simp only [hp, decide_true] at hs
  exact hs
 refine hf hp hok w a hw (ha.sub' ?_)
 simp only [hp, decide_false] at hs
 exact hs
theorem tl_casesb {s : Nat} {t : Bool} (hs : look F s = some (.bool t)) (ht : t = true → TL P n ops rest Q ((s, .bool true) :: F) D G M L)
  (hf : t = false → TL P n ops rest Q ((s, .bool false) :: F) D G M L) : TL P n ops rest Q F D G M L := fun hok w a hw ha => by
 cases t with
 | true => exact ht rfl hok w a hw (ha.sub' hs)
 | false => exact hf rfl hok w a hw (ha.sub' hs)
theorem tl_set {s : Nat} {v u : Value} (hs : look F s = some v) (he : v = u) (h : TL P n ops rest Q ((s, u) :: F) D G M L) : TL P n ops rest Q F D G M L := fun hok w a hw ha =>
 h hok w a hw (ha.sub' (he ▸ hs))
theorem T.set {c : Code} {s : Nat} {v u : Value} (hs : look F s = some v) (he : v = u) (h : T P n c Q ((s, u) :: F) D G M L) : T P n c Q F D G M L := fun hok w a hw ha =>
 h hok w a hw (ha.sub' (he ▸ hs))
theorem TL.sub {F' : Fr} (hs : Sub F' F) (h : TL P n ops rest Q F' D G M L) : TL P n ops rest Q F D G M L := fun hok w a hw ha => h hok w a hw (ha.sub hs)
theorem T.perm {c : Code} {L' : Own} (hp : L.Perm L') (h : T P n c Q F D G M L') : T P n c Q F D G M L := fun hok w a hw ha => h hok w a (hw.perm hp) ha
theorem TL.perm {L' : Own} (hp : L.Perm L') (h : TL P n ops rest Q F D G M L') : TL P n ops rest Q F D G M L := fun hok w a hw ha => h hok w a (hw.perm hp) ha
theorem TQ.perm {e : Exit} {L' : Own} (hp : L.Perm L') (h : TQ Q e F D G M L') : TQ Q e F D G M L := fun w hw => h w (hw.perm hp)
theorem T.bring {c : Code} (b : Nat) {o : Obj} {L' : Own} (hs : Sel L b o L') (h : T P n c Q F D G M ((b, o) :: L')) : T P n c Q F D G M L := h.perm hs.perm
theorem TL.bring (b : Nat) {o : Obj} {L' : Own} (hs : Sel L b o L') (h : TL P n ops rest Q F D G M ((b, o) :: L')) : TL P n ops rest Q F D G M L := h.perm hs.perm
theorem T.pub {c : Code} (b : Nat) {o : Obj} {L' : Own} (hs : Sel L b o L') (h : ∀ M', Le M M' → M' b = some o → T P n c Q F D G M' L') : T P n c Q F D G M L := fun hok w a hw ha =>
 let ⟨h1, h2, h3⟩ := (hw.perm hs.perm).publish
 h _ h2 h3 hok w a h1 ha
theorem TL.pub (b : Nat) {o : Obj} {L' : Own} (hs : Sel L b o L') (h : ∀ M', Le M M' → M' b = some o → TL P n ops rest Q F D G M' L') : TL P n ops rest Q F D G M L := fun hok w a hw ha =>
 let ⟨h1, h2, h3⟩ := (hw.perm hs.perm).publish
 h _ h2 h3 hok w a h1 ha
theorem TQ.pub {e : Exit} (b : Nat) {o : Obj} {L' : Own} (hs : Sel L b o L') (h : ∀ M', Le M M' → M' b = some o → TQ Q e F D G M' L') : TQ Q e F D G M L := fun w hw =>
 let ⟨h1, h2, h3⟩ := (hw.perm hs.perm).publish
 h _ h2 h3 w h1
theorem T.drop {c : Code} (b : Nat) {o : Obj} {L' : Own} (hs : Sel L b o L') (h : T P n c Q F D G M L') : T P n c Q F D G M L := fun hok w a hw ha =>
 h hok w a (hw.perm hs.perm).drop ha
theorem TQ.drop {e : Exit} (b : Nat) {o : Obj} {L' : Own} (hs : Sel L b o L') (h : TQ Q e F D G M L') : TQ Q e F D G M L := fun w hw => h w (hw.perm hs.perm).drop
end

structure Con (P : Program) (f : FuncId) (args : Array Value) (G : World) (M : Mem) (L : Own) (K : Value → Mem → Own → Prop) (Kp : List PanicEntry → Mem → Own → Prop) : Prop where
 enter : ∀ args w, (callFunc f args).run P w = .ok (.enter f args) w
 calls : ∀ w, St G M L w → Calls P f args w fun e w' => match e with
  | .returned v => ∃ M' L', Le M M' ∧ St G M' L' w' ∧ K v M' L'
  | .panicked c => ∃ M' L', Le M M' ∧ St G M' L' w' ∧ Kp c M' L'
  | .outgrown => False
def noPanic : List PanicEntry → Mem → Own → Prop := fun _ _ _ => False
def retQ (P : Program) (fn : Func) (G : World) (M : Mem) (K : Value → Mem → Own → Prop) (Kp : List PanicEntry → Mem → Own → Prop) : Post where
 ex := fun e F D w => match e with
  | .normal | .ret => D = [] ∧ ∃ v M' L', (∀ tmps, (∀ i u, look F i = some u → tmps.getD i undef = u) → (results fn tmps).run P w = .ok v w) ∧ Le M M' ∧ St G M' L' w ∧ K v M' L'
  | _ => False
 pn := fun c a w => a.defers = [] ∧ ∃ M' L', Le M M' ∧ St G M' L' w ∧ Kp c M' L'
 kp := []
 ro := none
 ins := fun _ _ _ _ _ _ h => h
def argsFr : Nat → List Value → Fr
 | _, [] => []
 | i, v :: vs => (i, v) :: argsFr (i + 1) vs
theorem look_argsFr : ∀ (vs : List Value) (k i : Nat) (v : Value), look (argsFr k vs) i = some v → k ≤ i ∧ vs[i - k]? = some v
 | [], _, _, _, h => by cases h
 | u :: us, k, i, v, h => by
  simp only [argsFr, look] at h
  by_cases hk : k = i
  ·
   subst hk
   simp [Nat.beq_refl] at h
   simp [h]
  have hb : Nat.beq k i = false := by rw [Bool.eq_false_iff]; exact fun hh => hk (Nat.eq_of_beq_eq_true hh)
  rw [hb] at h
  have := look_argsFr us (k + 1) i v h
  refine ⟨by omega, ?_⟩
  have he : i - k = (i - (k + 1)) + 1 := by omega
  rw [he, List.getElem?_cons_succ]
  exact this.2
theorem rel_enter (n : Nat) (args : List Value) : Rel n { tmps := args.toArray ++ Array.replicate (n - args.toArray.size) undef, defers := [] } (argsFr 0 args) [] := by
 refine ⟨by simp; omega, fun i v h => ?_, rfl⟩
 have := (look_argsFr args 0 i v h).2
 simp only [Nat.sub_zero] at this
 have hlt : i < args.length := (List.getElem?_eq_some_iff.1 this).1
 rw [Array.getD_eq_getD_getElem?, Array.getElem?_append_left (by simpa using hlt)]
 simp [this]
structure Fun (P : Program) (f : FuncId) (fn : Func) (c : Code) : Prop where
 get : P.funcs[f]? = some fn
 body : fn.body = some c
 name : (fn.name == "runtime.NumGoroutine") = false
 ok : okCode fn.ntmps c = true
theorem Fun.enter {P : Program} {f : FuncId} {fn : Func} {c : Code} (h : Fun P f fn c) (args : Array Value) (w : World) : (callFunc f args).run P w = .ok (.enter f args) w := by
 unfold callFunc
 have := h.name
 simp only [beq_eq_false_iff_ne, ne_eq] at this
 simp [h.get, this, h.body]
section
variable {P : Program} {f : FuncId} {fn : Func} {c : Code} {args : List Value} {G : World} {M : Mem} {L : Own} {K : Value → Mem → Own → Prop} {Kp : List PanicEntry → Mem → Own → Prop}
theorem enter (hf : Fun P f fn c) (n : Nat) (hn : fn.ntmps = n) (h : T P n c (retQ P fn G M K Kp) (argsFr 0 args) [] G M L) : Con P f args.toArray G M L K Kp := by
 subst hn
 refine ⟨hf.enter, fun w hw => calls_of_wp hf.get hf.body (Code.wp_mono ?_ (wpIn_wide.1 (h hf.ok w _ hw (rel_enter _ _))))⟩
 intro e a w' hq
 cases e with
 | normal =>
  obtain ⟨F, D, hr, hD, v, M', L', hres, hle, hst, hK⟩ := hq
  exact ⟨hr.defers.trans hD, v, hres _ hr.slot, M', L', hle, hst, hK⟩
 | ret =>
  obtain ⟨F, D, hr, hD, v, M', L', hres, hle, hst, hK⟩ := hq
  exact ⟨hr.defers.trans hD, v, hres _ hr.slot, M', L', hle, hst, hK⟩
 | panic ch => exact ⟨hq.1, hq.2⟩
 | exit i => obtain ⟨F, D, hr, hq⟩ := hq; exact hq.elim
 | goto i => obtain ⟨F, D, hr, hq⟩ := hq; exact hq.elim
 | outgrown => exact hq.elim
end
section
variable {P : Program} {fn : Func} {G : World} {M M' : Mem} {L : Own} {K : Value → Mem → Own → Prop} {Kp : List PanicEntry → Mem → Own → Prop} {F : Fr}
theorem ret0 (hr : fn.results = #[]) (hle : Le M M') (hK : K (.tuple #[]) M' L) : TQ (retQ P fn G M K Kp) .ret F [] G M' L := fun w hw =>
 ⟨rfl, _, M', L, fun tmps _ => by simp [results, hr], hle, hw, hK⟩
theorem end0 (hr : fn.results = #[]) (hle : Le M M') (hK : K (.tuple #[]) M' L) : TQ (retQ P fn G M K Kp) .normal F [] G M' L := fun w hw =>
 ⟨rfl, _, M', L, fun tmps _ => by simp [results, hr], hle, hw, hK⟩
theorem ret1 {t : Tmp} {v : Value} (hr : fn.results = #[.tmp t]) (hv : look F t = some v) (hle : Le M M') (hK : K v M' L) : TQ (retQ P fn G M K Kp) .ret F [] G M' L := fun w hw =>
 ⟨rfl, v, M', L, fun tmps ht => by have h1 := ht t v hv; rw [Array.getD_eq_getD_getElem?] at h1; simp [results, hr, h1], hle, hw, hK⟩
theorem ret2 {t u : Tmp} {v v' : Value} (hr : fn.results = #[.tmp t, .tmp u]) (hv : look F t = some v) (hv' : look F u = some v') (hle : Le M M') (hK : K (.tuple #[v, v']) M' L) : TQ (retQ P fn G M K Kp) .ret F [] G M' L := fun w hw =>
 ⟨rfl, _, M', L, fun tmps ht => by have h1 := ht t v hv; have h2 := ht u v' hv'; rw [Array.getD_eq_getD_getElem?] at h1 h2; simp [results, hr, h1, h2], hle, hw, hK⟩
theorem ret3 {t u x : Tmp} {v v' v'' : Value} (hr : fn.results = #[.tmp t, .tmp u, .tmp x]) (hv : look F t = some v) (hv' : look F u = some v') (hv'' : look F x = some v'') (hle : Le M M') (hK : K (.tuple #[v, v', v'']) M' L) : TQ (retQ P fn G M K Kp) .ret F [] G M' L := fun w hw =>
 ⟨rfl, _, M', L, fun tmps ht => by have h1 := ht t v hv; have h2 := ht u v' hv'; have h3 := ht x v'' hv''; rw [Array.getD_eq_getD_getElem?] at h1 h2 h3; simp [results, hr, h1, h2, h3], hle, hw, hK⟩
end
section
variable {P : Program} {n : Nat} {Q : Post} {F : Fr} {D : List Deferred} {G : World} {M : Mem} {L : Own} {d : Option Tmp} {ty : TypeId} {Kc : Fr → List Deferred → Mem → Own → Prop}
def putF (d : Option Tmp) (v : Value) (F : Fr) : Fr := match d with | some d => (d, v) :: F | none => F
theorem Rel.putF {a : Act} (h : Rel n a F D) {d : Option Tmp} {op : Op} {ty : TypeId} (hok : okOp n ⟨d, op, ty, "", #[], none⟩ = true) (v : Value) : Rel n (a.put d v) (putF d v F) D := by
 cases d with
 | none => exact h
 | some d => exact h.put (by simpa [okOp, Nat.blt_eq] using hok) v
def evs (F : Fr) : List Operand → Option (List Value)
 | [] => some []
 | x :: xs => match ev F x, evs F xs with
  | some v, some vs => some (v :: vs)
  | _, _ => none
theorem evs_map {ρ : Operand → Value} (h : ∀ x u, ev F x = some u → ρ x = u) : ∀ (xs : List Operand) (vs : List Value), evs F xs = some vs → xs.map ρ = vs
 | [], vs, hv => by cases hv; rfl
 | x :: xs, vs, hv => by
  simp only [evs] at hv
  cases h1 : ev F x with
  | none => rw [h1] at hv; cases hv
  | some v =>
   cases h2 : evs F xs with
   | none => rw [h1, h2] at hv; cases hv
   | some us =>
    rw [h1, h2] at hv
    simp only [Option.some.injEq] at hv
    subst hv
    simp [h x v h1, evs_map h xs us h2]
theorem e_callv {f : FuncId} {c : Operand} {xs : List Operand} {argTypes : Array TypeId} {first cap vs : List Value} {K : Value → Mem → Own → Prop} {Kp : List PanicEntry → Mem → Own → Prop}
  (hc : ev F c = some (.func (.func f) first.toArray cap.toArray)) (hxs : evs F xs = some vs) (hs : Con P f (first ++ vs ++ cap).toArray G M L K Kp)
  (hp : ∀ ch M' L', Le M M' → Kp ch M' L' → TP n Q ch F D G M' L')
  (h : ∀ v M' L', Le M M' → K v M' L' → Kc (putF d v F) D M' L') : Tr P n d (.call ⟨.value c, xs.toArray, argTypes⟩) ty Q F D G M L Kc := fun hok w a hw ha => by
 have hev : ∀ x u, ev F x = some u → a.eval x = u := fun x u hx => ha.eval hx
 have h1 : a.eval c = .func (.func f) first.toArray cap.toArray := hev _ _ hc
 have h2 : xs.map a.eval = vs := evs_map hev xs vs hxs
 have hrun : (execOp a.eval ⟨d, .call ⟨.value c, xs.toArray, argTypes⟩, ty, "", #[], none⟩).run P w = .ok (.enter f (first ++ vs ++ cap).toArray) w := by
  have he := hs.enter (first ++ vs ++ cap).toArray w
  simp only [execOp, resolve, h1, Deferred.ofValue, Sem.run_bind, Sem.run_pure, Result.andThen_ok, invoke, List.map_toArray, h2, List.append_toArray]
  exact he
 refine ⟨fun _ _ => trivial, ?_⟩
 rw [Oper.semAt_eq _ _ _ (fun c h => by cases h), hrun, Oper.uponIn_enter]
 refine ⟨fun h => (by cases h), callsIn_fen ((hs.calls w hw).mono ?_)⟩
 intro e w' hq
 cases e with
 | returned v =>
  obtain ⟨M', L', hle, hst, hK⟩ := hq
  exact ⟨_, _, M', L', ha.putF hok v, hst, h v M' L' hle hK⟩
 | panicked ch =>
  obtain ⟨M', L', hle, hst, hK⟩ := hq
  exact hp ch M' L' hle hK w' a hst ha
 | outgrown => exact hq.elim
theorem e_call {f : FuncId} {xs : List Operand} {argTypes : Array TypeId} {vs : List Value} {K : Value → Mem → Own → Prop} {Kp : List PanicEntry → Mem → Own → Prop}
  (hxs : evs F xs = some vs) (hs : Con P f vs.toArray G M L K Kp)
  (hp : ∀ ch M' L', Le M M' → Kp ch M' L' → TP n Q ch F D G M' L')
  (h : ∀ v M' L', Le M M' → K v M' L' → Kc (putF d v F) D M' L') : Tr P n d (.call ⟨.value (.func f), xs.toArray, argTypes⟩) ty Q F D G M L Kc :=
 e_callv (first := []) (cap := []) rfl hxs (by simpa using hs) hp h
theorem e_call' {f : FuncId} {xs : List Operand} {argTypes : Array TypeId} {vs : List Value} {K : Value → Mem → Own → Prop}
  (hxs : evs F xs = some vs) (hs : Con P f vs.toArray G M L K noPanic)
  (h : ∀ v M' L', Le M M' → K v M' L' → Kc (putF d v F) D M' L') : Tr P n d (.call ⟨.value (.func f), xs.toArray, argTypes⟩) ty Q F D G M L Kc :=
 e_call hxs hs (fun _ _ _ _ h => h.elim) h
theorem Con.perm {f : FuncId} {args : Array Value} {L' : Own} {K : Value → Mem → Own → Prop} {Kp : List PanicEntry → Mem → Own → Prop} (hp : L.Perm L') (h : Con P f args G M L' K Kp) : Con P f args G M L K Kp :=
 ⟨h.enter, fun w hw => h.calls w (hw.perm hp)⟩
theorem Con.mono {f : FuncId} {args : Array Value} {K K' : Value → Mem → Own → Prop} {Kp Kp' : List PanicEntry → Mem → Own → Prop} (h : Con P f args G M L K Kp)
  (hk : ∀ v M' L', Le M M' → K v M' L' → K' v M' L') (hkp : ∀ v M' L', Le M M' → Kp v M' L' → Kp' v M' L') : Con P f args G M L K' Kp' :=
 ⟨h.enter, fun w hw => (h.calls w hw).mono fun e w' he => by
  cases e with
  | returned v => obtain ⟨M', L', a, b, c⟩ := he; exact ⟨M', L', a, b, hk _ _ _ a c⟩
  | panicked v => obtain ⟨M', L', a, b, c⟩ := he; exact ⟨M', L', a, b, hkp _ _ _ a c⟩
  | outgrown => exact he⟩
end
end Go.Eng
