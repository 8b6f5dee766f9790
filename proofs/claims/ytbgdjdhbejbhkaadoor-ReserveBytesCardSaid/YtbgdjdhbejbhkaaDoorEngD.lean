/-
The walk engine: new blocks, stores.
-/
import Derived.Test.YtbgdjdhbejbhkaaDoorEngC
import Derived.ArgAppend
import Derived.OwnWalk
set_option linter.unusedVariables false
set_option linter.unusedSimpArgs false
namespace Go.Eng
instance {E R : Own} {b : Nat} {o : Obj} [h : Has R b o] : Has (E ++ R) b o := ⟨List.mem_append_right _ h.mem⟩
instance {E R R' : Own} {b : Nat} {o : Obj} [h : Sel R b o R'] : Sel (E ++ R) b o (E ++ R') := ⟨(h.perm.append_left E).trans List.perm_middle⟩
instance {E R R' : Own} {b : Nat} {o o' : Obj} [h : Upd R b o o' R'] : Upd (E ++ R) b o o' (E ++ R') := by
  obtain ⟨K, h1, h2⟩ := h.perm
  exact ⟨E ++ K, (h1.append_left E).trans List.perm_middle, (h2.append_left E).trans List.perm_middle⟩
def one (v : Value) : Bool := v.oneCell'
section
variable {P : Program} {n : Nat} {Q : Post} {F : Fr} {D : List Deferred} {G : World} {M : Mem} {L : Own} {d : Option Tmp} {ty : TypeId} {K : Fr → List Deferred → Mem → Own → Prop}
/-- From a run that hands back a value. -/
theorem tr_value {op : Op} (hnd : ∀ c, op ≠ .defer c) (h : ∀ w (ρ : Operand → Value), St G M L w → (∀ x u, ev F x = some u → ρ x = u) → ∃ v w' M' L', (execOp ρ ⟨none, op, ty, "", #[], none⟩).run P w = .ok (.value v) w' ∧ St G M' L' w' ∧ K (putF d v F) D M' L') :
    Tr P n d op ty Q F D G M L K := fun hok w a hw ha => by
  obtain ⟨v, w', M', L', hr, hs, hk⟩ := h w a.eval hw (fun x u hx => ha.eval hx)
  have hr' : (execOp a.eval ⟨d, op, ty, "", #[], none⟩).run P w = .ok (.value v) w' := hr
  refine ⟨fun _ _ => trivial, ?_⟩
  rw [Oper.semAt_eq _ _ _ hnd, hr']
  exact ⟨_, D, M', L', ha.putF hok v, hs, hk⟩
theorem tr_skip {op : Op} (hnd : ∀ c, op ≠ .defer c) (h : ∀ w (ρ : Operand → Value), St G M L w → (∀ x u, ev F x = some u → ρ x = u) → ∃ w' M' L', (execOp ρ ⟨none, op, ty, "", #[], none⟩).run P w = .ok .skip w' ∧ St G M' L' w' ∧ K F D M' L') :
    Tr P n none op ty Q F D G M L K := fun hok w a hw ha => by
  obtain ⟨w', M', L', hr, hs, hk⟩ := h w a.eval hw (fun x u hx => ha.eval hx)
  have hr' : (execOp a.eval ⟨none, op, ty, "", #[], none⟩).run P w = .ok .skip w' := hr
  refine ⟨fun _ _ => trivial, ?_⟩
  rw [Oper.semAt_eq _ _ _ hnd, hr']
  exact ⟨_, D, M', L', ha, hs, hk⟩
theorem St.push {w : World} (h : St G M L w) (o : Obj) : St G M ((w.heap.size, o) :: L) { w with heap := w.heap.push o } := h.alloc rfl rfl rfl rfl
theorem e_alloc {e : TypeId} {de : TypeDesc} {z : Value} {s b0 : Nat} {cs : List Value} [te : TI P e de z s b0] [tc : CellsOf z cs] (h : ∀ b, K (putF d (.pointer (some ⟨b, 0, none⟩)) F) D M ((b, .cells cs.toArray e (0, 0)) :: L)) :
    Tr P n d (.alloc e) ty Q F D G M L K := tr_value (fun c h => by cases h) fun w ρ hw hρ => by
  obtain ⟨j, hj, hz, _, _⟩ := te.parts
  refine ⟨_, _, M, _, ?_, hw.push (.cells cs.toArray e (0, 0)), h _⟩
  simp [execOp, Instr.alloc, zeroValue, typeInfo, hj, hz, newVar, newRow, tc.eq]
theorem e_box {e : TypeId} {x : Operand} {v : Value} {cs : List Value} (hx : ev F x = some v) [tc : CellsOf v cs] (h : ∀ b, K (putF d (.pointer (some ⟨b, 0, none⟩)) F) D M ((b, .cells cs.toArray e (0, 0)) :: L)) :
    Tr P n d (.box e x) ty Q F D G M L K := tr_value (fun c h => by cases h) fun w ρ hw hρ => by
  refine ⟨_, _, M, _, ?_, hw.push (.cells cs.toArray e (0, 0)), h _⟩
  simp [execOp, Instr.box, newVar, newRow, hρ _ _ hx, tc.eq]
/-- A literal slice. -/
theorem e_buildSlice {t e : TypeId} {m : Nat} {parts : List (Nat × Operand)} {z z' : Value} {s s' b0 b' : Nat} {de : TypeDesc} [ti : TI P t (.slice e) z s b0] [te : TI P e de z' s' b'] {zs z0 cells : List Value} [tc : CellsOf z' zs] [tl : LenN zs s'] [tr : RepL m zs z0] {vs : List (Nat × Value)} (hp : evps F parts = some vs)
    (hm : m * s' ≤ 16777216 ∧ m * s' ≠ 0) [hf : FillTo (fun i => some (i * s', s')) z0 vs cells]
    (h : ∀ b, K (putF d (.slice (some ⟨b, 0, none⟩) m m) F) D M ((b, .cells cells.toArray e (0, 0)) :: L)) :
    Tr P n d (.buildSlice t m parts.toArray) ty Q F D G M L K := tr_value (fun c h => by cases h) fun w ρ hw hρ => by
  obtain ⟨j, hj, hz, hjs, _⟩ := te.parts
  subst hjs
  refine ⟨_, _, M, _, ?_, hw.push (.cells cells.toArray e (0, 0)), h _⟩
  have h1 : ¬ (m * j.size > 2 ^ 24) := by have := hm.1; omega
  have hpos : 0 < zs.length := by
    rcases Nat.eq_zero_or_pos zs.length with h0 | h0
    · exact absurd (by rw [← tl.len, h0, Nat.mul_zero]) hm.2
    · exact h0
  have h2 := tr.range hpos
  rw [tl.len] at h2
  simp only [execOp, Instr.buildSlice, Sem.run_bind, run_underlying ti.und, Result.andThen_ok, run_size hj, if_neg h1, if_neg hm.2, List.map_toArray, evps_map hρ _ _ hp]
  have hz' : (zeroValue e).run P w = .ok z' w := by simp [zeroValue, typeInfo, hj, hz]
  have h3 : (Array.map (fun x => z'.cells[x % z'.cells.size]!) (Array.range (m * j.size))) = z0.toArray := by rw [tc.eq]; exact h2
  rw [hz']
  simp only [Result.andThen_ok, Sem.run_pure]
  rw [h3, hf.fill]
  simp [newRow]
/-- 'make([]T, l, c)'. -/
theorem e_make {t e : TypeId} {xl xc : Operand} {z z' : Value} {s s' b0 b' : Nat} {de : TypeDesc} [ti : TI P t (.slice e) z s b0] [te : TI P e de z' s' b'] {kl kc : IntKind} {l c : Int} (hl : ev F xl = some (.int kl l)) (hc : ev F xc = some (.int kc c))
    (h0 : 0 ≤ l) (hlc : l ≤ c) (hb : (b' : Int) * c ≤ 281474976710656) (h63 : c ≤ 9223372036854775807)
    (h : ∀ b, K (putF d (.slice (some ⟨b, 0, none⟩) l.toNat c.toNat) F) D M ((b, .cells (madeCells z'.cells (c.toNat * s')) e (0, 0)) :: L)) :
    Tr P n d (.makeSlice t xl xc) ty Q F D G M L K := tr_value (fun c h => by cases h) fun w ρ hw hρ => by
  obtain ⟨j, hj, hz, hjs, hjb⟩ := te.parts
  subst hjs
  subst hjb
  refine ⟨_, _, M, _, ?_, hw.push (.cells (madeCells z'.cells (c.toNat * j.size)) e (0, 0)), h _⟩
  have := run_make (P := P) w t e j z' ti.und hj hz kl kc l c h0 hlc hb h63
  simp only [execOp, hρ _ _ hl, hρ _ _ hc, Sem.run_bind, this, Result.andThen_ok, Sem.run_pure]
  rfl
theorem made_one {z : Value} (h : z.cells = #[z]) (m : Nat) : madeCells z.cells m = (List.replicate m z).toArray := by
  rw [h]
  apply Array.ext
  · simp [madeCells]
  · intro i h1 h2; simp [madeCells, Nat.mod_one]
/-- A store into an owned block. -/
theorem run_storeVar {w : World} {t : TypeId} {ti : TypeInfo} (hi : P.info? t = some ti) {b o : Nat} {c : List Value} {T : TypeId} {v : Value} {cs c' : List Value} (hv : v.cells = cs.toArray) (hsz : cs.length = ti.size) (h1 : cs.all one = true)
    (hg : w.heap[b]? = some (.cells c.toArray T (0, 0))) (hp : PutAt c o cs c') : (storeVar t ⟨b, o, none⟩ v).run P w = .ok () (w.setRow b c'.toArray) := by
  have hst := run_storeCells_at P b o T cs 0 c.toArray w hg (by simpa using hp.le) (fun u hu => List.all_eq_true.1 h1 u hu)
  simp only [Nat.add_zero, List.append_assoc] at hst
  have : c'.toArray = (c.toArray.toList.take o ++ (cs ++ c.toArray.toList.drop (o + cs.length))).toArray := by rw [hp.put]
  rw [← this] at hst
  simp [storeVar, run_size hi, hv, hsz, hst]
theorem e_store {t : TypeId} {xa xv : Operand} {d' : TypeDesc} {z : Value} {s b0 : Nat} [ti : TI P t d' z s b0] {b o : Nat} {c c' cs : List Value} {T : TypeId} {v : Value} {L' : Own}
    (ha : ev F xa = some (.pointer (some ⟨b, o, none⟩))) (hv : ev F xv = some v) [tc : CellsOf v cs] (hsz : cs.length = s) (h1 : cs.all one = true)
    (hh : Has L b (.cells c.toArray T (0, 0))) (hp : PutAt c o cs c') (hu : Upd L b (.cells c.toArray T (0, 0)) (.cells c'.toArray T (0, 0)) L')
    (h : K F D M L') : Tr P n none (.store t xa xv) ty Q F D G M L K := tr_skip (fun c h => by cases h) fun w ρ hw hρ => by
  obtain ⟨j, hj, _, hjs, _⟩ := ti.parts
  have hg := (hw.own _ hh.mem).1
  refine ⟨w.setRow b c'.toArray, M, L', ?_, hw.upd hu rfl rfl rfl (setRow_heap w b _ _ T _ hg) (fun i hi => setRow_other w b i _ hi), h⟩
  have := run_storeVar (P := P) hj tc.eq (hsz.trans hjs.symm) h1 hg hp
  simp only [execOp, hρ _ _ ha, hρ _ _ hv, Instr.storeAt, Instr.sureAddr, Sem.run_bind, Sem.run_pure, Result.andThen_ok, this]
/-- A store into a row whose cells are known as a list. -/
theorem e_storeAt {t : TypeId} {xa xv : Operand} {d' : TypeDesc} {z : Value} {b0 : Nat} [ti : TI P t d' z 1 b0] {b o : Nat} {c : List Value} {T : TypeId} {v : Value} {L' : Own}
    (ha : ev F xa = some (.pointer (some ⟨b, o, none⟩))) (hv : ev F xv = some v) [tc : CellsOf v [v]] (h1 : one v = true)
    (hh : Has L b (.cells c.toArray T (0, 0))) (ho : o < c.length) (hu : Upd L b (.cells c.toArray T (0, 0)) (.cells (c.set o v).toArray T (0, 0)) L')
    (h : K F D M L') : Tr P n none (.store t xa xv) ty Q F D G M L K :=
  e_store (cs := [v]) (c' := c.set o v) ha hv rfl (by simpa using h1) hh ⟨by
    rw [List.set_eq_take_append_cons_drop]; simp [ho], by simp; omega⟩ hu h
end
end Go.Eng
