/-
The walk engine: made rows.
-/
import Derived.Test.YtbgdjdhbejbhkaaDoorEngJ
set_option linter.unusedVariables false
set_option linter.unusedSimpArgs false
namespace Go.Eng
section
variable {P : Program} {ty : TypeId} {F : Fr} {M : Mem} {L : Own} {x y : Operand} {t t' : TypeId}
/-! ### Interfaces -/
theorem y_assertTo {u : TypeId} {d : TypeDesc} {z : Value} {s b0 : Nat} [ti : TI P u d z s b0] {v : Value} (hd : ∀ ms, d ≠ .interface ms) (hx : ev F x = some (.iface u v)) : Yld P (.typeAssert x t u false) ty F M L v := fun w ρ hs hρ => by
  cases d <;> first | (exact absurd rfl (hd _)) | simp [execOp, hρ _ _ hx, Instr.typeAssert, run_underlying ti.und]
end
/-! ### Rows of cells that were made, or found whole -/
section
variable {P : Program} {n : Nat} {Q : Post} {F : Fr} {D : List Deferred} {G : World} {M : Mem} {L R : Own} {d : Option Tmp} {ty : TypeId} {K : Fr → List Deferred → Mem → Own → Prop}
theorem e_make1 {t e : TypeId} {xl xc : Operand} {z z' : Value} {s b0 b' : Nat} {de : TypeDesc} [ti : TI P t (.slice e) z s b0] [te : TI P e de z' 1 b'] [tc : CellsOf z' [z']] {kl kc : IntKind} {l c : Int} (hl : ev F xl = some (.int kl l)) (hc : ev F xc = some (.int kc c))
    (h0 : 0 ≤ l) (hlc : l ≤ c) (hb : (b' : Int) * c ≤ 281474976710656) (h63 : c ≤ 9223372036854775807)
    (h : ∀ b, K (putF d (.slice (some ⟨b, 0, none⟩) l.toNat c.toNat) F) D M ((b, .cells (List.replicate c.toNat z').toArray e (0, 0)) :: L)) :
    Tr P n d (.makeSlice t xl xc) ty Q F D G M L K := e_make hl hc h0 hlc hb h63 fun b => by
  rw [Nat.mul_one, made_one tc.eq]; exact h b
theorem Row.whole {M : Mem} {b s m : Nat} {vs : List Value} {T : TypeId} {fr : Nat × Nat} (hM : M b = some (.cells vs.toArray T fr)) (hl : vs.length = m * s) (h63 : m ≤ 9223372036854775807) : Row M s (some ⟨b, 0, none⟩) m m vs :=
  ⟨hl, Nat.le_refl _, h63, fun _ => ⟨b, 0, _, T, fr, rfl, hM, fun j v hj => by simpa using hj⟩⟩
theorem Bytes.zeros {M : Mem} {b m : Nat} {T : TypeId} {fr : Nat × Nat} (hM : M b = some (.cells (List.replicate m (.int .u8 0)).toArray T fr)) (h63 : m ≤ 9223372036854775807) : Bytes M (some ⟨b, 0, none⟩) m m (List.replicate m 0) := by
  have := Row.whole (s := 1) hM (by simp) h63
  simpa [Bytes, bv] using this
variable {M0 : Mem} {L0 L' : Own} {ops : Array Oper} {τ f : Nat} {X : Array Bool}
theorem TO.to (T' : Own) (hp : PermTo L T') (h : TO P n ops τ M0 L0 f X Q F D G M T') : TO P n ops τ M0 L0 f X Q F D G M L := h.perm hp.perm
theorem TO.bring (b : Nat) {o : Obj} (hs : Sel L b o L') (h : TO P n ops τ M0 L0 f X Q F D G M ((b, o) :: L')) : TO P n ops τ M0 L0 f X Q F D G M L := h.perm hs.perm
theorem TO.bringE (E : Own) (hs : SelE L E L') (h : TO P n ops τ M0 L0 f X Q F D G M (E ++ L')) : TO P n ops τ M0 L0 f X Q F D G M L := h.perm hs.perm
theorem TO.pub (b : Nat) {o : Obj} (hs : Sel L b o L') (h : ∀ M', Le M M' → M' b = some o → TO P n ops τ M0 L0 f X Q F D G M' L') : TO P n ops τ M0 L0 f X Q F D G M L := fun hok hkp w a hw ha hcl hs' =>
  let ⟨h1, h2, h3⟩ := (hw.perm hs.perm).publish
  h _ h2 h3 hok hkp w a h1 ha hcl hs'
theorem TQ.dropped {e : Exit} (b : Nat) {o : Obj} (hs : Sel L b o L') (h : TQ Q e F D G M L') : TQ Q e F D G M L := fun w hw => h w (hw.perm hs.perm).drop
end
/-! ### Cells of an owned row, wherever its entry stands -/
theorem OwnRow.cellIn {M : Mem} {L L' : Own} {e : TypeId} {s n cap : Nat} {A : Option Addr} {vs : List Value} {E : Own} (h : OwnRow e s A n cap vs E) (hs : SelE L E L') (hn : 0 < vs.length) : ∃ g o, A = some ⟨g, o, none⟩ ∧ ∀ j v, vs[j]? = some v → CellAt M L ⟨g, o + j, none⟩ v := by
  obtain ⟨g, o, e, hc⟩ := h.cell (M := M) (R := L') hn
  exact ⟨g, o, e, fun j v hj w hw => hc j v hj w ⟨hw.ro, fun p hp => hw.own p (hs.perm.mem_iff.2 hp)⟩⟩
theorem OwnRow.cellsIn {M : Mem} {L L' : Own} {e : TypeId} {s n cap : Nat} {A : Option Addr} {vs : List Value} {E : Own} (h : OwnRow e s A n cap vs E) (hs : SelE L E L') (hn : 0 < vs.length) : ∃ g o, A = some ⟨g, o, none⟩ ∧ ∀ i m, i + m ≤ vs.length → CellsN M L ⟨g, o + i, none⟩ m ((vs.drop i).take m) := by
  obtain ⟨g, o, e, hc⟩ := h.cellIn (M := M) hs hn
  refine ⟨g, o, e, fun i m hi => ⟨fun w hw j v hj => ?_, by simp; omega⟩⟩
  rw [add_plain, Nat.add_assoc]
  rw [List.getElem?_take] at hj
  split at hj
  · rw [List.getElem?_drop] at hj
    exact hc _ v hj w hw
  · cases hj
theorem CellsN.at_ {M : Mem} {L : Own} {b o o' n : Nat} {v : List Value} (h : CellsN M L ⟨b, o', none⟩ n v) (e : o' = o) : CellsN M L ⟨b, o, none⟩ n v := e ▸ h
theorem take_two {vs : List Value} {i : Nat} {a b : Value} (h1 : vs[i]? = some a) (h2 : vs[i + 1]? = some b) : (vs.drop i).take 2 = [a, b] := by
  have l1 := (List.getElem?_eq_some_iff.1 h1)
  have l2 := (List.getElem?_eq_some_iff.1 h2)
  obtain ⟨k1, e1⟩ := l1
  obtain ⟨k2, e2⟩ := l2
  rw [List.drop_eq_getElem_cons k1, List.drop_eq_getElem_cons k2, e1, e2]
  rfl
/-- A row that is read as it lies, whoever owns it. -/
structure RowIn (M : Mem) (L : Own) (s : Nat) (A : Option Addr) (n : Nat) (vs : List Value) : Prop where
  len : vs.length = n * s
  addr : 0 < n → ∃ b o, A = some ⟨b, o, none⟩ ∧ ∀ j v, vs[j]? = some v → CellAt M L ⟨b, o + j, none⟩ v
theorem Row.in_ {M : Mem} {L : Own} {s n cap : Nat} {A : Option Addr} {vs : List Value} (h : Row M s A n cap vs) : RowIn M L s A n vs := ⟨h.len, fun hn => let ⟨b, o, e, hc⟩ := h.addr hn; ⟨b, o, e, fun j v hj => hc L j v hj⟩⟩
theorem OwnRow.in_ {M : Mem} {L L' : Own} {e : TypeId} {s n cap : Nat} {A : Option Addr} {vs : List Value} {E : Own} (h : OwnRow e s A n cap vs E) (hs : SelE L E L') (h0 : 0 < s) : RowIn M L s A n vs := ⟨h.len, fun hn => h.cellIn hs (by rw [h.len]; exact Nat.mul_pos hn h0)⟩
end Go.Eng
