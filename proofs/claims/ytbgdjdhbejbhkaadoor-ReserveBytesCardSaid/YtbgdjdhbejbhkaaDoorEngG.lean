/-
The walk engine: rows of bytes, entries.
-/
import Derived.Test.YtbgdjdhbejbhkaaDoorEngF
set_option linter.unusedVariables false
set_option linter.unusedSimpArgs false
namespace Go.Eng
/-! ### Rows of bytes -/
def bv (x : UInt8) : Value := .int .u8 (x.toNat : Int)
abbrev Bytes (M : Mem) (A : Option Addr) (n cap : Nat) (bs : List UInt8) : Prop := Row M 1 A n cap (bs.map bv)
theorem Row.size {M : Mem} {A : Option Addr} {n cap : Nat} {bs : List UInt8} (h : Bytes M A n cap bs) : bs.length = n := by have := h.len; simpa using this
theorem all_one_bv (bs : List UInt8) : (bs.map bv).all one = true := by simp [bv, one, Value.oneCell']
theorem Row.byte {M : Mem} {A : Option Addr} {n cap : Nat} {bs : List UInt8} (h : Bytes M A n cap bs) (hn : 0 < n) : ∃ b o, A = some ⟨b, o, none⟩ ∧ ∀ L j (hj : j < n), CellAt M L ⟨b, o + j, none⟩ (.int .u8 (((bs.getD j 0).toNat : Nat) : Int)) := by
  obtain ⟨b, o, e, hc⟩ := h.addr hn
  have hs := h.size
  refine ⟨b, o, e, fun L j hj => ?_⟩
  have := hc L j (bv (bs.getD j 0)) (by rw [List.getElem?_map, List.getD_eq_getElem?_getD, List.getElem?_eq_getElem (by omega)]; rfl)
  exact this
end Go.Eng
namespace Go.Eng
/-! ### More on picking entries -/
/-- The owned entries of one row are moved ahead. -/
class SelE (L E : Own) (L' : outParam Own) : Prop where
  perm : L.Perm (E ++ L')
instance (priority := 1100) {E R : Own} : SelE (E ++ R) E R := ⟨List.Perm.refl _⟩
instance {e : Nat × Obj} {L E L' : Own} [h : SelE L E L'] : SelE (e :: L) E (e :: L') := ⟨(List.Perm.cons e h.perm).trans List.perm_middle.symm⟩
instance {E' L E L' : Own} [h : SelE L E L'] : SelE (E' ++ L) E (E' ++ L') :=
  ⟨(h.perm.append_left E').trans (by rw [← List.append_assoc, ← List.append_assoc]; exact List.Perm.append_right _ List.perm_append_comm)⟩
instance (priority := 500) {E : Own} : SelE E E [] := ⟨by simp⟩
/-- The same entries, in the order asked. -/
class PermTo (L T : Own) : Prop where
  perm : L.Perm T
instance (priority := 1200) {L : Own} : PermTo L L := ⟨List.Perm.refl _⟩
instance (priority := 1100) {L L1 T : Own} {b : Nat} {o : Obj} [h : Sel L b o L1] [k : PermTo L1 T] : PermTo L ((b, o) :: T) := ⟨h.perm.trans (List.Perm.cons _ k.perm)⟩
instance {L L1 E T : Own} [h : SelE L E L1] [k : PermTo L1 T] : PermTo L (E ++ T) := ⟨h.perm.trans (k.perm.append_left E)⟩
section
variable {P : Program} {n : Nat} {Q : Post} {F : Fr} {D : List Deferred} {G : World} {M : Mem} {L L' T' : Own} {ops : Array Oper} {rest : List Oper} {c : Code} {e : Exit}
theorem T.to (T' : Own) (hp : PermTo L T') (h : T P n c Q F D G M T') : T P n c Q F D G M L := h.perm hp.perm
theorem TL.to (T' : Own) (hp : PermTo L T') (h : TL P n ops rest Q F D G M T') : TL P n ops rest Q F D G M L := h.perm hp.perm
theorem TQ.to (T' : Own) (hp : PermTo L T') (h : TQ Q e F D G M T') : TQ Q e F D G M L := h.perm hp.perm
theorem T.bringE (E : Own) (hs : SelE L E L') (h : T P n c Q F D G M (E ++ L')) : T P n c Q F D G M L := h.perm hs.perm
theorem TL.bringE (E : Own) (hs : SelE L E L') (h : TL P n ops rest Q F D G M (E ++ L')) : TL P n ops rest Q F D G M L := h.perm hs.perm
theorem TQ.bringE (E : Own) (hs : SelE L E L') (h : TQ Q e F D G M (E ++ L')) : TQ Q e F D G M L := h.perm hs.perm
theorem Con.to {f : FuncId} {args : Array Value} {K : Value → Mem → Own → Prop} {Kp : List PanicEntry → Mem → Own → Prop} (T' : Own) (hp : PermTo L T') (h : Con P f args G M T' K Kp) : Con P f args G M L K Kp := h.perm hp.perm
theorem Con.post {f : FuncId} {args : Array Value} {K K' : Value → Mem → Own → Prop} (h : Con P f args G M L K noPanic) (hk : ∀ v M' L', Le M M' → K v M' L' → K' v M' L') : Con P f args G M L K' noPanic := h.mono hk (fun _ _ _ _ h => h)
end
/-- Entries ahead that are let go. -/
class DropTo (L T : Own) : Prop where
  perm : ∃ K, L.Perm (K ++ T)
instance (priority := 1200) {L : Own} : DropTo L L := ⟨[], List.Perm.refl _⟩
instance (priority := 1100) {e : Nat × Obj} {L T : Own} [h : DropTo L T] : DropTo (e :: L) T := by
  obtain ⟨K, hk⟩ := h.perm
  exact ⟨e :: K, hk.cons e⟩
instance {E L T : Own} [h : DropTo L T] : DropTo (E ++ L) T := by
  obtain ⟨K, hk⟩ := h.perm
  exact ⟨E ++ K, by rw [List.append_assoc]; exact hk.append_left E⟩
instance (priority := 1150) {L L1 T : Own} {b : Nat} {o : Obj} [h : Sel L b o L1] [k : DropTo L1 T] : DropTo L ((b, o) :: T) := by
  obtain ⟨K, hk⟩ := k.perm
  exact ⟨K, h.perm.trans ((hk.cons _).trans List.perm_middle.symm)⟩
instance (priority := 1150) {L L1 E T : Own} [h : SelE L E L1] [k : DropTo L1 T] : DropTo L (E ++ T) := by
  obtain ⟨K, hk⟩ := k.perm
  refine ⟨K, h.perm.trans ((hk.append_left E).trans ?_)⟩
  rw [← List.append_assoc, ← List.append_assoc]
  exact List.Perm.append_right _ List.perm_append_comm
theorem St.dropTo {G : World} {M : Mem} {L T : Own} {w : World} [h : DropTo L T] (hw : St G M L w) : St G M T w := by
  obtain ⟨K, hk⟩ := h.perm
  exact (hw.perm hk).dropAll
theorem T.dropTo {P : Program} {n : Nat} {Q : Post} {F : Fr} {D : List Deferred} {G : World} {M : Mem} {L : Own} {c : Code} (T' : Own) (hd : DropTo L T') (h : T P n c Q F D G M T') : T P n c Q F D G M L := fun hok w a hw ha => h hok w a hw.dropTo ha
theorem TQ.dropTo {Q : Post} {F : Fr} {D : List Deferred} {G : World} {M : Mem} {L : Own} {e : Exit} (T' : Own) (hd : DropTo L T') (h : TQ Q e F D G M T') : TQ Q e F D G M L := fun w hw => h w hw.dropTo
/-- Owned entries that are never looked at again. -/
theorem T.dropE {P : Program} {n : Nat} {Q : Post} {F : Fr} {D : List Deferred} {G : World} {M : Mem} {E R : Own} {c : Code} (h : T P n c Q F D G M R) : T P n c Q F D G M (E ++ R) := fun hok w a hw ha => h hok w a hw.dropAll ha
theorem TQ.dropE {Q : Post} {F : Fr} {D : List Deferred} {G : World} {M : Mem} {E R : Own} {e : Exit} (h : TQ Q e F D G M R) : TQ Q e F D G M (E ++ R) := fun w hw => h w hw.dropAll
/-! ### More appends, literals, copies -/
section
variable {P : Program} {n : Nat} {Q : Post} {F : Fr} {D : List Deferred} {G : World} {M : Mem} {L R : Own} {d : Option Tmp} {ty : TypeId} {K : Fr → List Deferred → Mem → Own → Prop}
/-- A literal slice without elements. -/
theorem e_buildSlice0 {t e : TypeId} {z z' : Value} {s s' b0 b' : Nat} {de : TypeDesc} [ti : TI P t (.slice e) z s b0] [te : TI P e de z' s' b'] (h : ∀ b, K (putF d (.slice (some ⟨b, 0, none⟩) 0 0) F) D M ((b, .cells (List.toArray []) e (0, 0)) :: L)) :
    Tr P n d (.buildSlice t 0 #[]) ty Q F D G M L K := tr_value (fun c h => by cases h) fun w ρ hw hρ => by
  obtain ⟨j, hj, hz, hjs, _⟩ := te.parts
  subst hjs
  refine ⟨_, _, M, _, ?_, hw.push (.cells (List.toArray []) e (0, 0)), h _⟩
  simp [execOp, Instr.buildSlice, run_underlying ti.und, run_size hj, Instr.fill, newRow]
  have e0 : Array.map (fun _ => (default : Value)) (Array.range 0) = #[] := Array.ext (by simp) (by simp)
  rw [e0]
theorem OwnRow.made00 {e : TypeId} {s b : Nat} : OwnRow e s (some ⟨b, 0, none⟩) 0 0 [] [(b, .cells (List.toArray []) e (0, 0))] := OwnRow.made0 (n := 0) (by simp) (by omega)
/-- 'append(a, b...)' where 'a' is just the one entry of a block. -/
theorem e_append1 {t : TypeId} {e : TypeId} {x y : Operand} {z z0 : Value} {s b0 s0 b00 : Nat} {de : TypeDesc} [ti : TI P t (.slice e) z0 s0 b00] [te : TI P e de z s b0] (hz : z.cells.size = s ∧ 0 < s) {p : Nat × Obj} {A B : Option Addr} {nn cap m c : Nat} {vs news : List Value}
    (hx : ev F x = some (.slice A nn cap)) (hy : ev F y = some (.slice B m c)) (ho : OwnRow e s A nn cap vs [p]) (hs : Src M (p :: R) s B m news) (h1 : news.all one = true) (h63 : nn + m ≤ 9223372036854775807) (hby : (nn + m) * b0 ≤ 140737488355328)
    (h : ∀ A' cap' E', OwnRow e s A' (nn + m) cap' (vs ++ news) E' → K (putF d (.slice A' (nn + m) cap') F) D M (E' ++ R)) :
    Tr P n d (.call ⟨.builtin .append, #[x, y], #[t, t]⟩) ty Q F D G M (p :: R) K := e_append (E := [p]) hz hx hy ho hs h1 h63 hby h
end
end Go.Eng
