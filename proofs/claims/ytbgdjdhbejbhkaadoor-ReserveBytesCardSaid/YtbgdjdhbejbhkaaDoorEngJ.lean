/-
The walk engine: rows of rows.
-/
import Derived.Test.YtbgdjdhbejbhkaaDoorEngI
set_option linter.unusedVariables false
set_option linter.unusedSimpArgs false
namespace Go.Eng
/-! ### Rows of rows of bytes -/
inductive BRows (M : Mem) : List Value → List (List UInt8) → Prop
  | nil : BRows M [] []
  | cons {A : Option Addr} {n c : Nat} {bs : List UInt8} {vs : List Value} {bss : List (List UInt8)} : Bytes M A n c bs → BRows M vs bss → BRows M (.slice A n c :: vs) (bs :: bss)
theorem BRows.len {M : Mem} {vs : List Value} {bss : List (List UInt8)} (h : BRows M vs bss) : vs.length = bss.length := by induction h <;> simp_all
theorem BRows.mono {M M' : Mem} {vs : List Value} {bss : List (List UInt8)} (h : BRows M vs bss) (hle : Le M M') : BRows M' vs bss := by
  induction h with
  | nil => exact .nil
  | cons hb _ ih => exact .cons (hb.mono hle) ih
theorem BRows.get {M : Mem} {vs : List Value} {bss : List (List UInt8)} (h : BRows M vs bss) : ∀ i, i < bss.length → ∃ A n c, vs[i]? = some (.slice A n c) ∧ Bytes M A n c (bss.getD i []) := by
  induction h with
  | nil => intro i hi; simp at hi
  | cons hb _ ih =>
    intro i hi
    cases i with
    | zero => exact ⟨_, _, _, rfl, by simpa using hb⟩
    | succ i => simpa using ih i (by simpa using hi)
theorem BRows.set {M : Mem} {vs : List Value} {bss : List (List UInt8)} (h : BRows M vs bss) {A : Option Addr} {n c : Nat} {bs : List UInt8} (hb : Bytes M A n c bs) : ∀ i, BRows M (vs.set i (.slice A n c)) (bss.set i bs) := by
  induction h with
  | nil => intro i; simpa using BRows.nil
  | cons hb' ht ih =>
    intro i
    cases i with
    | zero => simpa using BRows.cons hb ht
    | succ i => simpa using BRows.cons hb' (ih i)
theorem BRows.append {M : Mem} {vs vs' : List Value} {bss bss' : List (List UInt8)} (h : BRows M vs bss) (h' : BRows M vs' bss') : BRows M (vs ++ vs') (bss ++ bss') := by
  induction h with
  | nil => simpa using h'
  | cons hb _ ih => exact .cons hb ih
theorem BRows.snoc {M : Mem} {vs : List Value} {bss : List (List UInt8)} (h : BRows M vs bss) {A : Option Addr} {n c : Nat} {bs : List UInt8} (hb : Bytes M A n c bs) : BRows M (vs ++ [.slice A n c]) (bss ++ [bs]) := h.append (.cons hb .nil)
theorem BRows.one {M : Mem} {vs : List Value} {bss : List (List UInt8)} (h : BRows M vs bss) : vs.all Go.Eng.one = true := by
  induction h with
  | nil => rfl
  | cons _ _ ih => simpa [Go.Eng.one, Value.oneCell'] using ih
/-! ### Rows of pairs of a number and a row of bytes -/
inductive PRows (M : Mem) : List Value → List (Int × List UInt8) → Prop
  | nil : PRows M [] []
  | cons {i : Int} {A : Option Addr} {n c : Nat} {bs : List UInt8} {vs : List Value} {ps : List (Int × List UInt8)} : Bytes M A n c bs → PRows M vs ps → PRows M (.int .i64 i :: .slice A n c :: vs) ((i, bs) :: ps)
theorem PRows.len {M : Mem} {vs : List Value} {ps : List (Int × List UInt8)} (h : PRows M vs ps) : vs.length = ps.length * 2 := by
  induction h with
  | nil => rfl
  | cons _ _ ih => simp; omega
theorem PRows.mono {M M' : Mem} {vs : List Value} {ps : List (Int × List UInt8)} (h : PRows M vs ps) (hle : Le M M') : PRows M' vs ps := by
  induction h with
  | nil => exact .nil
  | cons hb _ ih => exact .cons (hb.mono hle) ih
theorem PRows.get {M : Mem} {vs : List Value} {ps : List (Int × List UInt8)} (h : PRows M vs ps) : ∀ k, k < ps.length → ∃ A n c, vs[k * 2]? = some (.int .i64 (ps.getD k default).1) ∧ vs[k * 2 + 1]? = some (.slice A n c) ∧ Bytes M A n c (ps.getD k default).2 := by
  induction h with
  | nil => intro k hk; simp at hk
  | cons hb _ ih =>
    intro k hk
    cases k with
    | zero => exact ⟨_, _, _, rfl, rfl, by simpa using hb⟩
    | succ k =>
      obtain ⟨A, n, c, h1, h2, h3⟩ := ih k (by simpa using hk)
      refine ⟨A, n, c, ?_, ?_, by simpa using h3⟩
      · rw [show (k + 1) * 2 = k * 2 + 1 + 1 by omega]; simpa using h1
      · rw [show (k + 1) * 2 + 1 = k * 2 + 1 + 1 + 1 by omega]; simpa using h2
theorem PRows.snoc {M : Mem} {vs : List Value} {ps : List (Int × List UInt8)} (h : PRows M vs ps) {i : Int} {A : Option Addr} {n c : Nat} {bs : List UInt8} (hb : Bytes M A n c bs) : PRows M (vs ++ [.int .i64 i, .slice A n c]) (ps ++ [(i, bs)]) := by
  induction h with
  | nil => exact .cons hb .nil
  | cons hb' _ ih => exact .cons hb' ih
theorem OwnRow.pos {e : TypeId} {s n cap : Nat} {A : Option Addr} {vs : List Value} {E : Own} (h : OwnRow e s A n cap vs E) (hn : 0 < n) : ∃ g pre slack, A = some ⟨g, pre.length, none⟩ ∧ E = [(g, .cells (pre ++ (vs ++ slack)).toArray e (0, 0))] := by
  cases h with
  | nil => omega
  | @row g _ _ pre _ slack _ _ _ _ => exact ⟨g, pre, slack, rfl, rfl⟩
/-- One element of an owned row is written. -/
theorem OwnRow.set {e : TypeId} {s n cap g : Nat} {pre vs slack : List Value} (h : OwnRow e s (some ⟨g, pre.length, none⟩) n cap vs [(g, .cells (pre ++ (vs ++ slack)).toArray e (0, 0))]) (i : Nat) (v : Value) (hi : i < vs.length) :
    OwnRow e s (some ⟨g, pre.length, none⟩) n cap (vs.set i v) [(g, .cells ((pre ++ (vs ++ slack)).set (pre.length + i) v).toArray e (0, 0))] := by
  have e1 : (pre ++ (vs ++ slack)).set (pre.length + i) v = pre ++ (vs.set i v ++ slack) := by
    rw [List.set_append_right _ _ (by omega), Nat.add_sub_cancel_left, List.set_append_left _ _ hi]
  rw [e1]
  have hl := h.len
  have hle := h.le
  have hm := h.max
  refine OwnRow.row (by simp [hl]) ?_ hle hm
  generalize hA : (some (⟨g, pre.length, none⟩ : Addr)) = A at h
  generalize hE : [(g, Obj.cells (pre ++ (vs ++ slack)).toArray e (0, 0))] = E at h
  cases h with
  | nil => cases hA
  | @row g' _ _ pre' _ slack' k1 k2 k3 k4 =>
    simp only [List.cons.injEq, Prod.mk.injEq, Obj.cells.injEq, and_true] at hE
    have h2 := congrArg Array.toList hE.2
    simp only [] at h2
    have hp : pre.length = pre'.length := by injection hA with h; injection h
    have h3 := (List.append_inj h2 hp).2
    have h4 := (List.append_inj h3 rfl).2
    subst h4
    simpa using k2
end Go.Eng
