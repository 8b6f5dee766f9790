/-
Contracts of functions, each proved by a walk through its code.
-/
import Derived.Test.YtbgdjdhbejbhkaaDoorSlotsLaw
set_option linter.unusedVariables false
set_option linter.unusedSimpArgs false
namespace Go.Proofs.YtbgdjdhbejbhkaaDoor
open Go Go.Eng
/-- A counter. -/
structure Cn where
  total : UInt64
  batch : UInt64
  reserved : UInt64
  next : UInt64
  retired : Bool
theorem Cn.ext_iff (a b : Cn) : (a.total = b.total ∧ a.batch = b.batch ∧ a.reserved = b.reserved ∧ a.next = b.next ∧ a.retired = b.retired) ↔ a = b := by
  constructor
  · rintro ⟨h1, h2, h3, h4, h5⟩
    cases a; cases b; simp_all
  · rintro rfl; exact ⟨rfl, rfl, rfl, rfl, rfl⟩
instance : DecidableEq Cn := fun a b => decidable_of_iff _ (Cn.ext_iff a b)
abbrev ccells (x : Cn) : List Value := [.int .u64 (x.total.toNat : Int), .int .u64 (x.batch.toNat : Int), .int .u64 (x.reserved.toNat : Int), .int .u64 (x.next.toNat : Int), .bool x.retired]
def zeroC : Cn := ⟨0, 0, 0, 0, false⟩
def mayB (x : Cn) (l : Nat) : Bool := decide (1 ≤ x.total.toNat ∧ x.total.toNat ≤ 1152921504606846976 ∧ 1 ≤ x.batch.toNat ∧ x.batch.toNat ≤ 65536 ∧ x.reserved.toNat ≤ x.total.toNat ∧ l ≤ 200)
def bytesC (x : Cn) (head : List UInt8) : List UInt8 := putB x.total.toNat 8 ++ (putB x.batch.toNat 8 ++ (putB x.reserved.toNat 8 ++ ((if x.retired then 1 else 0) :: head)))
theorem bytesC_length (x : Cn) (head : List UInt8) : (bytesC x head).length = 25 + head.length := by simp [bytesC, putB_length]; omega
def xOf (b : List UInt8) : Cn := ⟨UInt64.ofNat (getB (b.take 8)), UInt64.ofNat (getB ((b.drop 8).take 8)), UInt64.ofNat (getB ((b.drop 16).take 8)), UInt64.ofNat (getB ((b.drop 16).take 8)), b.getD 24 0 == 1⟩
def readC (b : List UInt8) : (Cn × List UInt8) × Int :=
  if b.length < 25 then ((zeroC, []), 2) else if 1 < (b.getD 24 0).toNat ∨ mayB (xOf b) (b.length - 25) = false then ((zeroC, []), 3) else ((xOf b, b.drop 25), 0)
/-- Another state is saved. -/
def saveC (S : DS) (s : SS) (x x' : Cn) (head : List UInt8) : ((DS × SS) × Cn) × Int :=
  if x' = x then (((S, s), x), 0) else if mayB x' head.length = false then (((S, s), x), 1) else
  if (saveRes S s (bytesC x' head)).2 ≠ 0 then (((saveRes S s (bytesC x' head)).1, x), (saveRes S s (bytesC x' head)).2) else (((saveRes S s (bytesC x' head)).1, x'), 0)
def newX (total batch : UInt64) : Cn := ⟨total, batch, 0, 0, false⟩
/-- A counter is made. -/
def newC (S : DS) (s : SS) (head : List UInt8) (total batch : UInt64) : (DS × SS) × Int :=
  if mayB (newX total batch) head.length = false then ((S, s), 1) else
  if (loadRes S s).2 = 0 then ((S, (loadRes S s).1), 10) else if (loadRes S s).2 = 11 then saveRes S (loadRes S s).1 (bytesC (newX total batch) head) else ((S, (loadRes S s).1), (loadRes S s).2)
def openC (S : DS) (s : SS) : (Cn × List UInt8) × Int := if (loadRes S s).2 ≠ 0 then ((zeroC, []), (loadRes S s).2) else readC (loadRes S s).1.b
def moreC (x : Cn) : Cn := { x with reserved := if x.total.toNat < (x.reserved + x.batch).toNat then x.total else x.reserved + x.batch }
def nextC' (x : Cn) : Cn := { x with next := x.next + 1 }
def takeC (S : DS) (s : SS) (x : Cn) (head : List UInt8) : ((DS × SS) × Cn) × (UInt64 × Int) :=
  if x.retired then (((S, s), x), (0, 13)) else if x.next = x.total then (((S, s), x), (0, 9)) else
  if x.next = x.reserved then
    if (saveC S s x (moreC x) head).2 ≠ 0 then ((saveC S s x (moreC x) head).1, (0, (saveC S s x (moreC x) head).2))
    else (((saveC S s x (moreC x) head).1.1, nextC' (saveC S s x (moreC x) head).1.2), ((nextC' (saveC S s x (moreC x) head).1.2).next - 1, 0))
  else (((S, s), nextC' x), ((nextC' x).next - 1, 0))
def retireC (S : DS) (s : SS) (x : Cn) (head : List UInt8) : ((DS × SS) × Cn) × Int := saveC S s x { x with retired := true } head
theorem xOf_bytes (x : Cn) (head : List UInt8) : xOf (bytesC x head) = { x with next := x.reserved } := by
  have e1 : (bytesC x head).take 8 = putB x.total.toNat 8 := by
    rw [bytesC, List.take_append_of_le_length (by rw [putB_length]; omega), List.take_of_length_le (by rw [putB_length]; omega)]
  have d1 : (bytesC x head).drop 8 = putB x.batch.toNat 8 ++ (putB x.reserved.toNat 8 ++ ((if x.retired then 1 else 0) :: head)) := by
    rw [bytesC, List.drop_append, List.drop_of_length_le (by rw [putB_length]; omega), putB_length]; rfl
  have d2 : (bytesC x head).drop 16 = putB x.reserved.toNat 8 ++ ((if x.retired then 1 else 0) :: head) := by
    rw [show 16 = 8 + 8 from rfl, ← List.drop_drop, d1, List.drop_append, List.drop_of_length_le (by rw [putB_length]; omega), putB_length]; rfl
  have d3 : (bytesC x head).drop 24 = (if x.retired then 1 else 0) :: head := by
    rw [show 24 = 16 + 8 from rfl, ← List.drop_drop, d2, List.drop_append, List.drop_of_length_le (by rw [putB_length]; omega), putB_length]; rfl
  have e2 : ((bytesC x head).drop 8).take 8 = putB x.batch.toNat 8 := by
    rw [d1, List.take_append_of_le_length (by rw [putB_length]; omega), List.take_of_length_le (by rw [putB_length]; omega)]
  have e3 : ((bytesC x head).drop 16).take 8 = putB x.reserved.toNat 8 := by
    rw [d2, List.take_append_of_le_length (by rw [putB_length]; omega), List.take_of_length_le (by rw [putB_length]; omega)]
  have e4 : (bytesC x head).getD 24 0 = if x.retired then 1 else 0 := by
    have := congrArg List.head? d3
    rw [List.head?_drop] at this
    rw [List.getD_eq_getElem?_getD, this]; rfl
  have h8 : ∀ v : UInt64, UInt64.ofNat (getB (putB v.toNat 8)) = v := fun v => by
    have := v.toNat_lt
    rw [getB_put, Nat.mod_eq_of_lt (by omega)]; simp
  unfold xOf
  rw [e1, e2, e3, e4, h8, h8, h8]
  cases x with
  | mk a b c d e => cases e <;> rfl
theorem drop25_bytes (x : Cn) (head : List UInt8) : (bytesC x head).drop 25 = head := by
  have : bytesC x head = (putB x.total.toNat 8 ++ (putB x.batch.toNat 8 ++ (putB x.reserved.toNat 8 ++ [if x.retired then 1 else 0]))) ++ head := by simp [bytesC]
  rw [this, List.drop_append, List.drop_of_length_le (by simp [putB_length])]
  simp [putB_length]
theorem flag_bytes (x : Cn) (head : List UInt8) : (bytesC x head).getD 24 0 = if x.retired then 1 else 0 := by
  have := congrArg Cn.retired (xOf_bytes x head)
  have h2 : bytesC x head = (putB x.total.toNat 8 ++ (putB x.batch.toNat 8 ++ putB x.reserved.toNat 8)) ++ ((if x.retired then 1 else 0) :: head) := by simp [bytesC]
  rw [h2, List.getD_eq_getElem?_getD, List.getElem?_append_right (by simp [putB_length])]
  simp [putB_length]
/-- What is written is read. -/
theorem readC_bytesC {x : Cn} {head : List UInt8} (h : mayB x head.length = true) : readC (bytesC x head) = (({ x with next := x.reserved }, head), 0) := by
  have hl := bytesC_length x head
  have hm : mayB (xOf (bytesC x head)) ((bytesC x head).length - 25) = true := by
    rw [xOf_bytes, hl, show 25 + head.length - 25 = head.length by omega]; exact h
  rw [readC, if_neg (by omega), if_neg (by rw [flag_bytes, hm]; cases x.retired <;> simp), xOf_bytes, drop25_bytes]
end Go.Proofs.YtbgdjdhbejbhkaaDoor
