/-
Contracts of functions, each proved by a walk through its code.
-/
import Derived.Test.YtbgdjdhbejbhkaaDoorDisk4
set_option linter.unusedVariables false
set_option linter.unusedSimpArgs false
namespace Go.Proofs.YtbgdjdhbejbhkaaDoor
open Go Go.Eng
/-- The counts are within a bound. -/
def DS.within (S : DS) (B : Nat) : Prop := 0 ≤ S.count ∧ S.count ≤ B ∧ S.pend.length ≤ B
theorem within_fresh (n : Nat) : (fresh n).within 0 := ⟨by simp [fresh], by simp [fresh], by simp [fresh]⟩
theorem within_doing {S S2 : DS} {B : Nat} (h : S.within B) (h2 : S2.within (B + 1)) : (doingRes S S2).1.within (B + 1) := by
  obtain ⟨a, b, c⟩ := h
  unfold doingRes
  split
  · exact ⟨a, by show S.count ≤ _; omega, by show S.pend.length ≤ _; omega⟩
  · split
    · exact ⟨by show 0 ≤ S.count + 1; omega, by show S.count + 1 ≤ _; omega, by show S.pend.length ≤ _; omega⟩
    · split
      · exact ⟨by show 0 ≤ S.count + 1; omega, by show S.count + 1 ≤ _; omega, by show S.pend.length ≤ _; omega⟩
      · exact h2
theorem within_write {S : DS} {B : Nat} (h : S.within B) (i : Int) (bs : List UInt8) : (writeRes S i bs).1.within (B + 1) := by
  unfold writeRes
  obtain ⟨a, b, c⟩ := h
  split
  · exact ⟨a, by show S.count ≤ _; omega, by show S.pend.length ≤ _; omega⟩
  · exact within_doing ⟨a, b, c⟩ ⟨by show 0 ≤ S.count + 1; omega, by show S.count + 1 ≤ _; omega, by simp; omega⟩
theorem within_flush {S : DS} {B : Nat} (h : S.within B) : (flushRes S).1.within (B + 1) :=
  within_doing h ⟨by show 0 ≤ S.count + 1; have := h.1; omega, by show S.count + 1 ≤ _; have := h.2.1; omega, by simp [flushed]⟩
theorem within_up {S : DS} {B : Nat} (cs : List UInt8) (xs : List Int) (stop : Int) : (upped S cs xs stop).within B := ⟨by simp [upped], by simp [upped], by simp [upped]⟩
end Go.Proofs.YtbgdjdhbejbhkaaDoor
