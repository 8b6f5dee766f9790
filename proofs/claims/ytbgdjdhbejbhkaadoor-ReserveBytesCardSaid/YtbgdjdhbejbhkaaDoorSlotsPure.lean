/-
Contracts of functions, each proved by a walk through its code.
-/
import Derived.Test.YtbgdjdhbejbhkaaDoorDiskW
import Derived.Test.YtbgdjdhbejbhkaaDoorShaPure
set_option linter.unusedVariables false
set_option linter.unusedSimpArgs false
namespace Go.Proofs.YtbgdjdhbejbhkaaDoor
open Go Go.Eng
/-- Two areas, and what counts. -/
structure SS where
  first : Nat
  n : Nat
  at_ : Nat
  num : UInt64
  b : List UInt8
def recH (num : UInt64) (b : List UInt8) : List UInt8 := putB num.toNat 8 ++ (putB b.length 4 ++ b)
def recB (n : Nat) (num : UInt64) (b : List UInt8) : List UInt8 := recH num b ++ ((sha (recH num b)).take 16 ++ List.replicate (64 * n - 28 - b.length) 0)
theorem recH_length (num : UInt64) (b : List UInt8) : (recH num b).length = 12 + b.length := by simp [recH, putB_length]; omega
theorem recB_length {n : Nat} {num : UInt64} {b : List UInt8} (h : b.length + 28 ≤ 64 * n) : (recB n num b).length = 64 * n := by
  simp [recB, recH_length, sha_length]; omega
def numOf (a : List UInt8) : Nat := getB (a.take 8)
def cntOf (a : List UInt8) : Nat := getB ((a.drop 8).take 4)
def datOf (a : List UInt8) : List UInt8 := (a.drop 12).take (cntOf a)
/-- The record that an area is; number 0: none. -/
def readRec (n : Nat) (a : List UInt8) : UInt64 × List UInt8 :=
  if numOf a = 0 ∨ 64 * n - 28 < cntOf a then (0, []) else if recB n (UInt64.ofNat (numOf a)) (datOf a) = a then (UInt64.ofNat (numOf a), datOf a) else (0, [])
/-- So many sectors from one on. -/
def areaB (S : DS) (at_ : Nat) : Nat → List UInt8
  | 0 => []
  | k + 1 => areaB S at_ k ++ (readRes S ((at_ + k : Nat) : Int)).1
def isBlank (b : List UInt8) : Bool := b.all (· == 0)
def loaded (s : SS) (one two : List UInt8) : SS × Int :=
  if (readRec s.n one).1.toNat < (readRec s.n two).1.toNat then ({ s with at_ := 1, num := (readRec s.n two).1, b := (readRec s.n two).2 }, 0)
  else ({ s with at_ := 0, num := (readRec s.n one).1, b := (readRec s.n one).2 }, if 0 < (readRec s.n one).1.toNat then 0 else if isBlank one = true ∨ isBlank two = true then 11 else 8)
def loadRes (S : DS) (s : SS) : SS × Int := if S.down then (s, 6) else loaded s (areaB S s.first s.n) (areaB S (s.first + s.n) s.n)
/-- So many sectors are written, unless it fails. -/
def saveGo (S : DS) (at_ : Nat) (all : List UInt8) : Nat → DS × Int
  | 0 => (S, 0)
  | k + 1 => if (saveGo S at_ all k).2 ≠ 0 then saveGo S at_ all k else writeRes (saveGo S at_ all k).1 ((at_ + k : Nat) : Int) ((all.drop (64 * k)).take 64)
def SS.to (s : SS) : Nat := if 0 < s.num.toNat then 1 - s.at_ else 0
def SS.saved (s : SS) (b : List UInt8) : SS := { s with at_ := s.to, num := s.num + 1, b := b }
def laid (S : DS) (s : SS) (b : List UInt8) : DS × Int := saveGo S (s.first + s.to * s.n) (recB s.n (s.num + 1) b) s.n
def saveRes (S : DS) (s : SS) (b : List UInt8) : (DS × SS) × Int :=
  if 64 * s.n - 28 < b.length then ((S, s), 1) else
  if (laid S s b).2 ≠ 0 then (((laid S s b).1, s), (laid S s b).2) else
  if (flushRes (laid S s b).1).2 ≠ 0 then (((flushRes (laid S s b).1).1, s), (flushRes (laid S s b).1).2) else (((flushRes (laid S s b).1).1, s.saved b), 0)
/-- There may be such slots on such a disk. -/
structure OkS (S : DS) (s : SS) : Prop where
  n : 1 ≤ s.n ∧ s.n ≤ 8
  in_ : s.first + 2 * s.n ≤ S.sure.length
  at_ : s.at_ ≤ 1
  b : s.b.length + 28 ≤ 64 * s.n
theorem doingRes_sure {S S2 : DS} {l : Nat} (h : S.sure.length = l) (h2 : S2.sure.length = l) : (doingRes S S2).1.sure.length = l := by
  unfold doingRes
  split
  · exact h
  · split
    · exact h
    · split
      · exact h
      · exact h2
theorem writeRes_sure (S : DS) (i : Int) (bs : List UInt8) : (writeRes S i bs).1.sure.length = S.sure.length := by
  unfold writeRes
  split
  · rfl
  · exact doingRes_sure rfl rfl
theorem flushRes_sure (S : DS) : (flushRes S).1.sure.length = S.sure.length := doingRes_sure rfl (by show (flushTo _ _).length = _; rw [flushTo_length])
theorem saveGo_sure (S : DS) (at_ : Nat) (all : List UInt8) : ∀ k, (saveGo S at_ all k).1.sure.length = S.sure.length
  | 0 => rfl
  | k + 1 => by
    unfold saveGo
    split
    · exact saveGo_sure S at_ all k
    · rw [writeRes_sure]; exact saveGo_sure S at_ all k
theorem saveGo_within {S : DS} {B : Nat} (h : S.within B) (at_ : Nat) (all : List UInt8) : ∀ k, (saveGo S at_ all k).1.within (B + k)
  | 0 => h
  | k + 1 => by
    have ih := saveGo_within h at_ all k
    unfold saveGo
    split
    · exact ⟨ih.1, by have := ih.2.1; omega, by have := ih.2.2; omega⟩
    · exact within_write ih _ _
theorem DS.within.mono {S : DS} {B B' : Nat} (h : S.within B) (hb : B ≤ B') : S.within B' := ⟨h.1, by have := h.2.1; omega, by have := h.2.2; omega⟩
theorem saveRes_sure (S : DS) (s : SS) (b : List UInt8) : (saveRes S s b).1.1.sure.length = S.sure.length := by
  unfold saveRes laid
  split
  · rfl
  · split
    · exact saveGo_sure _ _ _ _
    · split
      · rw [flushRes_sure]; exact saveGo_sure _ _ _ _
      · show (flushRes _).1.sure.length = _
        rw [flushRes_sure]; exact saveGo_sure _ _ _ _
theorem saveRes_within {S : DS} {B : Nat} (h : S.within B) {s : SS} (hn : s.n ≤ 8) (b : List UInt8) : (saveRes S s b).1.1.within (B + 9) := by
  have h1 := fun k => saveGo_within h (s.first + s.to * s.n) (recB s.n (s.num + 1) b) k
  unfold saveRes laid
  split
  · exact h.mono (by omega)
  · split
    · exact (h1 _).mono (by omega)
    · split
      · exact (within_flush (h1 _)).mono (by omega)
      · exact (within_flush (h1 _)).mono (by omega)
theorem to_le (s : SS) : s.to ≤ 1 ∨ 1 < s.at_ := by unfold SS.to; split <;> omega
theorem saveRes_ok {S : DS} {s : SS} (h : OkS S s) (b : List UInt8) : OkS (saveRes S s b).1.1 (saveRes S s b).1.2 := by
  have hs := saveRes_sure S s b
  have hto := to_le s
  have key : ∀ s', (saveRes S s b).1.2 = s' → OkS S s' → OkS (saveRes S s b).1.1 (saveRes S s b).1.2 := fun s' e o => e ▸ ⟨o.n, by rw [hs]; exact o.in_, o.at_, o.b⟩
  by_cases hb : 64 * s.n - 28 < b.length
  · exact key s (by unfold saveRes; rw [if_pos hb]) h
  · by_cases h1 : (laid S s b).2 ≠ 0
    · exact key s (by unfold saveRes; rw [if_neg hb, if_pos h1]) h
    · by_cases h2 : (flushRes (laid S s b).1).2 ≠ 0
      · exact key s (by unfold saveRes; rw [if_neg hb, if_neg h1, if_pos h2]) h
      · refine key (s.saved b) (by unfold saveRes; rw [if_neg hb, if_neg h1, if_neg h2]) ⟨h.n, h.in_, ?_, ?_⟩
        · have := h.at_; show s.to ≤ 1; omega
        · have := h.n; show b.length + 28 ≤ 64 * s.n; omega
theorem readRec_len (n : Nat) (hn : 1 ≤ n) (a : List UInt8) : (readRec n a).2.length + 28 ≤ 64 * n := by
  unfold readRec
  split
  · simp; omega
  · rename_i h
    split
    · simp only [datOf, List.length_take]; omega
    · simp; omega
theorem loadRes_ok {S : DS} {s : SS} (h : OkS S s) : OkS S (loadRes S s).1 := by
  have hn := h.n
  have hl := fun a => readRec_len s.n hn.1 a
  unfold loadRes
  split
  · exact h
  · unfold loaded
    split
    · exact ⟨h.n, h.in_, Nat.le_refl _, hl _⟩
    · exact ⟨h.n, h.in_, Nat.zero_le _, hl _⟩
theorem readRes_len {S : DS} (hd : S.down = false) (sl : ∀ b ∈ S.sure, b.length = 64) (pl : ∀ q ∈ S.pend, q.2.length = 64 ∧ 0 ≤ q.1 ∧ q.1 < S.sure.length) {i : Nat} (hi : i < S.sure.length) : (readRes S (i : Int)).2 = 0 ∧ (readRes S (i : Int)).1.length = 64 := by
  have hin : (0 : Int) ≤ (i : Int) ∧ (i : Int) < S.sure.length := by omega
  rw [show readRes S (i : Int) = ((lastW (i : Int) S.pend).getD (S.sure.getD i []), 0) by rw [readRes, if_neg (by simp [hd]), if_pos hin]; rfl]
  refine ⟨rfl, ?_⟩
  have hmem : ∀ ps : List (Int × List UInt8), (∀ q ∈ ps, q.2.length = 64) → ((lastW (i : Int) ps).getD (S.sure.getD i [])).length = 64 := fun ps => by
    induction ps with
    | nil => intro _; exact sl _ (getD_mem _ _ _ hi)
    | cons a ps ih =>
      intro hq
      simp only [lastW]
      have ih := ih (fun q hq' => hq q (List.mem_cons_of_mem _ hq'))
      cases hx : lastW (i : Int) ps with
      | some b' => rw [hx] at ih; exact ih
      | none =>
        rw [hx] at ih
        simp only
        split
        · exact hq a List.mem_cons_self
        · exact ih
  exact hmem _ (fun q hq => (pl q hq).1)
theorem areaB_length {S : DS} (hd : S.down = false) (sl : ∀ b ∈ S.sure, b.length = 64) (pl : ∀ q ∈ S.pend, q.2.length = 64 ∧ 0 ≤ q.1 ∧ q.1 < S.sure.length) {at_ : Nat} : ∀ k, at_ + k ≤ S.sure.length → (areaB S at_ k).length = 64 * k
  | 0, _ => rfl
  | k + 1, h => by
    rw [areaB, List.length_append, areaB_length hd sl pl k (by omega), (readRes_len hd sl pl (by omega)).2]; omega
end Go.Proofs.YtbgdjdhbejbhkaaDoor
