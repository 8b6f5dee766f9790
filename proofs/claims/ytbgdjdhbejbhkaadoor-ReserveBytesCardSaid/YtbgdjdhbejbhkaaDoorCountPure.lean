/-
Contracts of functions, each proved by a walk through its code.
-/
import Derived.Test.YtbgdjdhbejbhkaaDoorLawAM
import Derived.Test.YtbgdjdhbejbhkaaDoorSlotsLaw
set_option linter.unusedVariables false
set_option linter.unusedSimpArgs false
namespace Go.Proofs.YtbgdjdhbejbhkaaDoor
open Go Go.Eng
/-- A counter that lives on a calm disk. -/
structure Live (S : DS) (s : SS) (x : Cn) (head : List UInt8) : Prop where
  bears : Bears S s
  nz : s.num ≠ 0
  n : s.n = 8
  b : s.b = bytesC x head
  may : mayB x head.length = true
  next : x.next.toNat ≤ x.reserved.toNat
theorem mayB_iff {x : Cn} {l : Nat} : mayB x l = true ↔ (1 ≤ x.total.toNat ∧ x.total.toNat ≤ 1152921504606846976 ∧ 1 ≤ x.batch.toNat ∧ x.batch.toNat ≤ 65536 ∧ x.reserved.toNat ≤ x.total.toNat ∧ l ≤ 200) := by rw [mayB, decide_eq_true_eq]
theorem load_fresh16 : loadRes (fresh 16) (s0 0 8) = (s0 0 8, 11) := by kernel_rfl
theorem live_new {t b : UInt64} {head : List UInt8} (hm : mayB (newX t b) head.length = true) :
    ∃ S s, newC (fresh 16) (s0 0 8) head t b = ((S, s), 0) ∧ Live S s (newX t b) head ∧ s.num = 1 ∧ s.first = 0 ∧ S.sure.length = 16 := by
  have hl := (mayB_iff.1 hm).2.2.2.2.2
  have hbl : (bytesC (newX t b) head).length + 28 ≤ 64 * (s0 0 8).n := by rw [bytesC_length]; show _ ≤ 64 * 8; omega
  have hbe : Bears (fresh 16) (s0 0 8) := bears_fresh (by omega) (by omega)
  refine ⟨_, _, ?_, ⟨hbe.save hbl (by decide), show (0 : UInt64) + 1 ≠ 0 by decide, rfl, rfl, hm, Nat.zero_le _⟩, rfl, rfl, ?_⟩
  · rw [newC, if_neg (by simp [hm]), load_fresh16, if_neg (by decide), if_pos rfl, save_calm hbe.calm hbe.ok hbl]
  · show (setSecs (fresh 16).sure _ _ _).length = 16
    rw [setSecs_length]; simp [fresh]
theorem Live.take {S : DS} {s : SS} {x : Cn} {head : List UInt8} (h : Live S s x head) (hr : x.retired = false) (hnum : s.num.toNat < 9223372036854775808) (ht : x.next.toNat < x.total.toNat) :
    ∃ S' s' x', takeC S s x head = (((S', s'), x'), (x.next, 0)) ∧ Live S' s' x' head ∧ x'.next.toNat = x.next.toNat + 1 ∧ x'.total = x.total ∧ x'.batch = x.batch ∧ x'.retired = x.retired ∧ s'.first = s.first ∧ S'.sure.length = S.sure.length ∧
      ((x.next.toNat < x.reserved.toNat ∧ S' = S ∧ s' = s ∧ x'.reserved = x.reserved) ∨ (x.next.toNat = x.reserved.toNat ∧ s'.num.toNat = s.num.toNat + 1 ∧ x'.reserved.toNat = min x.total.toNat (x.reserved.toNat + x.batch.toNat))) := by
  obtain ⟨m1, m2, m3, m4, m5, m6⟩ := mayB_iff.1 h.may
  have hn := h.next
  have hne : x.next ≠ x.total := fun e => by rw [e] at ht; omega
  have hadd : ∀ u : UInt64, u.toNat < 9223372036854775808 → (u + 1).toNat = u.toNat + 1 := fun u hu => by rw [UInt64.toNat_add]; simp; omega
  by_cases he : x.next = x.reserved
  · have hsum : (x.reserved + x.batch).toNat = x.reserved.toNat + x.batch.toNat := by rw [UInt64.toNat_add]; omega
    have hres : (moreC x).reserved.toNat = min x.total.toNat (x.reserved.toNat + x.batch.toNat) := by
      rw [moreC]; show (if _ then _ else _ : UInt64).toNat = _
      rw [hsum]; split <;> omega
    have hxr : x.next.toNat = x.reserved.toNat := by rw [he]
    have hmore : mayB (moreC x) head.length = true := mayB_iff.2 ⟨m1, m2, m3, m4, by rw [hres]; exact Nat.min_le_left _ _, m6⟩
    have hbl : (bytesC (moreC x) head).length + 28 ≤ 64 * s.n := by rw [bytesC_length, h.n]; omega
    have hne2 : moreC x ≠ x := fun e => by have := congrArg Cn.reserved e; rw [← UInt64.toNat_inj, hres] at this; omega
    have hsv := save_calm h.bears.calm h.bears.ok hbl
    have hcs : saveC S s x (moreC x) head = (((savedD S s (bytesC (moreC x) head), s.saved (bytesC (moreC x) head)), moreC x), 0) := by
      rw [saveC, if_neg hne2, if_neg (by simp [hmore]), hsv, if_neg (by simp)]
    have hnx : (x.next + 1).toNat = x.next.toNat + 1 := hadd _ (by omega)
    refine ⟨_, _, nextC' (moreC x), ?_, ⟨h.bears.save hbl (by omega), ?_, h.n, rfl, hmore, ?_⟩, hnx, rfl, rfl, rfl, rfl, setSecs_length _ _ _ _, .inr ⟨hxr, hadd _ hnum, hres⟩⟩
    · rw [takeC, if_neg (by simp [hr]), if_neg hne, if_pos he, hcs, if_neg (by simp)]
      show (((_, _), nextC' (moreC x)), ((x.next + 1 - 1), _)) = _
      rw [UInt64.add_sub_cancel]
    · show s.num + 1 ≠ 0
      intro e
      have := hadd s.num hnum
      rw [e] at this
      simp at this
    · show (x.next + 1).toNat ≤ (moreC x).reserved.toNat
      rw [hnx, hres]; omega
  · have hlt : x.next.toNat < x.reserved.toNat := by
      have : x.next.toNat ≠ x.reserved.toNat := fun e => he (UInt64.toNat_inj.1 e)
      omega
    have hnx : (x.next + 1).toNat = x.next.toNat + 1 := hadd _ (by omega)
    refine ⟨S, s, nextC' x, ?_, ⟨h.bears, h.nz, h.n, h.b, h.may, ?_⟩, hnx, rfl, rfl, rfl, rfl, rfl, .inl ⟨hlt, rfl, rfl, rfl⟩⟩
    · rw [takeC, if_neg (by simp [hr]), if_neg hne, if_neg he]
      show (((S, s), nextC' x), ((x.next + 1 - 1), _)) = _
      rw [UInt64.add_sub_cancel]
    · show (x.next + 1).toNat ≤ x.reserved.toNat
      omega
theorem take_over {S : DS} {s : SS} {x : Cn} {head : List UInt8} (hr : x.retired = false) (ht : x.next = x.total) : takeC S s x head = (((S, s), x), (0, 9)) := by
  rw [takeC, if_neg (by simp [hr]), if_pos ht]
theorem Live.load {S : DS} {s t : SS} {x : Cn} {head : List UInt8} (h : Live S s x head) (hf : t.first = s.first) (hn : t.n = s.n) : loadRes S t = (s, 0) := by
  rw [h.bears.load h.nz hf hn]
  cases s; cases t; simp_all
theorem Live.opened {S : DS} {s t : SS} {x : Cn} {head : List UInt8} (h : Live S s x head) (hf : t.first = s.first) (hn : t.n = s.n) : openC S t = (({ x with next := x.reserved }, head), 0) ∧ Live S s { x with next := x.reserved } head := by
  refine ⟨?_, h.bears, h.nz, h.n, h.b, h.may, Nat.le_refl _⟩
  rw [openC, h.load hf hn, if_neg (by simp)]
  show readC s.b = _
  rw [h.b, readC_bytesC h.may]
end Go.Proofs.YtbgdjdhbejbhkaaDoor
