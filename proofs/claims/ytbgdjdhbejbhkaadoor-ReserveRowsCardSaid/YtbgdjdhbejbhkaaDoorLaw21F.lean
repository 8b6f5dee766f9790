/-
Contracts of functions, each proved by a walk through its code.
-/
import Derived.Test.YtbgdjdhbejbhkaaDoorReserve5
import Derived.Test.YtbgdjdhbejbhkaaDoorLaw20
set_option linter.unusedVariables false
set_option linter.unusedSimpArgs false
namespace Go.Proofs.YtbgdjdhbejbhkaaDoor
open Go Go.Eng
def h21 : List UInt8 := [104]
def n21 : (DS × SS) × Int := newC (fresh 16) (s0 0 8) h21 10 4
def t21 := takeC n21.1.1 n21.1.2 (newX 10 4) h21
def o21 := openC t21.1.1.1 t21.1.1.2
def l21 := (loadRes t21.1.1.1 t21.1.1.2).1
def u21 := takeC t21.1.1.1 l21 o21.1.1 o21.1.2
def m21 := newC u21.1.1.1 u21.1.1.2 [] 10 4
theorem f21_1 : n21.2 = 0 := by kernel_rfl
theorem f21_2 : t21.2 = (0, 0) := by kernel_rfl
theorem f21_3 : o21.2 = 0 := by kernel_rfl
theorem f21_4 : u21.2 = (4, 0) := by kernel_rfl
theorem f21_5 : m21.2 = 10 := by kernel_rfl
theorem f21_6 : o21.1.2 = h21 := by kernel_rfl
theorem f21_7 : u21.1.2 = ⟨10, 4, 8, 5, false⟩ := by kernel_rfl
theorem newC_ok {S : DS} {s : SS} (h : OkS S s) (head : List UInt8) (t b : UInt64) : OkS (newC S s head t b).1.1 (newC S s head t b).1.2 := by
  unfold newC
  split
  · exact h
  · split
    · exact loadRes_ok h
    · split
      · exact saveRes_ok (loadRes_ok h) _
      · exact loadRes_ok h
theorem saveC_ok {S : DS} {s : SS} (h : OkS S s) (x x' : Cn) (head : List UInt8) : OkS (saveC S s x x' head).1.1.1 (saveC S s x x' head).1.1.2 := by
  unfold saveC
  split
  · exact h
  · split
    · exact h
    · split
      · exact saveRes_ok h _
      · exact saveRes_ok h _
theorem takeC_ok {S : DS} {s : SS} (h : OkS S s) (x : Cn) (head : List UInt8) : OkS (takeC S s x head).1.1.1 (takeC S s x head).1.1.2 := by
  unfold takeC
  split
  · exact h
  · split
    · exact h
    · split
      · split
        · exact saveC_ok h _ _ _
        · exact saveC_ok h _ _ _
      · exact h
theorem within_mono {S : DS} {B B' : Nat} (h : S.within B) (hb : B ≤ B') : S.within B' := by obtain ⟨h1, h2, h3⟩ := h; exact ⟨h1, by omega, by omega⟩
theorem loadRes_n (S : DS) (s : SS) : (loadRes S s).1.n = s.n ∧ (loadRes S s).1.first = s.first := by
  unfold loadRes loaded
  repeat' split
  all_goals exact ⟨rfl, rfl⟩
theorem saveRes_n (S : DS) (s : SS) (b : List UInt8) : (saveRes S s b).1.2.n = s.n ∧ (saveRes S s b).1.2.first = s.first := by
  unfold saveRes
  repeat' split
  all_goals exact ⟨rfl, rfl⟩
theorem newC_within {S : DS} {B : Nat} (h : S.within B) {s : SS} (hn : s.n ≤ 8) (head : List UInt8) (t b : UInt64) : (newC S s head t b).1.1.within (B + 9) := by
  unfold newC
  split
  · exact within_mono h (by omega)
  · split
    · exact within_mono h (by omega)
    · split
      · exact saveRes_within h (by rw [(loadRes_n S s).1]; exact hn) _
      · exact within_mono h (by omega)
theorem saveC_within {S : DS} {B : Nat} (h : S.within B) {s : SS} (hn : s.n ≤ 8) (x x' : Cn) (head : List UInt8) : (saveC S s x x' head).1.1.1.within (B + 9) := by
  unfold saveC
  split
  · exact within_mono h (by omega)
  · split
    · exact within_mono h (by omega)
    · split
      · exact saveRes_within h hn _
      · exact saveRes_within h hn _
theorem takeC_within {S : DS} {B : Nat} (h : S.within B) {s : SS} (hn : s.n ≤ 8) (x : Cn) (head : List UInt8) : (takeC S s x head).1.1.1.within (B + 9) := by
  unfold takeC
  split
  · exact within_mono h (by omega)
  · split
    · exact within_mono h (by omega)
    · split
      · split
        · exact saveC_within h hn _ _ _
        · exact saveC_within h hn _ _ _
      · exact within_mono h (by omega)
theorem f21 : ∃ (N : (DS × SS) × Int) (T : ((DS × SS) × Cn) × (UInt64 × Int)) (O : (Cn × List UInt8) × Int) (s3 : SS) (U : ((DS × SS) × Cn) × (UInt64 × Int)) (V : (DS × SS) × Int),
    newC (fresh 16) (s0 0 8) h21 10 4 = N ∧ takeC N.1.1 N.1.2 (newX 10 4) h21 = T ∧ openC T.1.1.1 T.1.1.2 = O ∧ (loadRes T.1.1.1 T.1.1.2).1 = s3 ∧ takeC T.1.1.1 s3 O.1.1 h21 = U ∧ newC U.1.1.1 U.1.1.2 [] 10 4 = V ∧
    N.2 = 0 ∧ T.2 = (0, 0) ∧ O.2 = 0 ∧ U.2 = (4, 0) ∧ V.2 = 10 ∧ O.1.2 = h21 ∧ U.1.2 = ⟨10, 4, 8, 5, false⟩ :=
  ⟨n21, t21, o21, l21, u21, m21, rfl, rfl, rfl, rfl, by rw [← f21_6]; rfl, rfl, f21_1, f21_2, f21_3, f21_4, f21_5, f21_6, f21_7⟩
end Go.Proofs.YtbgdjdhbejbhkaaDoor
