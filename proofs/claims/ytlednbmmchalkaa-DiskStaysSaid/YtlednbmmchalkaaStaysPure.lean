/-
Contracts of functions, each proved by a walk through its code.
-/
import Derived.Test.YtlednbmmchalkaaPlays
set_option linter.unusedVariables false
set_option linter.unusedSimpArgs false
namespace Go.Proofs.Ytlednbmmchalkaa
open Go Go.Eng
/-- What the two tables of the statement know of a disk's sectors. -/
structure SInv (k : Nat) (calm last sure : List (List UInt8)) (pend : List (Int × List UInt8)) : Prop where
  kl : sure.length = k
  cl : calm.length = k
  ll : last.length = k
  c : ∀ j, j < k → calm.getD j [] ≠ [] → calm.getD j [] = sure.getD j [] ∧ ∀ q ∈ pend, q.1 ≠ (j : Int)
  l : ∀ j, j < k → last.getD j [] = (lastW (j : Int) pend).getD (sure.getD j [])
theorem getD_set {α : Type} (l : List α) (i j : Nat) (a d : α) : (l.set i a).getD j d = if i = j ∧ j < l.length then a else l.getD j d := by
  rw [List.getD_eq_getElem?_getD, List.getElem?_set]
  by_cases h : i = j
  · subst h
    by_cases hl : i < l.length
    · rw [if_pos rfl, if_pos hl, if_pos ⟨rfl, hl⟩]; rfl
    · rw [if_pos rfl, if_neg hl, if_neg (fun hh => hl hh.2), List.getD_eq_getElem?_getD, List.getElem?_eq_none (by omega)]
  · rw [if_neg h, if_neg (fun hh => h hh.1), List.getD_eq_getElem?_getD]
theorem SInv.write {k : Nat} {calm last sure : List (List UInt8)} {pend : List (Int × List UInt8)} (h : SInv k calm last sure pend) {i : Nat} (hi : i < k) (bs : List UInt8) : SInv k (calm.set i []) (last.set i bs) sure (pend ++ [((i : Int), bs)]) := by
  refine ⟨h.kl, by rw [List.length_set]; exact h.cl, by rw [List.length_set]; exact h.ll, fun j hj hne => ?_, fun j hj => ?_⟩
  · rw [getD_set] at hne ⊢
    by_cases hij : i = j
    · rw [if_pos ⟨hij, by rw [h.cl]; exact hj⟩] at hne; exact absurd rfl hne
    · rw [if_neg (fun hh => hij hh.1)] at hne ⊢
      refine ⟨(h.c j hj hne).1, fun q hq => ?_⟩
      rcases List.mem_append.1 hq with hq | hq
      · exact (h.c j hj hne).2 q hq
      · rw [List.mem_singleton.1 hq]; show (i : Int) ≠ j; omega
  · rw [getD_set, lastW_snoc]
    by_cases hij : i = j
    · subst hij
      rw [if_pos ⟨rfl, by rw [h.ll]; exact hj⟩, if_pos rfl]; rfl
    · rw [if_neg (fun hh => hij hh.1), if_neg (by show ¬ ((i : Int) = j); omega)]
      exact h.l j hj
theorem flushTo_getD : ∀ (ps : List (Int × List UInt8)) (s : List (List UInt8)) (j : Nat), (∀ q ∈ ps, 0 ≤ q.1) → j < s.length → (flushTo s ps).getD j [] = (lastW (j : Int) ps).getD (s.getD j [])
  | [], s, j, _, _ => rfl
  | q :: ps, s, j, hp, hj => by
    have ih := flushTo_getD ps (s.set q.1.toNat q.2) j (fun q' h => hp q' (List.mem_cons_of_mem _ h)) (by simpa using hj)
    have h0 := hp q List.mem_cons_self
    show (flushTo (s.set q.1.toNat q.2) ps).getD j [] = _
    rw [ih, getD_set]
    simp only [lastW]
    cases lastW (j : Int) ps with
    | some b => rfl
    | none =>
      by_cases hq : q.1 = (j : Int)
      · rw [if_pos ⟨by omega, hj⟩, if_pos hq]; rfl
      · rw [if_neg (fun hh => hq (by omega)), if_neg hq]
theorem SInv.flush {k : Nat} {calm last sure : List (List UInt8)} {pend : List (Int × List UInt8)} (h : SInv k calm last sure pend) (hp : ∀ q ∈ pend, 0 ≤ q.1) : SInv k last last (flushTo sure pend) [] := by
  refine ⟨by rw [flushTo_length]; exact h.kl, h.ll, h.ll, fun j hj hne => ⟨?_, fun q hq => by cases hq⟩, fun j hj => ?_⟩
  · rw [flushTo_getD _ _ _ hp (by rw [h.kl]; exact hj)]; exact h.l j hj
  · rw [flushTo_getD _ _ _ hp (by rw [h.kl]; exact hj)]; exact h.l j hj
theorem upGo_other (cs : List UInt8) : ∀ (ps : List (Int × List UInt8)) (n : Nat) (s : List (List UInt8)) (j : Nat), (∀ q ∈ ps, 0 ≤ q.1 ∧ q.1 ≠ (j : Int)) → (upGo cs n ps s).getD j [] = s.getD j []
  | [], _, _, _, _ => rfl
  | q :: ps, n, s, j, hp => by
    show (upGo cs (n + 1) ps _).getD j [] = _
    rw [upGo_other cs ps _ _ j (fun q' h => hp q' (List.mem_cons_of_mem _ h)), getD_set]
    have := hp q List.mem_cons_self
    rw [if_neg (fun hh => this.2 (by omega))]
theorem SInv.kept {k : Nat} {calm last sure : List (List UInt8)} {pend : List (Int × List UInt8)} (h : SInv k calm last sure pend) (hp : ∀ q ∈ pend, 0 ≤ q.1) (cs : List UInt8) {j : Nat} (hj : j < k) (hne : calm.getD j [] ≠ []) : (upGo cs 0 pend sure).getD j [] = calm.getD j [] := by
  rw [upGo_other cs pend 0 sure j (fun q hq => ⟨hp q hq, (h.c j hj hne).2 q hq⟩)]
  exact (h.c j hj hne).1.symm
theorem SInv.up {k : Nat} {s : List (List UInt8)} (h : s.length = k) : SInv k s s s [] :=
  ⟨h, h, h, fun j hj hne => ⟨rfl, fun q hq => by cases hq⟩, fun j hj => rfl⟩
theorem write_ok {S : DS} {i : Int} {bs : List UInt8} (h : (writeRes S i bs).2 = 0) : (0 ≤ i ∧ i < S.sure.length) ∧ bs.length = 64 ∧ (writeRes S i bs).1.sure = S.sure ∧ (writeRes S i bs).1.pend = S.pend ++ [(i, bs)] := by
  unfold writeRes at h ⊢
  split at h
  · simp at h
  · rename_i hn
    rw [if_neg hn]
    have hd := doing_ok (S1 := added { S with count := S.count + 1 } i bs) (S2 := added { S with count := S.count + 1 } i bs) h
    rw [hd.1]
    have hdn : S.down = false := by
      cases hx : S.down with
      | false => rfl
      | true => simp [doingRes, hx] at h
    refine ⟨Classical.byContradiction fun hh => hn ⟨hdn, .inl hh⟩, Classical.byContradiction fun hh => hn ⟨hdn, .inr hh⟩, rfl, rfl⟩
theorem write_no {S : DS} {i : Int} {bs : List UInt8} (h : ¬ (writeRes S i bs).2 = 0) : (writeRes S i bs).1.sure = S.sure ∧ (writeRes S i bs).1.pend = S.pend := by
  unfold writeRes at h ⊢
  split
  · exact ⟨rfl, rfl⟩
  · rename_i hn
    rw [if_neg hn] at h
    unfold doingRes at h ⊢
    split
    · exact ⟨rfl, rfl⟩
    · split
      · exact ⟨rfl, rfl⟩
      · split
        · exact ⟨rfl, rfl⟩
        · simp_all
theorem flush_ok {S : DS} (h : (flushRes S).2 = 0) : (flushRes S).1.sure = flushTo S.sure S.pend ∧ (flushRes S).1.pend = [] := by
  have hd := doing_ok (S1 := flushed { S with count := S.count + 1 }) (S2 := flushed { S with count := S.count + 1 }) h
  rw [show flushRes S = _ from hd.1]
  exact ⟨rfl, rfl⟩
theorem flush_no {S : DS} (h : ¬ (flushRes S).2 = 0) : (flushRes S).1.sure = S.sure ∧ (flushRes S).1.pend = S.pend := by
  have hd := doing_bad (S2 := { S with count := S.count + 1 }) h
  rw [show flushRes S = doingRes S { S with count := S.count + 1 } from hd.symm]
  unfold doingRes
  split
  · exact ⟨rfl, rfl⟩
  · split
    · exact ⟨rfl, rfl⟩
    · split <;> exact ⟨rfl, rfl⟩
theorem read_fact {S : DS} {j : Nat} (hj : j < S.sure.length) : ((readRes S j).2 = 0 ∧ (readRes S j).1 = (lastW (j : Int) S.pend).getD (S.sure.getD j [])) ∨ (readRes S j).2 = 6 := by
  unfold readRes
  cases S.down with
  | true => exact .inr rfl
  | false =>
    rw [if_neg (by simp), if_pos ⟨by omega, by omega⟩]
    exact .inl ⟨rfl, by simp⟩
theorem mix_step {a b : List (List UInt8)} {K j : Nat} (ha : a.length = K) (hb : b.length = K) (hj : j < K) : (a.take j ++ b.drop j).set j (a.getD j []) = a.take (j + 1) ++ b.drop (j + 1) := by
  rw [take_snoc a j [] (by omega), List.set_append_right _ _ (by rw [List.length_take]; omega), List.length_take, Nat.min_eq_left (by omega), Nat.sub_self, List.drop_eq_getElem_cons (by omega : j < b.length), List.set_cons_zero, List.append_assoc]
  rfl
theorem mix_at {a b : List (List UInt8)} {K j : Nat} (ha : a.length = K) (hb : b.length = K) (hj : j < K) : (a.take j ++ b.drop j).getD j [] = b.getD j [] := by
  rw [List.getD_eq_getElem?_getD, List.getElem?_append_right (by rw [List.length_take]; omega), List.length_take, Nat.min_eq_left (by omega), Nat.sub_self, List.getElem?_drop, Nat.add_zero, List.getD_eq_getElem?_getD]
theorem mix_end {a b : List (List UInt8)} {K : Nat} (ha : a.length = K) (hb : b.length = K) : a.take K ++ b.drop K = a := by
  rw [← ha, List.take_length, List.drop_of_length_le (by omega), List.append_nil]
theorem mix_len {a b : List (List UInt8)} {K j : Nat} (ha : a.length = K) (hb : b.length = K) (hj : j ≤ K) : (a.take j ++ b.drop j).length = K := by
  rw [List.length_append, List.length_take, List.length_drop]; omega
end Go.Proofs.Ytlednbmmchalkaa
