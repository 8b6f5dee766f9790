/-
Contracts of functions, each proved by a walk through its code.
-/
import Derived.Test.YtbgdjdhbejbhkaaDoorSlotsPure
set_option linter.unusedVariables false
set_option linter.unusedSimpArgs false
namespace Go.Proofs.YtbgdjdhbejbhkaaDoor
open Go Go.Eng
/-- Nothing fails, nothing is pending. -/
structure DS.calm (S : DS) : Prop where
  down : S.down = false
  fail : S.fail = []
  stop : S.stop = 0
  pend : S.pend = []
  count : 0 ≤ S.count
  len : ∀ b ∈ S.sure, b.length = 64
theorem calm_fresh (n : Nat) : (fresh n).calm := ⟨rfl, rfl, rfl, rfl, by simp [fresh], fun b hb => by rw [(List.mem_replicate.1 hb).2]; simp [zeros]⟩
def chunk (all : List UInt8) (k : Nat) : List UInt8 := (all.drop (64 * k)).take 64
/-- What is pending behind so many written sectors. -/
def pendOf (at_ : Nat) (all : List UInt8) : Nat → List (Int × List UInt8)
  | 0 => []
  | k + 1 => pendOf at_ all k ++ [(((at_ + k : Nat) : Int), chunk all k)]
def setSecs (s : List (List UInt8)) (at_ : Nat) (all : List UInt8) : Nat → List (List UInt8)
  | 0 => s
  | k + 1 => (setSecs s at_ all k).set (at_ + k) (chunk all k)
theorem setSecs_length (s : List (List UInt8)) (at_ : Nat) (all : List UInt8) : ∀ k, (setSecs s at_ all k).length = s.length
  | 0 => rfl
  | k + 1 => by simp [setSecs, setSecs_length s at_ all k]
theorem setSecs_get (s : List (List UInt8)) (at_ : Nat) (all : List UInt8) : ∀ k i, at_ + k ≤ s.length → (setSecs s at_ all k).getD i [] = if at_ ≤ i ∧ i < at_ + k then chunk all (i - at_) else s.getD i []
  | 0, i, _ => by rw [if_neg (by omega)]; rfl
  | k + 1, i, h => by
    have ih := setSecs_get s at_ all k i (by omega)
    rw [List.getD_eq_getElem?_getD] at ih ⊢
    rw [setSecs, List.getElem?_set]
    by_cases hi : at_ + k = i
    · subst hi
      rw [if_pos rfl, if_pos (by rw [setSecs_length]; omega), if_pos (by omega)]
      simp
    · rw [if_neg hi, ih]
      by_cases hc : at_ ≤ i ∧ i < at_ + k
      · rw [if_pos hc, if_pos (by omega)]
      · rw [if_neg hc, if_neg (by omega)]
theorem flush_pendOf (s : List (List UInt8)) (at_ : Nat) (all : List UInt8) : ∀ k, flushTo s (pendOf at_ all k) = setSecs s at_ all k
  | 0 => rfl
  | k + 1 => by rw [pendOf, flushTo_snoc, flush_pendOf s at_ all k, setSecs, Int.toNat_natCast]
theorem chunk_length {all : List UInt8} {n k : Nat} (h : all.length = 64 * n) (hk : k < n) : (chunk all k).length = 64 := by
  rw [chunk, List.length_take, List.length_drop]; omega
theorem saveGo_calm {S : DS} (h : S.calm) {at_ n : Nat} {all : List UInt8} (ha : all.length = 64 * n) (hb : at_ + n ≤ S.sure.length) : ∀ k, k ≤ n → saveGo S at_ all k = ({ S with pend := pendOf at_ all k, count := S.count + k }, 0)
  | 0, _ => by
    have := h.pend
    cases S
    simp_all [saveGo, pendOf]
  | k + 1, hk => by
    have ih := saveGo_calm h ha hb k (by omega)
    have hc := chunk_length ha (show k < n by omega)
    have h1 := h.down
    have h2 := h.fail
    have h3 := h.stop
    have h4 := h.count
    rw [saveGo, ih, if_neg (by simp)]
    show writeRes _ _ (chunk all k) = _
    rw [writeRes, if_neg (by rw [hc]; simp; omega), doingRes, if_neg (by simp [h1]), if_neg (by simp only [h3]; omega), if_neg (by simp [h2])]
    simp only [added, pendOf]
    rw [Int.add_assoc]
    rfl
theorem flush_calm {S : DS} {ps : List (Int × List UInt8)} {c : Int} (h1 : S.down = false) (h2 : S.fail = []) (h3 : S.stop = 0) (hc : 0 ≤ c) : flushRes { S with pend := ps, count := c } = ({ S with sure := flushTo S.sure ps, pend := [], count := c + 1 }, 0) := by
  rw [flushRes, doingRes, if_neg (by simp [h1]), if_neg (by simp only [h3]; omega), if_neg (by simp [h2])]
/-- The disk behind a save that comes to be. -/
def savedD (S : DS) (s : SS) (b : List UInt8) : DS := { S with sure := setSecs S.sure (s.first + s.to * s.n) (recB s.n (s.num + 1) b) s.n, pend := [], count := S.count + s.n + 1 }
theorem save_calm {S : DS} {s : SS} (h : S.calm) (ok : OkS S s) {b : List UInt8} (hb : b.length + 28 ≤ 64 * s.n) : saveRes S s b = ((savedD S s b, s.saved b), 0) := by
  have hn := ok.n
  have hin := ok.in_
  have hto := to_le s
  have hat := ok.at_
  have hq := Nat.mul_le_mul_right s.n (show s.to ≤ 1 by omega)
  have hgo := saveGo_calm h (at_ := s.first + s.to * s.n) (recB_length (num := s.num + 1) hb) (by omega) s.n (Nat.le_refl _)
  have hfl := flush_calm (ps := pendOf (s.first + s.to * s.n) (recB s.n (s.num + 1) b) s.n) (c := S.count + s.n) h.down h.fail h.stop (by have := h.count; omega)
  rw [saveRes, if_neg (by omega), laid, hgo, if_neg (by simp), hfl, if_neg (by simp), flush_pendOf]
  rfl
theorem calm_saved {S : DS} {s : SS} (h : S.calm) (ok : OkS S s) {b : List UInt8} (hb : b.length + 28 ≤ 64 * s.n) : (savedD S s b).calm := by
  refine ⟨h.down, h.fail, h.stop, rfl, by have := h.count; show 0 ≤ S.count + s.n + 1; omega, ?_⟩
  have hl := recB_length (num := s.num + 1) hb
  have hn := ok.n
  show ∀ x ∈ setSecs S.sure _ _ s.n, _
  have key : ∀ k, k ≤ s.n → ∀ x ∈ setSecs S.sure (s.first + s.to * s.n) (recB s.n (s.num + 1) b) k, x.length = 64 := fun k => by
    induction k with
    | zero => exact fun _ => h.len
    | succ k ih =>
      intro hk x hx
      rcases List.mem_or_eq_of_mem_set hx with hx | rfl
      · exact ih (by omega) x hx
      · exact chunk_length hl (by omega)
  exact key s.n (Nat.le_refl _)
theorem read_calm {S : DS} (h : S.calm) {i : Nat} (hi : i < S.sure.length) : readRes S (i : Int) = (S.sure.getD i [], 0) := by
  rw [readRes, if_neg (by simp [h.down]), if_pos (by omega), h.pend]
  rfl
theorem area_calm {S : DS} (h : S.calm) {at_ : Nat} : ∀ k, at_ + k ≤ S.sure.length → areaB S at_ k = ((List.range k).flatMap fun j => S.sure.getD (at_ + j) [])
  | 0, _ => rfl
  | k + 1, hk => by rw [areaB, area_calm h k (by omega), read_calm h (by omega), List.range_succ]; simp
theorem chunks_all (all : List UInt8) : ∀ k, ((List.range k).flatMap fun j => chunk all j) = all.take (64 * k)
  | 0 => by simp
  | k + 1 => by
    rw [List.range_succ, List.flatMap_append, chunks_all all k]
    simp only [List.flatMap_cons, List.flatMap_nil, List.append_nil, chunk]
    rw [show 64 * (k + 1) = 64 * k + 64 by omega, List.take_add]
theorem flatMap_congr' {α β : Type} {f g : α → List β} : ∀ (l : List α), (∀ a ∈ l, f a = g a) → l.flatMap f = l.flatMap g
  | [], _ => rfl
  | a :: l, h => by rw [List.flatMap_cons, List.flatMap_cons, h a List.mem_cons_self, flatMap_congr' l fun x hx => h x (List.mem_cons_of_mem _ hx)]
/-- The area that was written. -/
theorem area_saved {S : DS} {s : SS} (h : S.calm) (ok : OkS S s) {b : List UInt8} (hb : b.length + 28 ≤ 64 * s.n) : areaB (savedD S s b) (s.first + s.to * s.n) s.n = recB s.n (s.num + 1) b := by
  have hn := ok.n
  have hin := ok.in_
  have hto := to_le s
  have hat := ok.at_
  have hq := Nat.mul_le_mul_right s.n (show s.to ≤ 1 by omega)
  have hsl : (savedD S s b).sure.length = S.sure.length := setSecs_length _ _ _ _
  have hl := recB_length (num := s.num + 1) hb
  rw [area_calm (calm_saved h ok hb) _ (by omega)]
  have : ((List.range s.n).flatMap fun j => (savedD S s b).sure.getD (s.first + s.to * s.n + j) []) = ((List.range s.n).flatMap fun j => chunk (recB s.n (s.num + 1) b) j) := flatMap_congr' _ fun j hj => by
    have := List.mem_range.1 hj
    show (setSecs S.sure _ _ s.n).getD _ [] = _
    rw [setSecs_get _ _ _ _ _ (by omega), if_pos (by omega), Nat.add_sub_cancel_left]
  rw [this, chunks_all, List.take_of_length_le (by omega)]
/-- Another area. -/
theorem area_other {S : DS} {s : SS} (h : S.calm) (ok : OkS S s) {b : List UInt8} (hb : b.length + 28 ≤ 64 * s.n) {a : Nat} (ha : a + s.n ≤ S.sure.length) (hd : a + s.n ≤ s.first + s.to * s.n ∨ s.first + s.to * s.n + s.n ≤ a) : areaB (savedD S s b) a s.n = areaB S a s.n := by
  have hin := ok.in_
  have hto := to_le s
  have hat := ok.at_
  have hq := Nat.mul_le_mul_right s.n (show s.to ≤ 1 by omega)
  have hsl : (savedD S s b).sure.length = S.sure.length := setSecs_length _ _ _ _
  rw [area_calm (calm_saved h ok hb) _ (by omega), area_calm h _ ha]
  refine flatMap_congr' _ fun j hj => ?_
  have := List.mem_range.1 hj
  show (setSecs S.sure _ _ s.n).getD _ [] = _
  rw [setSecs_get _ _ _ _ _ (by omega), if_neg (by omega)]
/-- A record is read as it was laid. -/
theorem readRec_recB {n : Nat} {num : UInt64} {b : List UInt8} (hn : n ≤ 8) (h0 : num ≠ 0) (hb : b.length + 28 ≤ 64 * n) : readRec n (recB n num b) = (num, b) := by
  have hlt := num.toNat_lt
  have e1 : numOf (recB n num b) = num.toNat := by
    rw [numOf, recB, recH, List.append_assoc, List.take_append_of_le_length (by rw [putB_length]; omega), List.take_of_length_le (by rw [putB_length]; omega), getB_put]
    omega
  have e2 : cntOf (recB n num b) = b.length := by
    have hd : (recB n num b).drop 8 = putB b.length 4 ++ (b ++ ((sha (recH num b)).take 16 ++ List.replicate (64 * n - 28 - b.length) 0)) := by
      rw [recB, show recH num b = putB num.toNat 8 ++ (putB b.length 4 ++ b) from rfl, List.append_assoc, List.drop_append, List.drop_of_length_le (by rw [putB_length]; omega), putB_length]
      simp
    rw [cntOf, hd, List.take_append_of_le_length (by rw [putB_length]; omega), List.take_of_length_le (by rw [putB_length]; omega), getB_put]
    omega
  have e3 : datOf (recB n num b) = b := by
    have hd : (recB n num b).drop 12 = b ++ ((sha (recH num b)).take 16 ++ List.replicate (64 * n - 28 - b.length) 0) := by
      rw [recB, List.drop_append_of_le_length (by rw [recH_length]; omega), show recH num b = (putB num.toNat 8 ++ putB b.length 4) ++ b by rw [recH, List.append_assoc], List.drop_append, List.drop_of_length_le (by simp [putB_length])]
      simp [putB_length]
    rw [datOf, e2, hd, List.take_append_of_le_length (Nat.le_refl _), List.take_of_length_le (Nat.le_refl _)]
  have hne : num.toNat ≠ 0 := fun h => h0 (UInt64.toNat_inj.1 (by simpa using h))
  rw [readRec, e1, e2, if_neg (by omega), e3]
  simp
/-- What is known is what the disk bears; the other area's number is less. -/
structure Bears (S : DS) (s : SS) : Prop where
  calm : S.calm
  ok : OkS S s
  zero : s.num = 0 → s.at_ = 0 ∧ s.b = [] ∧ (readRec s.n (areaB S s.first s.n)).1 = 0 ∧ (readRec s.n (areaB S (s.first + s.n) s.n)).1 = 0
  own : s.num ≠ 0 → readRec s.n (areaB S (s.first + s.at_ * s.n) s.n) = (s.num, s.b) ∧ (readRec s.n (areaB S (s.first + (1 - s.at_) * s.n) s.n)).1.toNat < s.num.toNat
theorem to_next (s : SS) (h : s.at_ ≤ 1) (h0 : s.num ≠ 0) : s.to = 1 - s.at_ := by
  have : s.num.toNat ≠ 0 := fun e => h0 (UInt64.toNat_inj.1 (by simpa using e))
  rw [SS.to, if_pos (by omega)]
theorem Bears.save {S : DS} {s : SS} (h : Bears S s) {b : List UInt8} (hb : b.length + 28 ≤ 64 * s.n) (hov : s.num.toNat < 18446744073709551615) : Bears (savedD S s b) (s.saved b) := by
  have hn := h.ok.n
  have hin := h.ok.in_
  have hat := h.ok.at_
  have hto := to_le s
  have hnum : (s.num + 1).toNat = s.num.toNat + 1 := by rw [UInt64.toNat_add]; simp; omega
  have hnz : s.num + 1 ≠ 0 := fun e => by rw [e] at hnum; simp at hnum
  have ha := area_saved h.calm h.ok hb
  have hok := saveRes_ok h.ok b
  rw [save_calm h.calm h.ok hb] at hok
  refine ⟨calm_saved h.calm h.ok hb, hok, fun e => absurd e hnz, fun _ => ⟨?_, ?_⟩⟩
  · show readRec s.n (areaB (savedD S s b) (s.first + s.to * s.n) s.n) = _
    rw [ha, readRec_recB hn.2 hnz hb]
    rfl
  · show (readRec s.n (areaB (savedD S s b) (s.first + (1 - s.to) * s.n) s.n)).1.toNat < (s.num + 1).toNat
    have hot : areaB (savedD S s b) (s.first + (1 - s.to) * s.n) s.n = areaB S (s.first + (1 - s.to) * s.n) s.n := by
      have : s.to = 0 ∨ s.to = 1 := by omega
      rcases this with e | e
      · exact area_other h.calm h.ok hb (by rw [e]; omega) (by rw [e]; omega)
      · exact area_other h.calm h.ok hb (by rw [e]; omega) (by rw [e]; omega)
    rw [hot, hnum]
    by_cases h0 : s.num = 0
    · obtain ⟨_, _, _, z2⟩ := h.zero h0
      have e : s.to = 0 := by rw [SS.to, h0]; rfl
      rw [e, show s.first + (1 - 0) * s.n = s.first + s.n by omega, z2, h0]
      decide
    · have e := to_next s hat h0
      rw [e, show 1 - (1 - s.at_) = s.at_ by omega, (h.own h0).1]
      show s.num.toNat < _
      omega
/-- What is loaded is what is known. -/
theorem Bears.load {S : DS} {s t : SS} (h : Bears S s) (h0 : s.num ≠ 0) (hf : t.first = s.first) (hn : t.n = s.n) : loadRes S t = ({ t with at_ := s.at_, num := s.num, b := s.b }, 0) := by
  have hat := h.ok.at_
  obtain ⟨h1, h2⟩ := h.own h0
  have hpos : 0 < s.num.toNat := Nat.pos_of_ne_zero fun e => h0 (UInt64.toNat_inj.1 (by simpa using e))
  rw [loadRes, if_neg (by simp [h.calm.down]), loaded, hf, hn]
  have : s.at_ = 0 ∨ s.at_ = 1 := by omega
  rcases this with e | e
  · rw [e] at h1 h2
    rw [show s.first + 0 * s.n = s.first by omega] at h1
    rw [show s.first + (1 - 0) * s.n = s.first + s.n by omega] at h2
    rw [h1, if_neg (by show ¬ s.num.toNat < _; omega), if_pos hpos, e]
  · rw [e] at h1 h2
    rw [show s.first + 1 * s.n = s.first + s.n by omega] at h1
    rw [show s.first + (1 - 1) * s.n = s.first by omega] at h2
    rw [h1, if_pos h2, e]
theorem area_zeros {S : DS} (h : S.calm) {a : Nat} : ∀ n, a + n ≤ S.sure.length → (∀ j, j < n → S.sure.getD (a + j) [] = zeros) → areaB S a n = List.replicate (64 * n) 0
  | 0, _, _ => rfl
  | n + 1, hl, hz => by
    rw [areaB, area_zeros h n (by omega) (fun j hj => hz j (by omega)), read_calm h (by omega), hz n (by omega), zeros, List.replicate_append_replicate, show 64 * n + 64 = 64 * (n + 1) by omega]
theorem getB_zeros : ∀ n, getB (List.replicate n 0) = 0
  | 0 => rfl
  | n + 1 => by rw [List.replicate_succ', getB_snoc, getB_zeros n]; rfl
theorem readRec_zeros (n m : Nat) : readRec n (List.replicate m 0) = (0, []) := by
  rw [readRec, if_pos (.inl (by rw [numOf, List.take_replicate, getB_zeros]))]
theorem bears_fresh {first n k : Nat} (hn : 1 ≤ n ∧ n ≤ 8) (hk : first + 2 * n ≤ k) : Bears (fresh k) ⟨first, n, 0, 0, []⟩ := by
  have hl : (fresh k).sure.length = k := by simp [fresh]
  have hz : ∀ a, a + n ≤ k → areaB (fresh k) a n = List.replicate (64 * n) 0 := fun a ha => area_zeros (calm_fresh k) n (by omega) (fun j hj => by simp [fresh, List.getD_eq_getElem?_getD, show a + j < k by omega])
  refine ⟨calm_fresh k, ⟨hn, by rw [hl]; exact hk, Nat.zero_le _, by show 0 + 28 ≤ 64 * n; omega⟩, fun _ => ⟨rfl, rfl, ?_, ?_⟩, fun h => absurd rfl h⟩
  · show (readRec n (areaB (fresh k) first n)).1 = 0
    rw [hz _ (by omega), readRec_zeros]
  · show (readRec n (areaB (fresh k) (first + n) n)).1 = 0
    rw [hz _ (by omega), readRec_zeros]
end Go.Proofs.YtbgdjdhbejbhkaaDoor
