/-
Contracts of functions, each proved by a walk through its code.
-/
import Derived.Test.YtplkoemjffplcaaGreatDoorHss7Etc
import Derived.Test.YtplkoemjffplcaaGreatDoorShakeEtc
import Derived.Test.YtplkoemjffplcaaGreatDoorLaw11Etc
import Derived.Test.YtplkoemjffplcaaGreatDoorOncePureEtc
set_option linter.all false
namespace Go.Proofs.YtplkoemjffplcaaGreatDoor
open Go Go.Eng
structure SS where
 first : Nat
 n : Nat
 at_ : Nat
 num : UInt64
 b : List UInt8
def recH (num : UInt64) (b : List UInt8) : List UInt8 := putB num.toNat 8 ++ (putB b.length 4 ++ b)
def recB (n : Nat) (num : UInt64) (b : List UInt8) : List UInt8 := recH num b ++ ((sha (recH num b)).take 16 ++ List.replicate (64 * n - 28 - b.length) 0)
theorem recH_length (num : UInt64) (b : List UInt8) : (recH num b).length = 12 + b.length := by simp [recH, putB_length]; omega
theorem recB_length {n : Nat} {num : UInt64} {b : List UInt8} (h : b.length + 28 ≤ 64 * n) : (recB n num b).length = 64 * n := by
 simp [recB, recH_length, sha_length]; omega
def numOf (a : List UInt8) : Nat := getB (a.take 8)
def cntOf (a : List UInt8) : Nat := getB ((a.drop 8).take 4)
def datOf (a : List UInt8) : List UInt8 := (a.drop 12).take (cntOf a)
def readRec (n : Nat) (a : List UInt8) : UInt64 × List UInt8 :=
 if numOf a = 0 ∨ 64 * n - 28 < cntOf a then (0, []) else if recB n (UInt64.ofNat (numOf a)) (datOf a) = a then (UInt64.ofNat (numOf a), datOf a) else (0, [])
def areaB (S : DS) (at_ : Nat) : Nat → List UInt8
 | 0 => []
 | k + 1 => areaB S at_ k ++ (readRes S ((at_ + k : Nat) : Int)).1
def isBlank (b : List UInt8) : Bool := b.all (· == 0)
def loaded (s : SS) (one two : List UInt8) : SS × Int :=
 if (readRec s.n one).1.toNat < (readRec s.n two).1.toNat then ({ s with at_ := 1, num := (readRec s.n two).1, b := (readRec s.n two).2 }, 0)
 else ({ s with at_ := 0, num := (readRec s.n one).1, b := (readRec s.n one).2 }, if 0 < (readRec s.n one).1.toNat then 0 else if isBlank one = true ∨ isBlank two = true then 11 else 8)
def loadRes (S : DS) (s : SS) : SS × Int := if S.down then (s, 6) else loaded s (areaB S s.first s.n) (areaB S (s.first + s.n) s.n)
def saveGo (S : DS) (at_ : Nat) (all : List UInt8) : Nat → DS × Int
 | 0 => (S, 0)
 | k + 1 => if (saveGo S at_ all k).2 ≠ 0 then saveGo S at_ all k else writeRes (saveGo S at_ all k).1 ((at_ + k : Nat) : Int) ((all.drop (64 * k)).take 64)
def SS.to (s : SS) : Nat := if 0 < s.num.toNat then 1 - s.at_ else 0
def SS.saved (s : SS) (b : List UInt8) : SS := { s with at_ := s.to, num := s.num + 1, b := b }
def laid (S : DS) (s : SS) (b : List UInt8) : DS × Int := saveGo S (s.first + s.to * s.n) (recB s.n (s.num + 1) b) s.n
def saveRes (S : DS) (s : SS) (b : List UInt8) : (DS × SS) × Int :=
 if 64 * s.n - 28 < b.length then ((S, s), 1) else
 if (laid S s b).2 ≠ 0 then (((laid S s b).1, s), (laid S s b).2) else
 if (flushRes (laid S s b).1).2 ≠ 0 then (((flushRes (laid S s b).1).1, s), (flushRes (laid S s b).1).2) else (((flushRes (laid S s b).1).1, s.saved b), 0)
structure OkS (S : DS) (s : SS) : Prop where
 n : 1 ≤ s.n ∧ s.n ≤ 8
 in_ : s.first + 2 * s.n ≤ S.sure.length
 at_ : s.at_ ≤ 1
 b : s.b.length + 28 ≤ 64 * s.n
theorem doingRes_sure {S S2 : DS} {l : Nat} (h : S.sure.length = l) (h2 : S2.sure.length = l) : (doingRes S S2).1.sure.length = l := by
 unfold doingRes
 split
 ·
  exact h
 split
 ·
  exact h
 split
 ·
  exact h
 exact h2
theorem writeRes_sure (S : DS) (i : Int) (bs : List UInt8) : (writeRes S i bs).1.sure.length = S.sure.length := by
 unfold writeRes
 split
 ·
  rfl
 exact doingRes_sure rfl rfl
theorem flushRes_sure (S : DS) : (flushRes S).1.sure.length = S.sure.length := doingRes_sure rfl (by show (flushTo _ _).length = _; rw [flushTo_length])
theorem saveGo_sure (S : DS) (at_ : Nat) (all : List UInt8) : ∀ k, (saveGo S at_ all k).1.sure.length = S.sure.length
 | 0 => rfl
 | k + 1 => by
  unfold saveGo
  split
  ·
   exact saveGo_sure S at_ all k
  rw [writeRes_sure]; exact saveGo_sure S at_ all k
theorem saveGo_within {S : DS} {B : Nat} (h : S.within B) (at_ : Nat) (all : List UInt8) : ∀ k, (saveGo S at_ all k).1.within (B + k)
 | 0 => h
 | k + 1 => by
  have ih := saveGo_within h at_ all k
  unfold saveGo
  split
  ·
   exact ⟨ih.1, by have := ih.2.1; omega, by have := ih.2.2; omega⟩
  exact within_write ih _ _
theorem DS.within.mono {S : DS} {B B' : Nat} (h : S.within B) (hb : B ≤ B') : S.within B' := ⟨h.1, by have := h.2.1; omega, by have := h.2.2; omega⟩
theorem saveRes_sure (S : DS) (s : SS) (b : List UInt8) : (saveRes S s b).1.1.sure.length = S.sure.length := by
 unfold saveRes laid
 split
 ·
  rfl
 split
 ·
  exact saveGo_sure _ _ _ _
 split
 ·
  rw [flushRes_sure]; exact saveGo_sure _ _ _ _
 show (flushRes _).1.sure.length = _
 rw [flushRes_sure]; exact saveGo_sure _ _ _ _
theorem saveRes_within {S : DS} {B : Nat} (h : S.within B) {s : SS} (hn : s.n ≤ 8) (b : List UInt8) : (saveRes S s b).1.1.within (B + 9) := by
 have h1 := fun k => saveGo_within h (s.first + s.to * s.n) (recB s.n (s.num + 1) b) k
 unfold saveRes laid
 split
 ·
  exact h.mono (by omega)
 split
 ·
  exact (h1 _).mono (by omega)
 split
 ·
  exact (within_flush (h1 _)).mono (by omega)
 exact (within_flush (h1 _)).mono (by omega)
theorem to_le (s : SS) : s.to ≤ 1 ∨ 1 < s.at_ := by unfold SS.to; split <;> omega
theorem saveRes_ok {S : DS} {s : SS} (h : OkS S s) (b : List UInt8) : OkS (saveRes S s b).1.1 (saveRes S s b).1.2 := by
 have hs := saveRes_sure S s b
 have hto := to_le s
 have key : ∀ s', (saveRes S s b).1.2 = s' → OkS S s' → OkS (saveRes S s b).1.1 (saveRes S s b).1.2 := fun s' e o => e ▸ ⟨o.n, by rw [hs]; exact o.in_, o.at_, o.b⟩
 by_cases hb : 64 * s.n - 28 < b.length
 ·
  exact key s (by unfold saveRes; rw [if_pos hb]) h
 by_cases h1 : (laid S s b).2 ≠ 0
 ·
  exact key s (by unfold saveRes; rw [if_neg hb, if_pos h1]) h
 by_cases h2 : (flushRes (laid S s b).1).2 ≠ 0
 ·
  exact key s (by unfold saveRes; rw [if_neg hb, if_neg h1, if_pos h2]) h
 refine key (s.saved b) (by unfold saveRes; rw [if_neg hb, if_neg h1, if_neg h2]) ⟨h.n, h.in_, ?_, ?_⟩
 ·
  have := h.at_; show s.to ≤ 1; omega
 have := h.n; show b.length + 28 ≤ 64 * s.n; omega
theorem readRec_len (n : Nat) (hn : 1 ≤ n) (a : List UInt8) : (readRec n a).2.length + 28 ≤ 64 * n := by
 unfold readRec
 split
 ·
  simp; omega
 rename_i h
 split
 ·
  simp only [datOf, List.length_take]; omega
 simp; omega
theorem loadRes_ok {S : DS} {s : SS} (h : OkS S s) : OkS S (loadRes S s).1 := by
 have hn := h.n
 have hl := fun a => readRec_len s.n hn.1 a
 unfold loadRes
 split
 ·
  exact h
 unfold loaded
 split
 ·
  exact ⟨h.n, h.in_, Nat.le_refl _, hl _⟩
 exact ⟨h.n, h.in_, Nat.zero_le _, hl _⟩
theorem readRes_len {S : DS} (hd : S.down = false) (sl : ∀ b ∈ S.sure, b.length = 64) (pl : ∀ q ∈ S.pend, q.2.length = 64 ∧ 0 ≤ q.1 ∧ q.1 < S.sure.length) {i : Nat} (hi : i < S.sure.length) : (readRes S (i : Int)).2 = 0 ∧ (readRes S (i : Int)).1.length = 64 := by
 have hin : (0 : Int) ≤ (i : Int) ∧ (i : Int) < S.sure.length := by omega
 rw [show readRes S (i : Int) = ((lastW (i : Int) S.pend).getD (S.sure.getD i []), 0) by rw [readRes, if_neg (by simp [hd]), if_pos hin]; rfl]
 refine ⟨rfl, ?_⟩
 have hmem : ∀ ps : List (Int × List UInt8), (∀ q ∈ ps, q.2.length = 64) → ((lastW (i : Int) ps).getD (S.sure.getD i [])).length = 64 := fun ps => by
  induction ps with
  | nil => intro _; exact sl _ (getD_mem _ _ _ hi)
  | cons a ps ih =>
   intro hq
   simp only [lastW]
   have ih := ih (fun q hq' => hq q (List.mem_cons_of_mem _ hq'))
   cases hx : lastW (i : Int) ps with
   | some b' => rw [hx] at ih; exact ih
   | none =>
    rw [hx] at ih
    simp only
    split
    ·
     exact hq a List.mem_cons_self
    exact ih
 exact hmem _ (fun q hq => (pl q hq).1)
theorem areaB_length {S : DS} (hd : S.down = false) (sl : ∀ b ∈ S.sure, b.length = 64) (pl : ∀ q ∈ S.pend, q.2.length = 64 ∧ 0 ≤ q.1 ∧ q.1 < S.sure.length) {at_ : Nat} : ∀ k, at_ + k ≤ S.sure.length → (areaB S at_ k).length = 64 * k
 | 0, _ => rfl
 | k + 1, h => by
  rw [areaB, List.length_append, areaB_length hd sl pl k (by omega), (readRes_len hd sl pl (by omega)).2]; omega
structure DS.calm (S : DS) : Prop where
 down : S.down = false
 fail : S.fail = []
 stop : S.stop = 0
 pend : S.pend = []
 count : 0 ≤ S.count
 len : ∀ b ∈ S.sure, b.length = 64
theorem calm_fresh (n : Nat) : (fresh n).calm := ⟨rfl, rfl, rfl, rfl, by simp [fresh], fun b hb => by rw [(List.mem_replicate.1 hb).2]; simp [zeros]⟩
def chunk (all : List UInt8) (k : Nat) : List UInt8 := (all.drop (64 * k)).take 64
def pendOf (at_ : Nat) (all : List UInt8) : Nat → List (Int × List UInt8)
 | 0 => []
 | k + 1 => pendOf at_ all k ++ [(((at_ + k : Nat) : Int), chunk all k)]
def setSecs (s : List (List UInt8)) (at_ : Nat) (all : List UInt8) : Nat → List (List UInt8)
 | 0 => s
 | k + 1 => (setSecs s at_ all k).set (at_ + k) (chunk all k)
theorem setSecs_length (s : List (List UInt8)) (at_ : Nat) (all : List UInt8) : ∀ k, (setSecs s at_ all k).length = s.length
 | 0 => rfl
 | k + 1 => by simp [setSecs, setSecs_length s at_ all k]
theorem setSecs_get (s : List (List UInt8)) (at_ : Nat) (all : List UInt8) : ∀ k i, at_ + k ≤ s.length → (setSecs s at_ all k).getD i [] = if at_ ≤ i ∧ i < at_ + k then chunk all (i - at_) else s.getD i []
 | 0, i, _ => by rw [if_neg (by omega)]; rfl
 | k + 1, i, h => by
  have ih := setSecs_get s at_ all k i (by omega)
  rw [List.getD_eq_getElem?_getD] at ih ⊢
  rw [setSecs, List.getElem?_set]
  by_cases hi : at_ + k = i
  ·
   subst hi
   rw [if_pos rfl, if_pos (by rw [setSecs_length]; omega), if_pos (by omega)]
   simp
  rw [if_neg hi, ih]
  by_cases hc : at_ ≤ i ∧ i < at_ + k
  ·
   rw [if_pos hc, if_pos (by omega)]
  rw [if_neg hc, if_neg (by omega)]
theorem flush_pendOf (s : List (List UInt8)) (at_ : Nat) (all : List UInt8) : ∀ k, flushTo s (pendOf at_ all k) = setSecs s at_ all k
 | 0 => rfl
 | k + 1 => by rw [pendOf, flushTo_snoc, flush_pendOf s at_ all k, setSecs, Int.toNat_natCast]
theorem chunk_length {all : List UInt8} {n k : Nat} (h : all.length = 64 * n) (hk : k < n) : (chunk all k).length = 64 := by
 rw [chunk, List.length_take, List.length_drop]; omega
theorem saveGo_calm {S : DS} (h : S.calm) {at_ n : Nat} {all : List UInt8} (ha : all.length = 64 * n) (hb : at_ + n ≤ S.sure.length) : ∀ k, k ≤ n → saveGo S at_ all k = ({ S with pend := pendOf at_ all k, count := S.count + k }, 0)
 | 0, _ => by
  have := h.pend
  cases S
  simp_all [saveGo, pendOf]
 | k + 1, hk => by
  have ih := saveGo_calm h ha hb k (by omega)
  have hc := chunk_length ha (show k < n by omega)
  have h1 := h.down
  have h2 := h.fail
  have h3 := h.stop
  have h4 := h.count
  rw [saveGo, ih, if_neg (by simp)]
  show writeRes _ _ (chunk all k) = _
  rw [writeRes, if_neg (by rw [hc]; simp; omega), doingRes, if_neg (by simp [h1]), if_neg (by simp only [h3]; omega), if_neg (by simp [h2])]
  simp only [added, pendOf]
  rw [Int.add_assoc]
  rfl
theorem flush_calm {S : DS} {ps : List (Int × List UInt8)} {c : Int} (h1 : S.down = false) (h2 : S.fail = []) (h3 : S.stop = 0) (hc : 0 ≤ c) : flushRes { S with pend := ps, count := c } = ({ S with sure := flushTo S.sure ps, pend := [], count := c + 1 }, 0) := by
 rw [flushRes, doingRes, if_neg (by simp [h1]), if_neg (by simp only [h3]; omega), if_neg (by simp [h2])]
def savedD (S : DS) (s : SS) (b : List UInt8) : DS := { S with sure := setSecs S.sure (s.first + s.to * s.n) (recB s.n (s.num + 1) b) s.n, pend := [], count := S.count + s.n + 1 }
theorem save_calm {S : DS} {s : SS} (h : S.calm) (ok : OkS S s) {b : List UInt8} (hb : b.length + 28 ≤ 64 * s.n) : saveRes S s b = ((savedD S s b, s.saved b), 0) := by
 have hn := ok.n
 have hin := ok.in_
 have hto := to_le s
 have hat := ok.at_
 have hq := Nat.mul_le_mul_right s.n (show s.to ≤ 1 by omega)
 have hgo := saveGo_calm h (at_ := s.first + s.to * s.n) (recB_length (num := s.num + 1) hb) (by omega) s.n (Nat.le_refl _)
 have hfl := flush_calm (ps := pendOf (s.first + s.to * s.n) (recB s.n (s.num + 1) b) s.n) (c := S.count + s.n) h.down h.fail h.stop (by have := h.count; omega)
 rw [saveRes, if_neg (by omega), laid, hgo, if_neg (by simp), hfl, if_neg (by simp), flush_pendOf]
 rfl
theorem calm_saved {S : DS} {s : SS} (h : S.calm) (ok : OkS S s) {b : List UInt8} (hb : b.length + 28 ≤ 64 * s.n) : (savedD S s b).calm := by
 refine ⟨h.down, h.fail, h.stop, rfl, by have := h.count; show 0 ≤ S.count + s.n + 1; omega, ?_⟩
 have hl := recB_length (num := s.num + 1) hb
 have hn := ok.n
 show ∀ x ∈ setSecs S.sure _ _ s.n, _
 have key : ∀ k, k ≤ s.n → ∀ x ∈ setSecs S.sure (s.first + s.to * s.n) (recB s.n (s.num + 1) b) k, x.length = 64 := fun k => by
  induction k with
  | zero => exact fun _ => h.len
  | succ k ih =>
   intro hk x hx
   rcases List.mem_or_eq_of_mem_set hx with hx | rfl
   ·
    exact ih (by omega) x hx
   exact chunk_length hl (by omega)
 exact key s.n (Nat.le_refl _)
theorem read_calm {S : DS} (h : S.calm) {i : Nat} (hi : i < S.sure.length) : readRes S (i : Int) = (S.sure.getD i [], 0) := by
 rw [readRes, if_neg (by simp [h.down]), if_pos (by omega), h.pend]
 rfl
theorem area_calm {S : DS} (h : S.calm) {at_ : Nat} : ∀ k, at_ + k ≤ S.sure.length → areaB S at_ k = ((List.range k).flatMap fun j => S.sure.getD (at_ + j) [])
 | 0, _ => rfl
 | k + 1, hk => by rw [areaB, area_calm h k (by omega), read_calm h (by omega), List.range_succ]; simp
theorem chunks_all (all : List UInt8) : ∀ k, ((List.range k).flatMap fun j => chunk all j) = all.take (64 * k)
 | 0 => by simp
 | k + 1 => by
  rw [List.range_succ, List.flatMap_append, chunks_all all k]
  simp only [List.flatMap_cons, List.flatMap_nil, List.append_nil, chunk]
  rw [show 64 * (k + 1) = 64 * k + 64 by omega, List.take_add]
theorem flatMap_congr' {α β : Type} {f g : α → List β} : ∀ (l : List α), (∀ a ∈ l, f a = g a) → l.flatMap f = l.flatMap g
 | [], _ => rfl
 | a :: l, h => by rw [List.flatMap_cons, List.flatMap_cons, h a List.mem_cons_self, flatMap_congr' l fun x hx => h x (List.mem_cons_of_mem _ hx)]
theorem area_saved {S : DS} {s : SS} (h : S.calm) (ok : OkS S s) {b : List UInt8} (hb : b.length + 28 ≤ 64 * s.n) : areaB (savedD S s b) (s.first + s.to * s.n) s.n = recB s.n (s.num + 1) b := by
 have hn := ok.n
 have hin := ok.in_
 have hto := to_le s
 have hat := ok.at_
 have hq := Nat.mul_le_mul_right s.n (show s.to ≤ 1 by omega)
 have hsl : (savedD S s b).sure.length = S.sure.length := setSecs_length _ _ _ _
 have hl := recB_length (num := s.num + 1) hb
 rw [area_calm (calm_saved h ok hb) _ (by omega)]
 have : ((List.range s.n).flatMap fun j => (savedD S s b).sure.getD (s.first + s.to * s.n + j) []) = ((List.range s.n).flatMap fun j => chunk (recB s.n (s.num + 1) b) j) := flatMap_congr' _ fun j hj => by
  have := List.mem_range.1 hj
  show (setSecs S.sure _ _ s.n).getD _ [] = _
  rw [setSecs_get _ _ _ _ _ (by omega), if_pos (by omega), Nat.add_sub_cancel_left]
 rw [this, chunks_all, List.take_of_length_le (by omega)]
theorem area_other {S : DS} {s : SS} (h : S.calm) (ok : OkS S s) {b : List UInt8} (hb : b.length + 28 ≤ 64 * s.n) {a : Nat} (ha : a + s.n ≤ S.sure.length) (hd : a + s.n ≤ s.first + s.to * s.n ∨ s.first + s.to * s.n + s.n ≤ a) : areaB (savedD S s b) a s.n = areaB S a s.n := by
 have hin := ok.in_
 have hto := to_le s
 have hat := ok.at_
 have hq := Nat.mul_le_mul_right s.n (show s.to ≤ 1 by omega)
 have hsl : (savedD S s b).sure.length = S.sure.length := setSecs_length _ _ _ _
 rw [area_calm (calm_saved h ok hb) _ (by omega), area_calm h _ ha]
 refine flatMap_congr' _ fun j hj => ?_
 have := List.mem_range.1 hj
 show (setSecs S.sure _ _ s.n).getD _ [] = _
 rw [setSecs_get _ _ _ _ _ (by omega), if_neg (by omega)]
theorem readRec_recB {n : Nat} {num : UInt64} {b : List UInt8} (hn : n ≤ 8) (h0 : num ≠ 0) (hb : b.length + 28 ≤ 64 * n) : readRec n (recB n num b) = (num, b) := by
 have hlt := num.toNat_lt
 have e1 : numOf (recB n num b) = num.toNat := by
  rw [numOf, recB, recH, List.append_assoc, List.take_append_of_le_length (by rw [putB_length]; omega), List.take_of_length_le (by rw [putB_length]; omega), getB_put]
  omega
 have e2 : cntOf (recB n num b) = b.length := by
  have hd : (recB n num b).drop 8 = putB b.length 4 ++ (b ++ ((sha (recH num b)).take 16 ++ List.replicate (64 * n - 28 - b.length) 0)) := by
   rw [recB, show recH num b = putB num.toNat 8 ++ (putB b.length 4 ++ b) from rfl, List.append_assoc, List.drop_append, List.drop_of_length_le (by rw [putB_length]; omega), putB_length]
   simp
  rw [cntOf, hd, List.take_append_of_le_length (by rw [putB_length]; omega), List.take_of_length_le (by rw [putB_length]; omega), getB_put]
  omega
 have e3 : datOf (recB n num b) = b := by
  have hd : (recB n num b).drop 12 = b ++ ((sha (recH num b)).take 16 ++ List.replicate (64 * n - 28 - b.length) 0) := by
   rw [recB, List.drop_append_of_le_length (by rw [recH_length]; omega), show recH num b = (putB num.toNat 8 ++ putB b.length 4) ++ b by rw [recH, List.append_assoc], List.drop_append, List.drop_of_length_le (by simp [putB_length])]
   simp [putB_length]
  rw [datOf, e2, hd, List.take_append_of_le_length (Nat.le_refl _), List.take_of_length_le (Nat.le_refl _)]
 have hne : num.toNat ≠ 0 := fun h => h0 (UInt64.toNat_inj.1 (by simpa using h))
 rw [readRec, e1, e2, if_neg (by omega), e3]
 simp
structure Bears (S : DS) (s : SS) : Prop where
 calm : S.calm
 ok : OkS S s
 zero : s.num = 0 → s.at_ = 0 ∧ s.b = [] ∧ (readRec s.n (areaB S s.first s.n)).1 = 0 ∧ (readRec s.n (areaB S (s.first + s.n) s.n)).1 = 0
 own : s.num ≠ 0 → readRec s.n (areaB S (s.first + s.at_ * s.n) s.n) = (s.num, s.b) ∧ (readRec s.n (areaB S (s.first + (1 - s.at_) * s.n) s.n)).1.toNat < s.num.toNat
theorem to_next (s : SS) (h : s.at_ ≤ 1) (h0 : s.num ≠ 0) : s.to = 1 - s.at_ := by
 have : s.num.toNat ≠ 0 := fun e => h0 (UInt64.toNat_inj.1 (by simpa using e))
 rw [SS.to, if_pos (by omega)]
theorem Bears.save {S : DS} {s : SS} (h : Bears S s) {b : List UInt8} (hb : b.length + 28 ≤ 64 * s.n) (hov : s.num.toNat < 18446744073709551615) : Bears (savedD S s b) (s.saved b) := by
 have hn := h.ok.n
 have hin := h.ok.in_
 have hat := h.ok.at_
 have hto := to_le s
 have hnum : (s.num + 1).toNat = s.num.toNat + 1 := by rw [UInt64.toNat_add]; simp; omega
 have hnz : s.num + 1 ≠ 0 := fun e => by rw [e] at hnum; simp at hnum
 have ha := area_saved h.calm h.ok hb
 have hok := saveRes_ok h.ok b
 rw [save_calm h.calm h.ok hb] at hok
 refine ⟨calm_saved h.calm h.ok hb, hok, fun e => absurd e hnz, fun _ => ⟨?_, ?_⟩⟩
 ·
  show readRec s.n (areaB (savedD S s b) (s.first + s.to * s.n) s.n) = _
  rw [ha, readRec_recB hn.2 hnz hb]
  rfl
 show (readRec s.n (areaB (savedD S s b) (s.first + (1 - s.to) * s.n) s.n)).1.toNat < (s.num + 1).toNat
 have hot : areaB (savedD S s b) (s.first + (1 - s.to) * s.n) s.n = areaB S (s.first + (1 - s.to) * s.n) s.n := by
  have : s.to = 0 ∨ s.to = 1 := by omega
  rcases this with e | e
  ·
   exact area_other h.calm h.ok hb (by rw [e]; omega) (by rw [e]; omega)
  exact area_other h.calm h.ok hb (by rw [e]; omega) (by rw [e]; omega)
 rw [hot, hnum]
 by_cases h0 : s.num = 0
 ·
  obtain ⟨_, _, _, z2⟩ := h.zero h0
  have e : s.to = 0 := by rw [SS.to, h0]; rfl
  rw [e, show s.first + (1 - 0) * s.n = s.first + s.n by omega, z2, h0]
  decide
 have e := to_next s hat h0
 rw [e, show 1 - (1 - s.at_) = s.at_ by omega, (h.own h0).1]
 show s.num.toNat < _
 omega
theorem Bears.load {S : DS} {s t : SS} (h : Bears S s) (h0 : s.num ≠ 0) (hf : t.first = s.first) (hn : t.n = s.n) : loadRes S t = ({ t with at_ := s.at_, num := s.num, b := s.b }, 0) := by
 have hat := h.ok.at_
 obtain ⟨h1, h2⟩ := h.own h0
 have hpos : 0 < s.num.toNat := Nat.pos_of_ne_zero fun e => h0 (UInt64.toNat_inj.1 (by simpa using e))
 rw [loadRes, if_neg (by simp [h.calm.down]), loaded, hf, hn]
 have : s.at_ = 0 ∨ s.at_ = 1 := by omega
 rcases this with e | e
 ·
  rw [e] at h1 h2
  rw [show s.first + 0 * s.n = s.first by omega] at h1
  rw [show s.first + (1 - 0) * s.n = s.first + s.n by omega] at h2
  rw [h1, if_neg (by show ¬ s.num.toNat < _; omega), if_pos hpos, e]
 rw [e] at h1 h2
 rw [show s.first + 1 * s.n = s.first + s.n by omega] at h1
 rw [show s.first + (1 - 1) * s.n = s.first by omega] at h2
 rw [h1, if_pos h2, e]
theorem area_zeros {S : DS} (h : S.calm) {a : Nat} : ∀ n, a + n ≤ S.sure.length → (∀ j, j < n → S.sure.getD (a + j) [] = zeros) → areaB S a n = List.replicate (64 * n) 0
 | 0, _, _ => rfl
 | n + 1, hl, hz => by
  rw [areaB, area_zeros h n (by omega) (fun j hj => hz j (by omega)), read_calm h (by omega), hz n (by omega), zeros, List.replicate_append_replicate, show 64 * n + 64 = 64 * (n + 1) by omega]
theorem getB_zeros : ∀ n, getB (List.replicate n 0) = 0
 | 0 => rfl
 | n + 1 => by rw [List.replicate_succ', getB_snoc, getB_zeros n]; rfl
theorem readRec_zeros (n m : Nat) : readRec n (List.replicate m 0) = (0, []) := by
 rw [readRec, if_pos (.inl (by rw [numOf, List.take_replicate, getB_zeros]))]
structure Cn where
 total : UInt64
 batch : UInt64
 reserved : UInt64
 next : UInt64
 retired : Bool
theorem Cn.ext_iff (a b : Cn) : (a.total = b.total ∧ a.batch = b.batch ∧ a.reserved = b.reserved ∧ a.next = b.next ∧ a.retired = b.retired) ↔ a = b := by
 constructor
 ·
  rintro ⟨h1, h2, h3, h4, h5⟩
  cases a; cases b; simp_all
 rintro rfl; exact ⟨rfl, rfl, rfl, rfl, rfl⟩
instance : DecidableEq Cn := fun a b => decidable_of_iff _ (Cn.ext_iff a b)
abbrev ccells (x : Cn) : List Value := [.int .u64 (x.total.toNat : Int), .int .u64 (x.batch.toNat : Int), .int .u64 (x.reserved.toNat : Int), .int .u64 (x.next.toNat : Int), .bool x.retired]
def zeroC : Cn := ⟨0, 0, 0, 0, false⟩
def mayB (x : Cn) (l : Nat) : Bool := decide (1 ≤ x.total.toNat ∧ x.total.toNat ≤ 1152921504606846976 ∧ 1 ≤ x.batch.toNat ∧ x.batch.toNat ≤ 65536 ∧ x.reserved.toNat ≤ x.total.toNat ∧ l ≤ 200)
def bytesC (x : Cn) (head : List UInt8) : List UInt8 := putB x.total.toNat 8 ++ (putB x.batch.toNat 8 ++ (putB x.reserved.toNat 8 ++ ((if x.retired then 1 else 0) :: head)))
theorem bytesC_length (x : Cn) (head : List UInt8) : (bytesC x head).length = 25 + head.length := by simp [bytesC, putB_length]; omega
def xOf (b : List UInt8) : Cn := ⟨UInt64.ofNat (getB (b.take 8)), UInt64.ofNat (getB ((b.drop 8).take 8)), UInt64.ofNat (getB ((b.drop 16).take 8)), UInt64.ofNat (getB ((b.drop 16).take 8)), b.getD 24 0 == 1⟩
def readC (b : List UInt8) : (Cn × List UInt8) × Int :=
 if b.length < 25 then ((zeroC, []), 2) else if 1 < (b.getD 24 0).toNat ∨ mayB (xOf b) (b.length - 25) = false then ((zeroC, []), 3) else ((xOf b, b.drop 25), 0)
def saveC (S : DS) (s : SS) (x x' : Cn) (head : List UInt8) : ((DS × SS) × Cn) × Int :=
 if x' = x then (((S, s), x), 0) else if mayB x' head.length = false then (((S, s), x), 1) else
 if (saveRes S s (bytesC x' head)).2 ≠ 0 then (((saveRes S s (bytesC x' head)).1, x), (saveRes S s (bytesC x' head)).2) else (((saveRes S s (bytesC x' head)).1, x'), 0)
def newX (total batch : UInt64) : Cn := ⟨total, batch, 0, 0, false⟩
def newC (S : DS) (s : SS) (head : List UInt8) (total batch : UInt64) : (DS × SS) × Int :=
 if mayB (newX total batch) head.length = false then ((S, s), 1) else
 if (loadRes S s).2 = 0 then ((S, (loadRes S s).1), 10) else if (loadRes S s).2 = 11 then saveRes S (loadRes S s).1 (bytesC (newX total batch) head) else ((S, (loadRes S s).1), (loadRes S s).2)
def openC (S : DS) (s : SS) : (Cn × List UInt8) × Int := if (loadRes S s).2 ≠ 0 then ((zeroC, []), (loadRes S s).2) else readC (loadRes S s).1.b
def moreC (x : Cn) : Cn := { x with reserved := if x.total.toNat < (x.reserved + x.batch).toNat then x.total else x.reserved + x.batch }
def nextC' (x : Cn) : Cn := { x with next := x.next + 1 }
def takeC (S : DS) (s : SS) (x : Cn) (head : List UInt8) : ((DS × SS) × Cn) × (UInt64 × Int) :=
 if x.retired then (((S, s), x), (0, 13)) else if x.next = x.total then (((S, s), x), (0, 9)) else
 if x.next = x.reserved then
  if (saveC S s x (moreC x) head).2 ≠ 0 then ((saveC S s x (moreC x) head).1, (0, (saveC S s x (moreC x) head).2))
  else (((saveC S s x (moreC x) head).1.1, nextC' (saveC S s x (moreC x) head).1.2), ((nextC' (saveC S s x (moreC x) head).1.2).next - 1, 0))
 else (((S, s), nextC' x), ((nextC' x).next - 1, 0))
theorem xOf_bytes (x : Cn) (head : List UInt8) : xOf (bytesC x head) = { x with next := x.reserved } := by
 have e1 : (bytesC x head).take 8 = putB x.total.toNat 8 := by
  rw [bytesC, List.take_append_of_le_length (by rw [putB_length]; omega), List.take_of_length_le (by rw [putB_length]; omega)]
 have d1 : (bytesC x head).drop 8 = putB x.batch.toNat 8 ++ (putB x.reserved.toNat 8 ++ ((if x.retired then 1 else 0) :: head)) := by
  rw [bytesC, List.drop_append, List.drop_of_length_le (by rw [putB_length]; omega), putB_length]; rfl
 have d2 : (bytesC x head).drop 16 = putB x.reserved.toNat 8 ++ ((if x.retired then 1 else 0) :: head) := by
  rw [show 16 = 8 + 8 from rfl, ← List.drop_drop, d1, List.drop_append, List.drop_of_length_le (by rw [putB_length]; omega), putB_length]; rfl
 have d3 : (bytesC x head).drop 24 = (if x.retired then 1 else 0) :: head := by
  rw [show 24 = 16 + 8 from rfl, ← List.drop_drop, d2, List.drop_append, List.drop_of_length_le (by rw [putB_length]; omega), putB_length]; rfl
 have e2 : ((bytesC x head).drop 8).take 8 = putB x.batch.toNat 8 := by
  rw [d1, List.take_append_of_le_length (by rw [putB_length]; omega), List.take_of_length_le (by rw [putB_length]; omega)]
 have e3 : ((bytesC x head).drop 16).take 8 = putB x.reserved.toNat 8 := by
  rw [d2, List.take_append_of_le_length (by rw [putB_length]; omega), List.take_of_length_le (by rw [putB_length]; omega)]
 have e4 : (bytesC x head).getD 24 0 = if x.retired then 1 else 0 := by
  have := congrArg List.head? d3
  rw [List.head?_drop] at this
  rw [List.getD_eq_getElem?_getD, this]; rfl
 have h8 : ∀ v : UInt64, UInt64.ofNat (getB (putB v.toNat 8)) = v := fun v => by
  have := v.toNat_lt
  rw [getB_put, Nat.mod_eq_of_lt (by omega)]; simp
 unfold xOf
 rw [e1, e2, e3, e4, h8, h8, h8]
 cases x with
 | mk a b c d e => cases e <;> rfl
theorem drop25_bytes (x : Cn) (head : List UInt8) : (bytesC x head).drop 25 = head := by
 have : bytesC x head = (putB x.total.toNat 8 ++ (putB x.batch.toNat 8 ++ (putB x.reserved.toNat 8 ++ [if x.retired then 1 else 0]))) ++ head := by simp [bytesC]
 rw [this, List.drop_append, List.drop_of_length_le (by simp [putB_length])]
 simp [putB_length]
theorem flag_bytes (x : Cn) (head : List UInt8) : (bytesC x head).getD 24 0 = if x.retired then 1 else 0 := by
 have := congrArg Cn.retired (xOf_bytes x head)
 have h2 : bytesC x head = (putB x.total.toNat 8 ++ (putB x.batch.toNat 8 ++ putB x.reserved.toNat 8)) ++ ((if x.retired then 1 else 0) :: head) := by simp [bytesC]
 rw [h2, List.getD_eq_getElem?_getD, List.getElem?_append_right (by simp [putB_length])]
 simp [putB_length]
theorem readC_bytesC {x : Cn} {head : List UInt8} (h : mayB x head.length = true) : readC (bytesC x head) = (({ x with next := x.reserved }, head), 0) := by
 have hl := bytesC_length x head
 have hm : mayB (xOf (bytesC x head)) ((bytesC x head).length - 25) = true := by
  rw [xOf_bytes, hl, show 25 + head.length - 25 = head.length by omega]; exact h
 rw [readC, if_neg (by omega), if_neg (by rw [flag_bytes, hm]; cases x.retired <;> simp), xOf_bytes, drop25_bytes]
structure KeyH where
 name : List UInt8
 l : List PairV
 sn : List UInt8
 ss : List UInt8
def codB (p : PairV) : List UInt8 := putB p.t.toNat 4 ++ putB p.o.toNat 4
theorem codB_len (p : PairV) : (codB p).length = 8 := by simp [codB, putB_length]
def codsB (l : List PairV) : List UInt8 := l.flatMap codB
theorem codsB_len (l : List PairV) : (codsB l).length = 8 * l.length := by
 induction l with
 | nil => rfl
 | cons p l ih => rw [codsB, List.flatMap_cons, List.length_append, codB_len, ← codsB, ih, List.length_cons]; omega
theorem codsB_snoc (l : List PairV) (p : PairV) : codsB (l ++ [p]) = codsB l ++ codB p := by simp [codsB]
def mayK (nl : Nat) (l : List PairV) (sn ss : Nat) : Prop := 1 ≤ nl ∧ nl ≤ 16 ∧ canE l sn ss = 0
instance {nl : Nat} {l : List PairV} {sn ss : Nat} : Decidable (mayK nl l sn ss) := inferInstanceAs (Decidable (_ ∧ _))
def headB (name : List UInt8) (l : List PairV) (sn ss : List UInt8) : List UInt8 := UInt8.ofNat name.length :: (name ++ (UInt8.ofNat l.length :: (codsB l ++ (sn ++ ss))))
theorem headB_len (name : List UInt8) (l : List PairV) (sn ss : List UInt8) : (headB name l sn ss).length = 2 + name.length + 8 * l.length + sn.length + ss.length := by simp [headB, codsB_len]; omega
def hdN (h : List UInt8) : Nat := (h.getD 0 0).toNat
def hdM (h : List UInt8) : Nat := (h.getD (1 + hdN h) 0).toNat
def codesL (bs : List UInt8) : Nat → List PairV
 | 0 => []
 | k + 1 => codesL bs k ++ [pairC (bs.drop (8 * k))]
theorem codesL_len (bs : List UInt8) : ∀ k, (codesL bs k).length = k
 | 0 => rfl
 | k + 1 => by rw [codesL, List.length_append, codesL_len bs k]; rfl
def okLen (h : List UInt8) : Prop := 1 ≤ h.length ∧ 2 + hdN h ≤ h.length ∧ 2 + hdN h + 8 * hdM h + 16 ≤ h.length
instance {h : List UInt8} : Decidable (okLen h) := inferInstanceAs (Decidable (_ ∧ _))
def nameH (h : List UInt8) : List UInt8 := (h.drop 1).take (hdN h)
def lH (h : List UInt8) : List PairV := codesL (h.drop (2 + hdN h)) (hdM h)
def snH (h : List UInt8) : List UInt8 := (h.drop (2 + hdN h + 8 * hdM h)).take 16
def ssH (h : List UInt8) : List UInt8 := h.drop (2 + hdN h + 8 * hdM h + 16)
def goodH (h : List UInt8) : Prop := okLen h ∧ mayK (nameH h).length (lH h) (snH h).length (ssH h).length
instance {h : List UInt8} : Decidable (goodH h) := inferInstanceAs (Decidable (_ ∧ _))
theorem nameH_len {h : List UInt8} (ok : okLen h) : (nameH h).length = hdN h := by
 have := ok.2.1
 rw [nameH, List.length_take, List.length_drop]; omega
theorem codB_pair {bs : List UInt8} (h : 8 ≤ bs.length) : codB (pairC bs) = bs.take 8 := by
 rw [codB, pairC, putB_get4 (by rw [List.length_take]; omega), putB_get4 (by rw [List.length_take, List.length_drop]; omega), ← List.take_add]
theorem codsB_codes {bs : List UInt8} : ∀ k, 8 * k ≤ bs.length → codsB (codesL bs k) = bs.take (8 * k)
 | 0, _ => rfl
 | k + 1, h => by
  rw [codesL, codsB_snoc, codsB_codes k (by omega), codB_pair (by rw [List.length_drop]; omega), ← List.take_add]; rfl
theorem cons_drop {h : List UInt8} {i : Nat} (hi : i < h.length) : h.drop i = h.getD i 0 :: h.drop (i + 1) := by
 rw [List.drop_eq_getElem_cons hi]; congr 1; rw [List.getD_eq_getElem?_getD, List.getElem?_eq_getElem hi]; rfl
theorem headB_parse {h : List UInt8} (ok : okLen h) : headB (nameH h) (lH h) (snH h) (ssH h) = h := by
 obtain ⟨h1, h2, h3⟩ := ok
 have e1 : UInt8.ofNat (nameH h).length = h.getD 0 0 := by rw [nameH_len ⟨h1, h2, h3⟩, hdN]; simp
 have e2 : UInt8.ofNat (lH h).length = h.getD (1 + hdN h) 0 := by rw [lH, codesL_len, hdM]; simp
 have e3 : codsB (lH h) = (h.drop (2 + hdN h)).take (8 * hdM h) := codsB_codes _ (by rw [List.length_drop]; omega)
 have e4 : snH h ++ ssH h = h.drop (2 + hdN h + 8 * hdM h) := by rw [snH, ssH, ← List.drop_drop (j := 2 + hdN h + 8 * hdM h) (i := 16)]; exact List.take_append_drop _ _
 have e5 : codsB (lH h) ++ (snH h ++ ssH h) = h.drop (2 + hdN h) := by rw [e3, e4, ← List.drop_drop (j := 2 + hdN h) (i := 8 * hdM h)]; exact List.take_append_drop _ _
 rw [headB, e1, e2, e5, show 2 + hdN h = (1 + hdN h) + 1 by omega, ← cons_drop (by omega), ← List.drop_drop, nameH, List.take_append_drop]
 have := cons_drop (h := h) (i := 0) (by omega)
 rw [List.drop_zero] at this
 exact this.symm
theorem pairC_cod (p : PairV) (X : List UInt8) : pairC (codB p ++ X) = p := by
 have h4 : ∀ v : UInt32, UInt32.ofNat (getB (putB v.toNat 4)) = v := fun v => by
  have := v.toNat_lt
  rw [getB_put, Nat.mod_eq_of_lt (by omega)]; simp
 have e1 : (codB p ++ X).take 4 = putB p.t.toNat 4 := by rw [codB, List.append_assoc, List.take_append_of_le_length (by rw [putB_length]; omega), List.take_of_length_le (by rw [putB_length]; omega)]
 have e2 : ((codB p ++ X).drop 4).take 4 = putB p.o.toNat 4 := by
  rw [codB, List.append_assoc, List.drop_append, List.drop_of_length_le (by rw [putB_length]; omega), putB_length]
  show (putB p.o.toNat 4 ++ X).take 4 = _
  rw [List.take_append_of_le_length (by rw [putB_length]; omega), List.take_of_length_le (by rw [putB_length]; omega)]
 rw [pairC, e1, e2, h4, h4]
theorem codes_cods (X : List UInt8) (l : List PairV) : ∀ k, k ≤ l.length → codesL (codsB l ++ X) k = l.take k
 | 0, _ => rfl
 | k + 1, h => by
  have e : l = l.take k ++ l[k] :: l.drop (k + 1) := by rw [← List.drop_eq_getElem_cons (by omega), List.take_append_drop]
  have e2 : (codsB l ++ X).drop (8 * k) = codB l[k] ++ (codsB (l.drop (k + 1)) ++ X) := by
   have : codsB l = codsB (l.take k) ++ (codB l[k] ++ codsB (l.drop (k + 1))) := by
    conv => lhs; rw [e]
    simp only [codsB, List.flatMap_append, List.flatMap_cons]
   rw [this, List.append_assoc, List.drop_append, List.drop_of_length_le (by rw [codsB_len, List.length_take]; omega), codsB_len, List.length_take, List.append_assoc, show 8 * k - 8 * min k l.length = 0 by omega]; rfl
  rw [codesL, codes_cods X l k (by omega), e2, pairC_cod, List.take_add_one, List.getElem?_eq_getElem (by omega)]; rfl
theorem mayK_facts {nl : Nat} {l : List PairV} {sn ss : Nat} (h : mayK nl l sn ss) : 1 ≤ l.length ∧ l.length ≤ 8 ∧ sn = 16 ∧ ss ≤ 32 ∧ okL l := by
 obtain ⟨_, _, h3⟩ := h
 obtain ⟨h4, h5⟩ := canE_zero h3
 obtain ⟨k1, k2, k3, k4⟩ := okL_get h4 (i := 0) (by have := h4.1.1; omega)
 have h6 := (h5 _ k2).2
 obtain ⟨n, w, p, H, hx⟩ := okP_facts k1
 have := h6.2.2
 have h32 := hx.o.n32
 have hn := hx.o.hn
 exact ⟨h4.1.1, h4.1.2, h6.2.1, by omega, h4⟩
section
variable {name : List UInt8} {l : List PairV} {sn ss : List UInt8}
theorem headB_hd (hn : name.length < 256) (hl : l.length < 256) : hdN (headB name l sn ss) = name.length ∧ hdM (headB name l sn ss) = l.length := by
 have h1 : hdN (headB name l sn ss) = name.length := by
  show (UInt8.ofNat name.length).toNat = _
  rw [UInt8.toNat_ofNat', Nat.mod_eq_of_lt hn]
 refine ⟨h1, ?_⟩
 rw [hdM, h1, headB, Nat.add_comm, List.getD_cons_succ, List.getD_eq_getElem?_getD, List.getElem?_append_right (Nat.le_refl _), Nat.sub_self]
 show (UInt8.ofNat l.length).toNat = _
 rw [UInt8.toNat_ofNat', Nat.mod_eq_of_lt hl]
theorem parse_headB (h : mayK name.length l sn.length ss.length) : goodH (headB name l sn ss) ∧ nameH (headB name l sn ss) = name ∧ lH (headB name l sn ss) = l ∧ snH (headB name l sn ss) = sn ∧ ssH (headB name l sn ss) = ss := by
 obtain ⟨h1, h2, h3, h4, h5⟩ := mayK_facts h
 have h6 := h.2.1
 obtain ⟨e1, e2⟩ := headB_hd (name := name) (l := l) (sn := sn) (ss := ss) (by omega) (by omega)
 have hlen := headB_len name l sn ss
 have d1 : (headB name l sn ss).drop (2 + name.length) = codsB l ++ (sn ++ ss) := by
  rw [show 2 + name.length = 1 + (name.length + 1) by omega, ← List.drop_drop, headB]
  show (name ++ (UInt8.ofNat l.length :: (codsB l ++ (sn ++ ss)))).drop (name.length + 1) = _
  rw [← List.drop_drop, List.drop_left]; rfl
 have d2 : (headB name l sn ss).drop (2 + name.length + 8 * l.length) = sn ++ ss := by rw [← List.drop_drop, d1, ← codsB_len, List.drop_left]
 have k1 : nameH (headB name l sn ss) = name := by
  rw [nameH, e1, headB]
  show (name ++ _).take name.length = _
  rw [List.take_left]
 have k2 : lH (headB name l sn ss) = l := by rw [lH, e1, e2, d1, codes_cods _ l _ (Nat.le_refl _), List.take_of_length_le (Nat.le_refl _)]
 have k3 : snH (headB name l sn ss) = sn := by rw [snH, e1, e2, d2, ← h3, List.take_left]
 have k4 : ssH (headB name l sn ss) = ss := by rw [ssH, e1, e2, ← List.drop_drop, d2, ← h3, List.drop_left]
 exact ⟨⟨⟨by omega, by rw [e1]; omega, by rw [e1, e2]; omega⟩, by rw [k1, k2, k3, k4]; exact h⟩, k1, k2, k3, k4⟩
end
structure LmG (M : Mem) : Prop where
 ch : ChG M
 tr : SetT M
theorem LmG.mono {M M' : Mem} (h : LmG M) (hle : Le M M') : LmG M' := ⟨h.ch.mono hle, h.tr.mono hle⟩
theorem LmG.hs {M : Mem} (h : LmG M) : HsG M := ⟨h.ch.set, h.tr⟩
theorem LmG.mr {M : Mem} (h : LmG M) : MrG M := ⟨h.ch.sha, h.ch.kec, h.tr⟩
section
variable {G : World} {M : Mem} {L : Own}
theorem caughtB1_ret {b c : Nat} {x : Int} {cs : List Value} : ConD Tryz.prog 166 #[.pointer (some ⟨b, 0, none⟩), .pointer (some ⟨c, 0, none⟩)] .returning G M ((c, .cells #[.int .i64 x] 25 (0, 0)) :: (b, .cells cs.toArray 22 (0, 0)) :: L) (fun u' M' L' => u' = .returning ∧ M' = M ∧ L' = (c, .cells #[.int .i64 x] 25 (0, 0)) :: (b, .cells cs.toArray 22 (0, 0)) :: L) := by
 refine enterRec (args := [_, _]) (fn := Tryz.f166) ⟨Tryz.func166, rfl, by kernel_rfl, by kernel_rfl⟩ 15 rfl rfl <| x_block <| zr <| tl_y rfl (y_eqNilIface rfl rfl) <| zq <| x_true rfl (rfl) <| x_region <| as0 rfl <| tl_nil (.block_normal (.rec_normal lR ⟨rfl, rfl, rfl⟩))
theorem caughtB1_wrong {b c : Nat} {x e : Int} : ConD Tryz.prog 166 #[.pointer (some ⟨b, 0, none⟩), .pointer (some ⟨c, 0, none⟩)] (.panicking (lwrong e)) G M ((c, .cells #[.int .i64 x] 25 (0, 0)) :: (b, .cells #[.slice none 0 0] 22 (0, 0)) :: L)
  (fun u' M' L' => u' = .panicking [{ v := lwrongv e, recovered := true }] ∧ M' = M ∧ L' = (c, .cells #[.int .i64 e] 25 (0, 0)) :: (b, .cells #[.slice none 0 0] 22 (0, 0)) :: L) := by
 refine enterRec (args := [_, _]) (fn := Tryz.f166) ⟨Tryz.func166, rfl, by kernel_rfl, by kernel_rfl⟩ 15 rfl rfl <| x_block <| zr <| tl_y rfl (y_eqIfaceNil rfl rfl) <| zq <| x_false rfl (rfl) <| zr <| tl_y rfl (y_assertOk rfl (by intro _ h; cases h)) <| zx rfl <| zx rfl <| zq <| x_true rfl (rfl) <| zr <| tl_e rfl <| e_alloc <| fun b7 => tl_e rfl <| e_sT rfl rfl <| zq <| .s3 0 1 3 rfl rfl rfl <| zr <| as0 rfl <| zq <| x_draw0 4 ((b7, .cells #[.int .i64 e] 248 (0, 0)) :: []) Keeps.mem hmix rfl ?_
 refine pmS 0 rfl rfl <| pFa 1 rfl rfl <| pLd 2 rfl rfl rfl <| ze 3 rfl rfl <| e_sT rfl rfl <| kp ?_
 refine zt 4 rfl rfl <| e_sT rfl rfl <| zz (.block_normal (.dropTo ((c, .cells #[.int .i64 e] 25 (0, 0)) :: (b, .cells #[.slice none 0 0] 22 (0, 0)) :: L) iI (.rec_normal lR ⟨rfl, rfl, rfl⟩)))
theorem caughtB_spec {wf : FuncId} {first cap : List Value} {K : Option Addr → Nat → Nat → Mem → Prop} {Kp : Int → Prop}
  (hw : ∀ p q, Con Tryz.prog wf (first ++ [] ++ cap).toArray G M (p :: q :: L) (fun v M' L' => L' = p :: q :: L ∧ ∃ A n c, v = .slice A n c ∧ K A n c M') (fun ch M' L' => L' = p :: q :: L ∧ ∃ e, Kp e ∧ ch = lwrong e)) :
  Con Tryz.prog 124 #[.func (.func wf) first.toArray cap.toArray] G M L (fun v M' L' => L' = L ∧ ((∃ A n c, v = .tuple #[.slice A n c, .int .i64 0] ∧ K A n c M') ∨ (∃ e, v = .tuple #[.slice none 0 0, .int .i64 e] ∧ Kp e))) noPanic := by
 refine enterD (args := [_]) (fn := Tryz.f124) ⟨Tryz.func124, rfl, by kernel_rfl, by kernel_rfl⟩ 7 rfl <| zr <| tl_e rfl <| e_alloc <| fun b1 => tl_e rfl <| e_alloc <| fun b2 => zq <| zr <| tl_y rfl (y_makeFunc rfl rfl) <| tl_e rfl <| e_defer rfl rfl rfl <| zq <| zr <| mvF rfl <| tl_e rfl (e_callv rfl rfl (hw _ _) (by
  rintro _ M1 _ hM1 ⟨rfl, e, hr, rfl⟩
  refine .retD (cap := [_, _]) (args := []) caughtB1_wrong ?_
  rintro _ M2 _ hM2 ⟨rfl, rfl, rfl⟩
  exact .inl ⟨rfl, _, L, rv2 rfl (rc_cell (by rfl) rfl (.own iI iI)) (rc_cell (by rfl) rfl (.own iI iI)), iI, hM1, rfl, .inr ⟨e, rfl, hr⟩⟩) ?_)
 rintro _ M1 _ hM1 ⟨rfl, A, n, c, rfl, hk⟩
 refine tl_e rfl <| e_sT rfl rfl <| tl_e rfl <| e_sT rfl rfl <| zq <| .s2 2 3 rfl rfl <| x_ret <| .retD (cap := [_, _]) (args := []) (caughtB1_ret (cs := [.slice A n c])) ?_
 rintro _ M2 _ hM2 ⟨rfl, rfl, rfl⟩
 exact .inl ⟨rfl, _, L, rv2 rfl (rc_cell (by rfl) rfl (.own iI iI)) (rc_cell (by rfl) rfl (.own iI iI)), iI, hM1, rfl, .inl ⟨A, n, c, rfl, hk⟩⟩
theorem caughtX1_ret {b c : Nat} {x : Int} {cs : List Value} : ConD Tryz.prog 217 #[.pointer (some ⟨b, 0, none⟩), .pointer (some ⟨c, 0, none⟩)] .returning G M ((c, .cells #[.int .i64 x] 25 (0, 0)) :: (b, .cells cs.toArray 63 (0, 0)) :: L) (fun u' M' L' => u' = .returning ∧ M' = M ∧ L' = (c, .cells #[.int .i64 x] 25 (0, 0)) :: (b, .cells cs.toArray 63 (0, 0)) :: L) := by
 refine enterRec (args := [_, _]) (fn := Tryz.f217) ⟨Tryz.func217, rfl, by kernel_rfl, by kernel_rfl⟩ 15 rfl rfl <| x_block <| zr <| tl_y rfl (y_eqNilIface rfl rfl) <| zq <| x_true rfl (rfl) <| x_region <| as0 rfl <| tl_nil (.block_normal (.rec_normal lR ⟨rfl, rfl, rfl⟩))
theorem caughtX1_wrong {b c : Nat} {x e : Int} : ConD Tryz.prog 217 #[.pointer (some ⟨b, 0, none⟩), .pointer (some ⟨c, 0, none⟩)] (.panicking (lwrong e)) G M ((c, .cells #[.int .i64 x] 25 (0, 0)) :: (b, .cells #[.int .u32 0, .int .u32 0] 63 (0, 0)) :: L)
  (fun u' M' L' => u' = .panicking [{ v := lwrongv e, recovered := true }] ∧ M' = M ∧ L' = (c, .cells #[.int .i64 e] 25 (0, 0)) :: (b, .cells #[.int .u32 0, .int .u32 0] 63 (0, 0)) :: L) := by
 refine enterRec (args := [_, _]) (fn := Tryz.f217) ⟨Tryz.func217, rfl, by kernel_rfl, by kernel_rfl⟩ 15 rfl rfl <| x_block <| zr <| tl_y rfl (y_eqIfaceNil rfl rfl) <| zq <| x_false rfl (rfl) <| zr <| tl_y rfl (y_assertOk rfl (by intro _ h; cases h)) <| zx rfl <| zx rfl <| zq <| x_true rfl (rfl) <| zr <| tl_e rfl <| e_alloc <| fun b7 => tl_e rfl <| e_sT rfl rfl <| zq <| .s3 0 1 3 rfl rfl rfl <| zr <| tl_e rfl <| e_alloc <| fun b8 => zq <| x_draw0 4 ((b7, .cells #[.int .i64 e] 248 (0, 0)) :: (b8, .cells #[.int .u32 0, .int .u32 0] 63 (0, 0)) :: []) Keeps.mem hmix rfl ?_
 refine zy 0 rfl rfl (y_lg rfl rfl) <| pFa 1 rfl rfl <| pLd 2 rfl rfl rfl <| ze 3 rfl rfl <| e_sT rfl rfl <| kp ?_
 refine zt 4 rfl rfl <| e_sT rfl rfl <| zz (.block_normal (.dropTo ((c, .cells #[.int .i64 e] 25 (0, 0)) :: (b, .cells #[.int .u32 0, .int .u32 0] 63 (0, 0)) :: L) iI (.rec_normal lR ⟨rfl, rfl, rfl⟩)))
theorem caughtX_spec {wf : FuncId} {first cap : List Value} {K : PairV → Mem → Prop} {Kp : Int → Prop}
  (hw : ∀ p q, Con Tryz.prog wf (first ++ [] ++ cap).toArray G M (p :: q :: L) (fun v M' L' => L' = p :: q :: L ∧ ∃ x, v = .agg (List.toArray (PairV.cells x)) ∧ K x M') (fun ch M' L' => L' = p :: q :: L ∧ ∃ e, Kp e ∧ ch = lwrong e)) :
  Con Tryz.prog 167 #[.func (.func wf) first.toArray cap.toArray] G M L (fun v M' L' => L' = L ∧ ((∃ x, v = .tuple #[.agg (List.toArray (PairV.cells x)), .int .i64 0] ∧ K x M') ∨ (∃ e, v = .tuple #[.agg #[.int .u32 0, .int .u32 0], .int .i64 e] ∧ Kp e))) noPanic := by
 refine enterD (args := [_]) (fn := Tryz.f167) ⟨Tryz.func167, rfl, by kernel_rfl, by kernel_rfl⟩ 7 rfl <| zr <| tl_e rfl <| e_alloc <| fun b1 => tl_e rfl <| e_alloc <| fun b2 => zq <| zr <| tl_y rfl (y_makeFunc rfl rfl) <| tl_e rfl <| e_defer rfl rfl rfl <| zq <| zr <| mvF rfl <| tl_e rfl (e_callv rfl rfl (hw _ _) (by
  rintro _ M1 _ hM1 ⟨rfl, e, hr, rfl⟩
  refine .retD (cap := [_, _]) (args := []) caughtX1_wrong ?_
  rintro _ M2 _ hM2 ⟨rfl, rfl, rfl⟩
  exact .inl ⟨rfl, _, L, rv2 rfl (rc_cellAgg (by rfl) rfl (.own iI iI)) (rc_cell (by rfl) rfl (.own iI iI)), iI, hM1, rfl, .inr ⟨e, rfl, hr⟩⟩) ?_)
 rintro _ M1 _ hM1 ⟨rfl, x, rfl, hk⟩
 refine tl_e rfl <| e_sT rfl rfl <| tl_e rfl <| e_sT rfl rfl <| zq <| .s2 2 3 rfl rfl <| x_ret <| .retD (cap := [_, _]) (args := []) (caughtX1_ret (cs := PairV.cells x)) ?_
 rintro _ M2 _ hM2 ⟨rfl, rfl, rfl⟩
 exact .inl ⟨rfl, _, L, rv2 rfl (rc_cellAgg (by rfl) rfl (.own iI iI)) (rc_cell (by rfl) rfl (.own iI iI)), iI, hM1, rfl, .inl ⟨x, rfl, hk⟩⟩
theorem lcode_spec (c : UInt32) :
  Con Tryz.prog 151 #[.int .u32 (c.toNat : Int)] G M L (fun v M' L' => L = L' ∧ ∃ A k, v = .slice A 4 k ∧ Bytes M' A 4 k (putB c.toNat 4)) noPanic := by
 have hc := c.toNat_lt
 refine zfn Tryz.func151 rfl 6 rfl <| zr <| as0 rfl <| zq <| zr <| mvI rfl <| tl_y rfl (y_convN64 rfl (by omega)) ?_
 refine zca rfl (PutV_spec c.toNat 4 (by omega) (by omega)) ?_
 rintro _ M1 _ hM1 ⟨rfl, A, k, rfl, hA⟩
 refine asS rfl <| zq <| .s1 2 rfl <| x_ret (ret1 rfl rfl hM1 ⟨rfl, A, k, rfl, hA⟩)
theorem lsize_spec {x : PairV} {n w p H : Nat} (hx : PF x n w p H) :
  Con Tryz.prog 214 #[.agg (List.toArray (pcells (otsV x.o) (treeV x.t)))] G M L (fun v M' L' => M = M' ∧ L = L' ∧ v = .int .i64 ((sigN x : Nat) : Int)) noPanic := by
 obtain ⟨z1, z2, z3, z4, z5⟩ := hx.sizes
 have hm : (n : Int) * (H : Int) = ((n * H : Nat) : Int) := by push_cast; rfl
 refine zfn Tryz.func214 rfl 15 rfl <| zr <| tl_e rfl <| e_box rfl <| fun b1 => as0 rfl <| zq <| x_seq <| x_draw 13 hmix rfl <| pFa 0 rfl rfl <| zy 1 rfl rfl (y_lg rfl rfl) <| pFa 4 rfl rfl ?_
 refine pFa 5 rfl rfl <| zy 6 rfl rfl (y_load (v := .int .i64 (n : Int)) rfl rfl (by rw [← hx.tn]; exact .own iI iI)) <| pFa 7 rfl rfl <| pFa 8 rfl rfl <| zy 9 rfl rfl (y_load (v := .int .i64 (H : Int)) rfl rfl (by rw [← hx.th]; exact .own iI iI)) <| zp 10 rfl rfl (y_mulI rfl rfl (by rw [hm]; omega)) ?_
 rw [hm]
 refine ze 2 rfl rfl <| e_call' rfl (oSize_spec (otsV x.o) hx.o) ?_
 rintro _ _ _ _ ⟨rfl, rfl, rfl⟩
 refine kp ?_
 refine zp 3 rfl rfl (y_addI rfl rfl (by omega)) <| zp 11 rfl rfl (y_addI rfl rfl (by omega)) <| paI 12 rfl rfl <| zz <| .then_normal <| .s1 2 rfl <| x_ret (.dropTo L iI (ret1 rfl rfl lR ⟨rfl, rfl, by rw [z2]; congr 1⟩))
theorem made_spec (hg : LmG M) (x : PairV) {NA SA : Option Addr} {nl nc sl sc : Nat} :
  Con Tryz.prog 150 #[.agg (List.toArray x.cells), .agg (List.toArray (seedC NA nl nc SA sl sc))] G M L (fun v M' L' => L' = L ∧ mayC x nl sl = 0 ∧ v = .agg (List.toArray (pcells (otsV x.o) (treeV x.t)))) (fun ch M' L' => L' = L ∧ mayC x nl sl ≠ 0 ∧ ch = lwrong (mayC x nl sl)) := by
 refine zfn Tryz.func150 rfl 20 rfl <| zr <| tl_e rfl <| e_box rfl <| fun b1 => tl_e rfl <| e_box rfl <| fun b2 => tl_e rfl <| e_alloc <| fun b3 => zq <| zr <| tLg rfl rfl <| tl_e rfl (e_call rfl (of_spec hg.hs x) (by
  rintro _ M1 _ hM1 ⟨rfl, hno, rfl⟩
  have e : mayC x nl sl = 4 := by rw [mayC, if_pos hno]
  exact TP.dropTo L iI (.retA rfl hM1 ⟨rfl, by rw [e]; decide, by rw [e]⟩)) ?_)
 rintro _ M1 _ hM1 ⟨rfl, hok, rfl⟩
 have hm := hM1
 refine tl_e rfl <| e_alloc <| fun b4 => tl_e rfl <| e_sT rfl rfl <| zq <| .s3 3 4 5 rfl rfl rfl <| zr <| tFa rfl <| tFa rfl <| tLd rfl rfl <| tl_y rfl (y_leq rfl rfl) <| mvB rfl <| tl_cases (s := 12) rfl (fun hk1 => ?_) (fun hk1 => ?_)
 ·
  refine tFa rfl <| tLg rfl rfl <| tLg rfl rfl <| zca rfl (oMay_spec (hg.mono hm).ch.set (otsV x.o)) ?_
  rintro _ M2 _ hM2 ⟨rfl, rfl⟩
  replace hm := hm.trans hM2
  refine tPt rfl rfl <| tl_e rfl (e_call rfl (lmust_spec _ _) (by
   rintro _ _ _ _ ⟨rfl, rfl, ht, rfl⟩
   have e : mayC x nl sl = 1 := by rw [mayC, if_neg (fun h => h hok), if_pos (.inr (by simpa using ht))]
   exact TP.dropTo L iI (.retA rfl hm ⟨rfl, by rw [e]; decide, by rw [e]⟩)) ?_)
  rintro _ _ _ _ ⟨rfl, rfl, ht⟩
  refine zq <| .s2 4 5 rfl rfl <| zr <| tLg rfl rfl <| tl_e rfl <| e_sT rfl rfl <| zq <| x_ret (retRV (L' := L) (rv1 rfl (rc_cellAgg (by rfl) rfl (.own iI iI))) iI hm ⟨rfl, mayC_ok hok (by simpa using hk1) (by simpa using ht), rfl⟩)
 refine sk4 rfl rfl rfl rfl <| tPf rfl rfl <| tl_e rfl (e_call rfl (lmust_spec _ _) (by
  rintro _ _ _ _ ⟨rfl, rfl, ht, rfl⟩
  have e : mayC x nl sl = 1 := by rw [mayC, if_neg (fun h => h hok), if_pos (.inl (by omega))]
  exact TP.dropTo L iI (.retA rfl hm ⟨rfl, by rw [e]; decide, by rw [e]⟩)) ?_)
 rintro _ _ _ _ ⟨rfl, rfl, ht⟩
 refine zq <| .s2 4 5 rfl rfl <| zr <| tLg rfl rfl <| tl_e rfl <| e_sT rfl rfl <| zq <| x_ret (absurd ht (by simp))
theorem Sizes1_spec (hg : LmG M) (x : PairV) {b : Nat} [hb : Has L b (.cells (List.toArray x.cells) 63 (0, 0))] :
  Con Tryz.prog 213 #[.pointer (some ⟨b, 0, none⟩)] G M L (fun v M' L' => L' = L ∧ ∃ (o : OtsV) (t : TreeV), v = .agg (List.toArray (pcells o t)) ∧ okP x ∧ o = otsV x.o ∧ t = treeV x.t) (fun ch M' L' => L' = L ∧ ∃ e, (¬ okP x ∧ e = 4) ∧ ch = lwrong e) := by
 refine zfn Tryz.func213 rfl 4 rfl <| zr <| tl_e rfl <| e_alloc <| fun b1 => zq <| zr <| tLg rfl rfl <| tl_e rfl (e_call rfl (of_spec hg.hs x) (by
  rintro _ M1 _ hM1 ⟨rfl, hno, rfl⟩
  exact TP.dropTo L iI (.retA rfl hM1 ⟨rfl, 4, ⟨hno, rfl⟩, rfl⟩)) ?_)
 rintro _ M1 _ hM1 ⟨rfl, hok, rfl⟩
 refine tl_e rfl <| e_sT rfl rfl <| zq <| x_ret (retRV (L' := L) (rv1 rfl (rc_cellAgg (by rfl) rfl (.own iI iI))) iI hM1 ⟨rfl, _, _, rfl, hok, rfl, rfl⟩)
theorem Sizes_spec (hg : LmG M) (x : PairV) :
  Con Tryz.prog 164 #[.agg (List.toArray x.cells)] G M L (fun v M' L' => L' = L ∧ v = .tuple #[.int .i64 ((szP x : Nat) : Int), .int .i64 ((szS x : Nat) : Int)]) noPanic := by
 refine zfn Tryz.func164 rfl 19 rfl <| zr <| tl_e rfl <| e_box rfl <| fun b1 => as0 rfl <| as0 rfl <| zq <| zr <| tl_y rfl (y_makeFunc rfl rfl) <| zca rfl (caughtP_spec (K := fun o t _ => okP x ∧ o = otsV x.o ∧ t = treeV x.t) (Kp := fun e => ¬ okP x ∧ e = 4) (first := []) (cap := [.pointer (some ⟨b1, 0, none⟩)]) (fun p' q' => Sizes1_spec hg x)) ?_
 rintro v M1 _ hM1 ⟨rfl, hv⟩
 obtain ⟨o, t, e, rfl, he, hot⟩ : ∃ (o : OtsV) (t : TreeV) (e : Int), v = .tuple #[.agg (List.toArray (pcells o t)), .int .i64 e] ∧ (e = 0 ↔ okP x) ∧ (okP x → o = otsV x.o ∧ t = treeV x.t) := by
  rcases hv with ⟨o, t, rfl, hok, h1, h2⟩ | ⟨e, rfl, hno, rfl⟩
  ·
   exact ⟨o, t, 0, rfl, iff_of_true rfl hok, fun _ => ⟨h1, h2⟩⟩
  exact ⟨ots0, tree0, 4, rfl, iff_of_false (by decide) hno, fun h => absurd h hno⟩
 refine mvU rfl <| zx rfl <| zx rfl <| tl_e rfl <| e_alloc <| fun b2 => tl_e rfl <| e_sT rfl rfl <| asI rfl <| zq <| .s2 4 5 rfl rfl <| zr2 <| mvI rfl <| tl_y rfl (y_neq rfl rfl) <| zq <| x_cond rfl (fun hc1 => ?_) (fun hc1 => ?_)
 ·
  refine zr <| as0 rfl <| as0 rfl <| zq <| .s2 2 3 rfl rfl <| x_ret (.then_ret (.dropTo L iI (ret2 rfl rfl rfl hM1 ⟨rfl, by rw [szP, szS, if_neg (fun h => hc1 (he.2 h)), if_neg (fun h => hc1 (he.2 h))]; rfl⟩)))
 have hok : okP x := he.1 (Classical.not_not.1 hc1)
 obtain ⟨rfl, rfl⟩ := hot hok
 obtain ⟨n, w, p, H, hx⟩ := okP_facts hok
 obtain ⟨z1, z2, z3, z4, z5⟩ := hx.sizes
 have hn32 := hx.o.n32
 refine x_skip <| .then_normal <| x_seq <| x_draw 8 hmix rfl <| pFa 0 rfl rfl <| pFa 1 rfl rfl <| zy 2 rfl rfl (y_load (v := .int .i64 (n : Int)) rfl rfl (by rw [← hx.tn]; exact .own iI iI)) <| zp 3 rfl rfl (y_addI rfl rfl (by omega)) <| zy 4 rfl rfl (y_lg rfl rfl) ?_
 refine ze 5 rfl rfl <| e_call' rfl (lsize_spec hx) ?_
 rintro _ _ _ _ ⟨rfl, rfl, rfl⟩
 refine kp ?_
 refine paI 6 rfl rfl <| paI 7 rfl rfl <| zz <| .then_normal <| .s2 2 3 rfl rfl <| x_ret (.dropTo L iI (ret2 rfl rfl rfl hM1 ⟨rfl, by rw [szP, szS, if_pos hok, if_pos hok, z1]; congr 4⟩))
end
section
variable {G : World} {M : Mem} {L : Own} {NA SA TA : Option Addr} {nl nc sl sc tl tc : Nat} {name sec text : List UInt8}
theorem range_snoc {α : Type} (rows : Nat → α) (k : Nat) : (List.range (k + 1)).map rows = (List.range k).map rows ++ [rows k] := by rw [List.range_succ, List.map_append]; rfl
theorem each_lspec {n : Nat} (hn : n ≤ 33554432) {fid : FuncId} {cap : List Value} {rows : Nat → List UInt8} (hl : ∀ i, (rows i).length ≤ 32)
  (hdo : ∀ (z : UInt32) (i : Nat) (M1 : Mem) (X : Own), z.toNat = i → i < n → Le M M1 → (∀ e ∈ L, e ∈ X) → Con Tryz.prog fid (([] : List Value) ++ [Value.int .u32 (i : Int)] ++ cap).toArray G M1 X (fun v M' L' => X = L' ∧ ∃ A m c, v = .slice A m c ∧ Bytes M' A m c (rows i)) noPanic) :
  Con Tryz.prog 195 #[.int .u64 (n : Int), .func (.func fid) #[] cap.toArray] G M L (fun v M' L' => L = L' ∧ ∃ A c vs, v = .slice A n c ∧ Row M' 1 A n c vs ∧ BRows M' vs ((List.range n).map rows)) noPanic := by
 refine zfn Tryz.func195 rfl 22 rfl <| zr <| as0 rfl <| zq <| zr <| mvI rfl <| tl_e rfl <| e_make1 rfl rfl (by omega) (by omega) (by omega) (by omega) <| fun b1 => asS rfl <| zq <| zr2 <| mvI rfl <| mv0 rfl <| zq <| .s4 1 5 9 10 rfl rfl rfl rfl <| x_block ?_
 refine x_loop (I := fun m' F D M1 L1 => ∃ (i : Nat) (A : Option Addr) (c : Nat) (E : Own) (vs : List Value), m' = n - i ∧ i ≤ n ∧ Le M M1 ∧ OwnRow 22 1 A i c vs E ∧ BRows M1 vs ((List.range i).map rows) ∧ D = [] ∧ L1 = E ++ L ∧ F = [(1, .func (.func fid) #[] cap.toArray), (5, .slice A i c), (9, .int .u64 (n : Int)), (10, .int .u64 (i : Int))]) (n) (F0 := [(1, _), (5, _), (9, _), (10, _)]) ?_ (cs4 rfl rfl rfl rfl) ?_
 ·
  exact ⟨0, _, _, _, [], rfl, by omega, Le.refl _, OwnRow.made0 (n := n) (by simp) (by omega), .nil, rfl, rfl, rfl⟩
 rintro m _ _ M1 _ ⟨i, A, c, E, vs, rfl, hi, hM1, hE, hB, rfl, rfl, rfl⟩
 refine zr <| tl_y rfl (y_lss rfl rfl) <| zq <| x_seq <| x_cond rfl (fun hc1 => ?_) (fun hc1 => ?_)
 ·
  have hip : i < n := by omega
  obtain ⟨z, hz⟩ : ∃ z : UInt32, z.toNat = i := ⟨UInt32.ofNat i, by rw [UInt32.toNat_ofNat', Nat.mod_eq_of_lt (by omega)]⟩
  refine x_skip <| .then_normal <| x_seq <| x_block <| zr <| mvI rfl <| asI rfl <| zq <| x_region <| mvS rfl <| mvF rfl <| mvI rfl <| tl_y rfl (y_convN32 rfl (by omega)) ?_
  refine tl_e rfl <| e_callv rfl rfl (hdo z i M1 _ hz hip hM1 Keeps.mem) (fun _ _ _ _ h => h.elim) ?_
  rintro _ M2 _ hM2 ⟨rfl, A2, m2, c2, rfl, hA2⟩
  refine tl_e rfl <| e_buildSlice rfl (by decide) <| fun b2 => .pub b2 iI <| fun M3 hM3 hb3 => tl_e rfl <| e_append (by decide) rfl rfl hE (.row (Row.whole (s := 1) hb3 rfl (by omega))) rfl (by omega) (by omega) <| fun A7 c7 E7 hE7 => asS rfl <| tl_nil <| .block_normal <| .then_normal <| .s4 1 5 9 10 rfl rfl rfl rfl <| x_region <| tl_y rfl (y_addN64 rfl rfl (by omega)) <| mvI rfl <| tl_nil <| .loop_next (m' := n - (i + 1)) (by omega) (F' := [(1, _), (5, _), (9, _), (10, _)]) (cs4 rfl rfl rfl rfl) ?_
  exact ⟨i + 1, A7, c7, E7, _, rfl, by omega, hM1.trans (hM2.trans hM3), hE7, by rw [range_snoc]; exact (hB.mono (hM2.trans hM3)).snoc (hA2.mono hM3), rfl, rfl, rfl⟩
 obtain rfl : i = n := by omega
 refine .pubRow hE <| fun M4 hM4 hrow => x_exit <| .then_exit <| .loop_exit <| .block_exit <| .then_normal <| .s1 5 rfl <| zr <| mvS rfl <| asS rfl <| zq <| x_ret (ret1 rfl rfl (hM1.trans hM4) ⟨rfl, _, _, _, rfl, hrow, hB.mono hM4⟩)
theorem lkeys1_spec (hg : LmG M) (x : PairV) (hy : okY (otsV x.o) nl sl) (hname : Bytes M NA nl nc name) (hsec : Bytes M SA sl sc sec) (q : UInt32) {bx bs : Nat}
  [i1 : Has L bx (.cells (List.toArray (pcells (otsV x.o) (treeV x.t))) 202 (0, 0))] [i2 : Has L bs (.cells (List.toArray (seedC NA nl nc SA sl sc)) 33 (0, 0))] :
  Con Tryz.prog 196 #[.int .u32 (q.toNat : Int), .pointer (some ⟨bx, 0, none⟩), .pointer (some ⟨bs, 0, none⟩)] G M L (fun v M' L' => L = L' ∧ ∃ A m c, v = .slice A m c ∧ Bytes M' A m c (keyB (otsV x.o) name sec q.toNat)) noPanic := by
 refine zfn Tryz.func196 rfl 10 rfl <| zr <| as0 rfl <| zq <| zr <| tFa rfl <| tLg rfl rfl <| tLg rfl rfl <| mvI rfl <| zca rfl (oKey_spec hg.ch (otsV x.o) hname hsec q) ?_
 rintro _ M1 _ hM1 ⟨rfl, A, m, c, rfl, hA⟩
 rw [if_pos hy] at hA
 refine asS rfl <| zq <| .s1 4 rfl <| x_ret (ret1 rfl rfl hM1 ⟨rfl, _, _, _, rfl, hA⟩)
theorem lkeys_spec (hg : LmG M) {x : PairV} {n w p H : Nat} (hx : PF x n w p H) (hy : okY (otsV x.o) nl sl) (hname : Bytes M NA nl nc name) (hsec : Bytes M SA sl sc sec) :
  Con Tryz.prog 153 #[.agg (List.toArray (pcells (otsV x.o) (treeV x.t))), .agg (List.toArray (seedC NA nl nc SA sl sc))] G M L (fun v M' L' => L = L' ∧ ∃ A c vs, v = .slice A (pw2 H) c ∧ Row M' 1 A (pw2 H) c vs ∧ BRows M' vs (keysX x name sec)) noPanic := by
 have hpw := pw2_25 hx.h2
 refine zfn Tryz.func153 rfl 10 rfl <| zr <| tl_e rfl <| e_box rfl <| fun b1 => tl_e rfl <| e_box rfl <| fun b2 => as0 rfl <| zq <| zr <| tFa rfl <| tLg rfl rfl <| zca rfl (Leaves_spec (treeV x.t)) ?_
 rintro _ _ _ _ ⟨rfl, rfl, rfl⟩
 rw [hx.lv]
 refine tl_y rfl (y_makeFunc rfl rfl) <| tl_e rfl (e_call' rfl (each_lspec (rows := fun q => keyB (otsV x.o) name sec q) hpw (fun i => keyB_le _ _ _ _) (fun z i M2 X hz hi hM2 hX => by
  subst hz
  haveI i1 : Has X b1 (.cells (List.toArray (pcells (otsV x.o) (treeV x.t))) 202 (0, 0)) := ⟨hX _ (Has.mem)⟩
  haveI i2 : Has X b2 (.cells (List.toArray (seedC NA nl nc SA sl sc)) 33 (0, 0)) := ⟨hX _ (Has.mem)⟩
  exact lkeys1_spec (hg.mono hM2) x hy (hname.mono hM2) (hsec.mono hM2) z)) ?_)
 rintro _ M2 _ hM2 ⟨rfl, A2, c2, vs, rfl, hrow, hB⟩
 refine asS rfl <| zq <| .s1 4 rfl <| x_ret (.dropTo L iI (ret1 rfl rfl hM2 ⟨rfl, _, _, _, rfl, hrow, by rw [keysX, hx.lv]; exact hB⟩))
theorem Public1_lspec (hg : LmG M) (x : PairV) (hname : Bytes M NA nl nc name) (hsec : Bytes M SA sl sc sec) {bp bs : Nat}
  [i1 : Has L bp (.cells (List.toArray x.cells) 63 (0, 0))] [i2 : Has L bs (.cells (List.toArray (seedC NA nl nc SA sl sc)) 33 (0, 0))] :
  Con Tryz.prog 149 #[.pointer (some ⟨bp, 0, none⟩), .pointer (some ⟨bs, 0, none⟩)] G M L (fun v M' L' => L' = L ∧ ∃ A m c, v = .slice A m c ∧ mayC x nl sl = 0 ∧ Bytes M' A m c (pubB x name sec)) (fun ch M' L' => L' = L ∧ ∃ e, (mayC x nl sl ≠ 0 ∧ e = mayC x nl sl) ∧ ch = lwrong e) := by
 refine zfn Tryz.func149 rfl 25 rfl <| zr <| as0 rfl <| zq <| zr <| tLg rfl rfl <| tLg rfl rfl <| tl_e rfl (e_call rfl (made_spec hg x) (by
  rintro _ M1 _ hM1 ⟨rfl, hno, rfl⟩
  exact .retA rfl hM1 ⟨rfl, _, ⟨hno, rfl⟩, rfl⟩) ?_)
 rintro _ M1 L hM1 ⟨rfl, hmay, rfl⟩
 obtain ⟨hok, hH10, hy⟩ := mayC_zero hmay
 obtain ⟨n, w, p, H, hx⟩ := okP_facts hok
 have hn32 := hx.o.n32
 have hnl := hy.2.1
 have hnn := hname.size
 have hpw := pw2_25 hx.h2
 refine tl_e rfl <| e_alloc <| fun b1 => tl_e rfl <| e_sT rfl rfl <| zq <| .s3 0 1 3 rfl rfl rfl <| x_seq ?_
 have he : Le M1 M1 := Le.refl _
 have hd : Le M M1 := hM1
 refine x_draw 19 hmix rfl <| pFa 0 rfl rfl <| pLd 1 rfl rfl rfl <| pFa 3 rfl rfl <| pLd 4 rfl rfl rfl <| pFa 6 rfl rfl <| pLd 7 rfl rfl rfl <| pFa 8 rfl rfl <| zy 9 rfl rfl (y_lg rfl rfl) <| pFa 10 rfl rfl ?_
 refine pLd 11 rfl rfl rfl <| zy 12 rfl rfl (y_lg rfl rfl) <| zy 13 rfl rfl (y_lg rfl rfl) <| ze 2 rfl rfl <| e_call' rfl (lcode_spec x.t) ?_
 rintro _ M2 _ hM2 ⟨rfl, A2, c2, rfl, hA2⟩
 replace hd := hd.trans hM2
 replace he := he.trans hM2
 try replace hA3 := hA3.mono hM2
 try replace hA5 := hA5.mono hM2
 try replace hrow := hrow.mono hM2
 try replace hB := hB.mono hM2
 refine ⟨⟨he, Keeps.mem⟩, ?_⟩
 refine ze 5 rfl rfl <| e_call' rfl (lcode_spec x.o) ?_
 rintro _ M3 _ hM3 ⟨rfl, A3, c3, rfl, hA3⟩
 replace hd := hd.trans hM3
 replace he := he.trans hM3
 try replace hA2 := hA2.mono hM3
 try replace hA5 := hA5.mono hM3
 try replace hrow := hrow.mono hM3
 try replace hB := hB.mono hM3
 refine ⟨⟨he, Keeps.mem⟩, ?_⟩
 refine ze 14 rfl rfl <| e_call' rfl (lkeys_spec (hg.mono hd) hx hy (hname.mono hd) (hsec.mono hd)) ?_
 rintro _ M4 _ hM4 ⟨rfl, A4, c4, kvs, rfl, hrow, hB⟩
 replace hd := hd.trans hM4
 replace he := he.trans hM4
 try replace hA2 := hA2.mono hM4
 try replace hA3 := hA3.mono hM4
 refine ⟨⟨he, Keeps.mem⟩, ?_⟩
 refine ze 15 rfl rfl <| e_call' rfl (Root_spec (hg.mono hd).mr (treeV x.t) (hname.mono hd) hrow hB (keysB_le _ _ _ _)) ?_
 rintro _ M5 _ hM5 ⟨rfl, A5, m5, c5, rfl, hA5⟩
 rw [if_pos ⟨by rw [hnl]; exact hx.s, hH10, hx.lv.symm⟩] at hA5
 replace hd := hd.trans hM5
 replace he := he.trans hM5
 try replace hA2 := hA2.mono hM5
 try replace hA3 := hA3.mono hM5
 refine ⟨⟨he, Keeps.mem⟩, ?_⟩
 refine ze 16 rfl rfl <| e_buildSlice rfl (by decide) <| fun b7 => ⟨⟨he, Keeps.mem⟩, ?_⟩
 refine .pub b7 iI <| fun M6 hM6 hb7 => ?_
 have hd6 := hd.trans hM6
 have he6 := he.trans hM6
 have hfl : [putB x.t.toNat 4, putB x.o.toNat 4, name, rootB (treeV x.t) name (keysX x name sec)].flatten = pubB x name sec := by simp [pubB]
 have hm5 := hA5.size
 have hrl : (rootB (treeV x.t) name (keysX x name sec)).length ≤ 32 := (lvl_short _ _ _ _).get 0
 have hfll : (pubB x name sec).length ≤ 100 := by
  rw [pubB, List.length_append, List.length_append, List.length_append, putB_length, putB_length]; omega
 refine ze 17 rfl rfl <| e_call' rfl (Cat_spec (Row.whole hb7 rfl (by omega)) (.cons (hA2.mono hM6) (.cons (hA3.mono hM6) (.cons (hname.mono hd6) (.cons (hA5.mono hM6) .nil)))) (by rw [hfl]; omega)) ?_
 rintro _ M7 _ hM7 ⟨rfl, A7, c7, rfl, hA7⟩
 rw [hfl] at hA7
 rw [hfl]
 replace hd6 := hd6.trans hM7
 replace he6 := he6.trans hM7
 refine ⟨⟨he6, Keeps.mem⟩, ?_⟩
 refine paS 18 rfl rfl <| zz <| .then_normal <| .s1 2 rfl <| x_ret (.dropTo L iI (ret1 rfl rfl hd6 ⟨rfl, _, _, _, rfl, hmay, hA7⟩))
theorem Public_lspec (hg : LmG M) (x : PairV) (hname : Bytes M NA nl nc name) (hsec : Bytes M SA sl sc sec) :
  Con Tryz.prog 105 #[.agg (List.toArray x.cells), .agg (List.toArray (seedC NA nl nc SA sl sc))] G M L (fun v M' L' => L' = L ∧ ∃ A m c, v = .tuple #[.slice A m c, .int .i64 (mayC x nl sl)] ∧ Bytes M' A m c (pubV x nl sl name sec)) noPanic := by
 refine zfn Tryz.func105 rfl 10 rfl <| zr <| tl_e rfl <| e_box rfl <| fun b1 => tl_e rfl <| e_box rfl <| fun b2 => as0 rfl <| as0 rfl <| zq <| .s2 2 3 rfl rfl <| zr <| tl_y rfl (y_makeFunc rfl rfl) <| zca rfl (caughtB_spec (K := fun A m c M' => mayC x nl sl = 0 ∧ Bytes M' A m c (pubB x name sec)) (Kp := fun e => mayC x nl sl ≠ 0 ∧ e = mayC x nl sl) (first := []) (cap := [.pointer (some ⟨b1, 0, none⟩), .pointer (some ⟨b2, 0, none⟩)]) (fun p' q' => Public1_lspec hg x hname hsec)) ?_
 rintro v M1 _ hM1 ⟨rfl, hv⟩
 obtain ⟨A2, m2, c2, rfl, hA⟩ : ∃ A m c, v = .tuple #[.slice A m c, .int .i64 (mayC x nl sl)] ∧ Bytes M1 A m c (pubV x nl sl name sec) := by
  rcases hv with ⟨A, m, c, rfl, h0, hb⟩ | ⟨e, rfl, hno, rfl⟩
  ·
   exact ⟨A, m, c, by rw [h0], by rw [pubV, if_pos h0]; exact hb⟩
  exact ⟨none, 0, 0, rfl, by rw [pubV, if_neg hno]; exact Row.nil _ _⟩
 refine zx rfl <| zx rfl <| asS rfl <| asI rfl <| zq <| .s2 4 5 rfl rfl <| x_ret (.dropTo L iI (ret2 rfl rfl rfl hM1 ⟨rfl, _, _, _, rfl, hA⟩))
end
end Go.Proofs.YtplkoemjffplcaaGreatDoor
