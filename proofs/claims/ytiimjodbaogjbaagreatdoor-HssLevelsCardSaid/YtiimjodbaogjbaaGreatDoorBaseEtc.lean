/-
Contracts of functions, each proved by a walk through its code.
-/
import Derived.Test.YtiimjodbaogjbaaGreatDoorTypes1
import Derived.Test.YtiimjodbaogjbaaGreatDoorEngIEtc
import Derived.Test.YtiimjodbaogjbaaGreatDoorEngWEtc
set_option linter.unusedVariables false
set_option linter.unusedSimpArgs false
namespace Go.Proofs.YtiimjodbaogjbaaGreatDoor
open Go Go.Eng
theorem bytesClone_spec {G : World} {M : Mem} {L : Own} {A : Option Addr} {n c : Nat} {bs : List UInt8} (h : Bytes M A n c bs) (hn : n ≤ 140737488355328) :
    Con Tryz.prog 196 #[.slice A n c] G M L (fun v M' L' => L' = L ∧ ∃ A' c', v = .slice A' n c' ∧ Bytes M' A' n c' bs) noPanic := by
  refine enter (args := [_]) (fn := Tryz.f196) ⟨Tryz.func196, rfl, by kernel_rfl, by kernel_rfl⟩ 8 rfl ?_
  refine x_seq (x_region ?_)
  refine tl_y rfl (y_assign rfl) ?_
  refine tl_nil (.then_normal ?_)
  refine x_seq (x_seq (x_region ?_))
  refine tl_y rfl (y_move (v := .slice _ _ _) rfl) ?_
  refine tl_y rfl (y_eqNilSlice rfl rfl) ?_
  refine tl_nil (.then_normal ?_)
  refine x_condb rfl (fun hc1 => ?_) (fun hc1 => ?_)
  ·
    obtain rfl : A = none := by simpa using hc1
    have h0 : n = 0 := by
      rcases Nat.eq_zero_or_pos n with h0 | h0
      · exact h0
      · obtain ⟨b, o, e, _⟩ := h.addr h0; cases e
    subst h0
    have hb : bs = [] := List.eq_nil_of_length_eq_zero h.size
    subst hb
    refine x_seq (x_region ?_)
    refine tl_y rfl (y_assign rfl) ?_
    refine tl_nil (.then_normal ?_)
    refine x_ret (.then_ret (ret1 rfl rfl (Le.refl _) ⟨rfl, none, 0, rfl, Row.nil _ _⟩))
  ·
    refine x_skip (.then_normal ?_)
    refine x_seq (x_region ?_)
    refine tl_e rfl (e_buildSlice0 (fun b1 => ?_))
    refine tl_y rfl (y_move (v := .slice _ _ _) rfl) ?_
    refine tl_e rfl (e_append1 (by decide) rfl rfl OwnRow.made00 (.row h) (all_one_bv bs) (by omega) (by omega) (fun A' cap' E hE => ?_))
    rw [Nat.zero_add, List.nil_append] at hE; rw [Nat.zero_add]
    refine tl_y rfl (y_assign (v := .slice _ _ _) rfl) ?_
    refine tl_nil (.then_normal ?_)
    refine .sub (F' := [(2, _)]) (.cons rfl .nil) ?_
    refine x_ret (.pubRow hE fun M' hle hr => ret1 rfl rfl hle ⟨rfl, _, _, rfl, hr⟩)
abbrev Ints (M : Mem) (A : Option Addr) (n cap : Nat) (xs : List Int) : Prop := Row M 1 A n cap (xs.map (.int .i64))
theorem Ints.size {M : Mem} {A : Option Addr} {n cap : Nat} {xs : List Int} (h : Ints M A n cap xs) : xs.length = n := by have := h.len; simpa using this
def noneOf (xs : List Int) (x : Int) (k : Nat) : Prop := ∀ j, j < k → xs.getD j 0 ≠ x
theorem noneOf_succ {xs : List Int} {x : Int} {k : Nat} (h : noneOf xs x k) (hk : ¬ x = xs.getD k 0) : noneOf xs x (k + 1) := fun j hj => by
  rcases Nat.lt_or_ge j k with hlt | hge
  · exact h j hlt
  · obtain rfl : j = k := by omega
    exact Ne.symm hk
theorem indexInts_spec {G : World} {M : Mem} {L : Own} {A : Option Addr} {n c : Nat} {xs : List Int} (h : Ints M A n c xs) (x : Int) :
    Con Tryz.prog 235 #[.slice A n c, .int .i64 x] G M L (fun v M' L' => M' = M ∧ L' = L ∧ ∃ r : Int, v = .int .i64 r ∧ (0 ≤ r ↔ x ∈ xs)) noPanic := by
  have hs := h.size
  have hmx := h.max
  have hle := h.le
  refine enter (args := [_, _]) (fn := Tryz.f235) ⟨Tryz.func235, rfl, by kernel_rfl, by kernel_rfl⟩ 19 rfl ?_
  refine x_seq (x_region ?_)
  refine tl_y rfl (y_assign rfl) ?_
  refine tl_nil (.then_normal ?_)
  refine x_seq (x_seq (x_region ?_))
  refine tl_y rfl (y_move (v := .slice _ _ _) rfl) ?_
  refine tl_y rfl (y_len rfl) ?_
  refine tl_y rfl (y_move rfl) ?_
  refine tl_nil (.then_normal ?_)
  refine x_block ?_
  refine x_loop (I := fun m' F D M1 L1 => ∃ k : Nat, m' = n - k ∧ k ≤ n ∧ noneOf xs x k ∧ D = [] ∧ M1 = M ∧ L1 = L ∧ F = [(0, .slice A n c), (1, .int .i64 x), (4, .int .i64 0), (7, .int .i64 n), (8, .int .i64 k)]) (n) (F0 := [(0, _), (1, _), (4, _), (7, _), (8, _)]) ?_ (.cons rfl (.cons rfl (.cons rfl (.cons rfl (.cons rfl .nil))))) ?_  -- slots [0, 1, 4, 7, 8], written [4, 8]
  · exact ⟨0, rfl, by omega, (fun j h => by omega), rfl, rfl, rfl, rfl⟩
  rintro m _ _ M1 L1 ⟨k, rfl, hk, hno, rfl, rfl, rfl, rfl⟩
  refine x_seq (x_region ?_)
  refine tl_y rfl (y_lss rfl rfl) ?_
  refine tl_nil (.then_normal ?_)
  refine x_seq ?_
  refine x_cond rfl (fun hc1 => ?_) (fun hc1 => ?_)
  ·
    have hkn : k < n := by omega
    obtain ⟨p, o, rfl, hca⟩ := h.addr (by omega)
    have hcell := hca L1 k (.int .i64 (xs.getD k 0)) (by simp [hs, hkn])
    refine x_skip (.then_normal ?_)
    refine x_seq ?_
    refine x_block ?_
    refine x_seq (x_region ?_)
    refine tl_y rfl (y_move (v := .int _ _) rfl) ?_
    refine tl_y rfl (y_assign (v := .int _ _) rfl) ?_
    refine tl_nil (.then_normal ?_)
    refine x_seq (x_region ?_)
    refine tl_y rfl (y_move (v := .int _ _) rfl) ?_
    refine tl_y rfl (y_move (v := .slice _ _ _) rfl) ?_
    refine tl_y rfl (y_move (v := .int _ _) rfl) ?_
    refine tl_y rfl (y_indexAddr rfl rfl (by omega)) ?_
    refine tl_y rfl (y_load rfl rfl (.at_ hcell (by omega))) ?_
    refine tl_y rfl (y_eql rfl rfl) ?_
    refine tl_nil (.then_normal ?_)
    refine .sub (F' := [(0, _), (1, _), (4, _), (5, _), (7, _), (8, _), (16, _)]) (.cons rfl (.cons rfl (.cons rfl (.cons rfl (.cons rfl (.cons rfl (.cons rfl .nil))))))) ?_
    refine x_cond rfl (fun hc2 => ?_) (fun hc2 => ?_)
    ·
      refine x_seq (x_region ?_)
      refine tl_y rfl (y_move (v := .int _ _) rfl) ?_
      refine tl_y rfl (y_assign (v := .int _ _) rfl) ?_
      refine tl_nil (.then_normal ?_)
      refine x_ret (.block_ret (.then_ret (.loop_ret (.block_ret (.then_ret (ret1 rfl rfl (Le.refl _) ⟨rfl, rfl, _, rfl, iff_of_true (by omega) (by rw [hc2, List.getD_eq_getElem?_getD, List.getElem?_eq_getElem (by omega)]; simp)⟩))))))
    ·
      refine x_skip (.block_normal (.then_normal ?_))
      refine x_region ?_
      refine tl_y rfl (y_addI rfl rfl (by omega)) ?_
      refine tl_y rfl (y_move (v := .int _ _) rfl) ?_
      refine tl_nil (.loop_next (m' := n - (k + 1)) (by omega) (F' := [(0, _), (1, _), (4, _), (7, _), (8, _)]) (.cons rfl (.cons rfl (.cons rfl (.cons rfl (.cons rfl .nil))))) ?_)
      exact ⟨k + 1, rfl, by omega, noneOf_succ hno hc2, rfl, rfl, rfl, rfl⟩
  ·
    refine x_exit (.then_exit (.loop_exit (.block_exit (.then_normal ?_))))
    refine .sub (F' := []) .nil ?_
    refine x_seq (x_region ?_)
    refine tl_y rfl (y_assign rfl) ?_
    refine tl_nil (.then_normal ?_)
    refine x_ret (ret1 rfl rfl (Le.refl _) ⟨rfl, rfl, _, rfl, iff_of_false (by omega) (fun hm => by obtain ⟨j, hj, he⟩ := List.getElem_of_mem hm; exact hno j (by omega) (by rw [List.getD_eq_getElem?_getD, List.getElem?_eq_getElem hj]; simpa using he))⟩)
theorem containsInts_spec {G : World} {M : Mem} {L : Own} {A : Option Addr} {n c : Nat} {xs : List Int} (h : Ints M A n c xs) (x : Int) :
    Con Tryz.prog 226 #[.slice A n c, .int .i64 x] G M L (fun v M' L' => M' = M ∧ L' = L ∧ v = .bool (decide (x ∈ xs))) noPanic := by
  refine enter (args := [_, _]) (fn := Tryz.f226) ⟨Tryz.func226, rfl, by kernel_rfl, by kernel_rfl⟩ 9 rfl ?_
  refine x_seq (x_region ?_)
  refine tl_y rfl (y_assign rfl) ?_
  refine tl_nil (.then_normal ?_)
  refine x_seq (x_region ?_)
  refine tl_y rfl (y_move (v := .slice _ _ _) rfl) ?_
  refine tl_y rfl (y_move (v := .int _ _) rfl) ?_
  refine tl_e rfl (e_call' rfl (indexInts_spec h x) ?_)
  rintro _ M1 L1 hM1 ⟨rfl, rfl, r, rfl, hr⟩
  refine tl_y rfl (y_geq rfl rfl) ?_
  refine tl_y rfl (y_assign (v := .bool _) rfl) ?_
  refine tl_nil (.then_normal ?_)
  refine .sub (F' := [(4, _)]) (.cons rfl .nil) ?_
  refine x_ret (ret1 rfl rfl (Le.refl _) ⟨rfl, rfl, by congr 1; exact decide_eq_decide.2 hr⟩)
end Go.Proofs.YtiimjodbaogjbaaGreatDoor
set_option linter.unusedVariables false
set_option linter.unusedSimpArgs false
set_option linter.constructorNameAsVariable false
namespace Go.Proofs.YtiimjodbaogjbaaGreatDoor
open Go Go.Eng
theorem src_in {M : Mem} {L : Own} {s n : Nat} {A : Option Addr} {vs : List Value} {p : Nat × Obj} (h : RowIn M L s A n vs) : Src M (p :: L) s A n vs := ⟨h.len, fun w hw h0 => by
  rcases Nat.eq_zero_or_pos n with h1 | h1
  · subst h1; simp at h0
  · obtain ⟨b, o, e, hc⟩ := h.addr h1
    exact ⟨_, e, fun j v hj => by rw [add_plain]; exact hc j v hj w ⟨hw.ro, fun q hq => hw.own q (List.mem_cons_of_mem _ hq)⟩⟩⟩
section
variable {G : World} {M : Mem} {L R : Own}
theorem bytesClone_own {A : Option Addr} {n c : Nat} {bs : List UInt8} (h : RowIn M L 1 A n (bs.map bv)) (hn : n ≤ 140737488355328) :
    Con Tryz.prog 196 #[.slice A n c] G M L (fun v M' L' => M = M' ∧ ∃ A' c' E, v = .slice A' n c' ∧ OwnRow 5 1 A' n c' (bs.map bv) E ∧ L' = E ++ L) noPanic := by
  have hbl : bs.length = n := by have := h.len; simpa using this
  refine enter (args := [_]) (fn := Tryz.f196) ⟨Tryz.func196, rfl, by kernel_rfl, by kernel_rfl⟩ 8 rfl ?_
  refine x_seq (x_region ?_)
  refine tl_y rfl (y_assign rfl) ?_
  refine tl_nil (.then_normal ?_)
  refine x_seq (x_seq (x_region ?_))
  refine tl_y rfl (y_move (v := .slice _ _ _) rfl) ?_
  refine tl_y rfl (y_eqNilSlice rfl rfl) ?_
  refine tl_nil (.then_normal ?_)
  refine x_condb rfl (fun hc1 => ?_) (fun hc1 => ?_)
  ·
    obtain rfl : A = none := by simpa using hc1
    have h0 : n = 0 := by
      rcases Nat.eq_zero_or_pos n with h0 | h0
      · exact h0
      · obtain ⟨b, o, e, _⟩ := h.addr h0; cases e
    subst h0
    have hb : bs = [] := List.eq_nil_of_length_eq_zero hbl
    subst hb
    refine x_seq (x_region ?_)
    refine tl_y rfl (y_assign rfl) ?_
    refine tl_nil (.then_normal ?_)
    refine x_ret (.then_ret (ret1 rfl rfl (Le.refl _) ⟨rfl, none, 0, [], rfl, .nil, rfl⟩))
  ·
    refine x_skip (.then_normal ?_)
    refine x_seq (x_region ?_)
    refine tl_e rfl (e_buildSlice0 (fun b1 => ?_))
    refine tl_y rfl (y_move (v := .slice _ _ _) rfl) ?_
    refine tl_e rfl (e_append1 (by decide) rfl rfl OwnRow.made00 (src_in h) (all_one_bv bs) (by omega) (by omega) (fun A' cap' E hE => ?_))
    rw [Nat.zero_add, List.nil_append] at hE; rw [Nat.zero_add]
    refine tl_y rfl (y_assign (v := .slice _ _ _) rfl) ?_
    refine tl_nil (.then_normal ?_)
    refine .sub (F' := [(2, _)]) (.cons rfl .nil) ?_
    refine x_ret (ret1 rfl rfl (Le.refl _) ⟨rfl, _, _, E, rfl, hE, rfl⟩)
end
end Go.Proofs.YtiimjodbaogjbaaGreatDoor
set_option linter.unusedVariables false
set_option linter.unusedSimpArgs false
namespace Go.Proofs.YtiimjodbaogjbaaGreatDoor
open Go Go.Eng
def rotl (x : UInt64) (s : Nat) : UInt64 := shl64 x s ||| shr64 x (64 - s)
def kTurns : List Nat := [0, 1, 62, 28, 27, 36, 44, 6, 55, 20, 3, 10, 43, 25, 39, 41, 45, 15, 21, 8, 18, 2, 61, 56, 14]
def kRc : List UInt64 := [0x0000000000000001, 0x0000000000008082, 0x800000000000808a, 0x8000000080008000,
  0x000000000000808b, 0x0000000080000001, 0x8000000080008081, 0x8000000000008009,
  0x000000000000008a, 0x0000000000000088, 0x0000000080008009, 0x000000008000000a,
  0x000000008000808b, 0x800000000000008b, 0x8000000000008089, 0x8000000000008003,
  0x8000000000008002, 0x8000000000000080, 0x000000000000800a, 0x800000008000000a,
  0x8000000080008081, 0x8000000000008080, 0x0000000080000001, 0x8000000080008008]
def updL (l : List UInt64) (i : Nat) (f : UInt64 → UInt64) : List UInt64 := l.set i (f (l.getD i 0))
theorem updL_length (l : List UInt64) (i : Nat) (f : UInt64 → UInt64) : (updL l i f).length = l.length := by simp [updL]
def kCols (a : List UInt64) : Nat → List UInt64
  | 0 => List.replicate 5 0
  | k + 1 => updL (kCols a k) (k % 5) (· ^^^ a.getD k 0)
def kTheta (c a : List UInt64) : Nat → List UInt64
  | 0 => a
  | k + 1 => updL (kTheta c a k) k (· ^^^ (c.getD ((k % 5 + 4) % 5) 0 ^^^ rotl (c.getD ((k % 5 + 1) % 5) 0) 1))
def kRho (a : List UInt64) : Nat → List UInt64
  | 0 => List.replicate 25 0
  | k + 1 => (kRho a k).set (k / 5 + 5 * ((2 * (k % 5) + 3 * (k / 5)) % 5)) (rotl (a.getD k 0) (kTurns.getD k 0))
def kChi (b a : List UInt64) : Nat → List UInt64
  | 0 => a
  | k + 1 => (kChi b a k).set k (b.getD k 0 ^^^ (~~~ (b.getD (k / 5 * 5 + (k % 5 + 1) % 5) 0) &&& b.getD (k / 5 * 5 + (k % 5 + 2) % 5) 0))
def kThetaA (a : List UInt64) : List UInt64 := kTheta (kCols a 25) a 25
def kRound (a : List UInt64) (rc : UInt64) : List UInt64 := updL (kChi (kRho (kThetaA a) 25) (kThetaA a) 25) 0 (· ^^^ rc)
def kPerm (a : List UInt64) : Nat → List UInt64
  | 0 => a
  | k + 1 => kRound (kPerm a k) (kRc.getD k 0)
theorem kCols_length (a : List UInt64) (k : Nat) : (kCols a k).length = 5 := by
  induction k with
  | zero => simp [kCols]
  | succ k ih => rw [kCols, updL_length, ih]
theorem kTheta_length (c a : List UInt64) (k : Nat) : (kTheta c a k).length = a.length := by
  induction k with
  | zero => simp [kTheta]
  | succ k ih => rw [kTheta, updL_length, ih]
theorem kRho_length (a : List UInt64) (k : Nat) : (kRho a k).length = 25 := by
  induction k with
  | zero => simp [kRho]
  | succ k ih => rw [kRho, List.length_set, ih]
theorem kChi_length (b a : List UInt64) (k : Nat) : (kChi b a k).length = a.length := by
  induction k with
  | zero => simp [kChi]
  | succ k ih => rw [kChi, List.length_set, ih]
theorem kRound_length (a : List UInt64) (rc : UInt64) : (kRound a rc).length = a.length := by
  rw [kRound, updL_length, kChi_length, kThetaA, kTheta_length]
theorem kPerm_length (a : List UInt64) (k : Nat) : (kPerm a k).length = a.length := by
  induction k with
  | zero => rfl
  | succ k ih => rw [kPerm, kRound_length, ih]
end Go.Proofs.YtiimjodbaogjbaaGreatDoor
set_option linter.unusedVariables false
set_option linter.unusedSimpArgs false
namespace Go.Proofs.YtiimjodbaogjbaaGreatDoor
open Go Go.Eng
section
variable {G : World} {M : Mem} {L : Own}
theorem get_u64' (w : List UInt64) (i : Nat) (h : i < w.length) : (w.map u64v)[i]? = some (u64v (w.getD i 0)) := by
  rw [List.getElem?_map, List.getD_eq_getElem?_getD, List.getElem?_eq_getElem h]; rfl
theorem u64_one (w : List UInt64) : (w.map u64v).all one = true := by simp [one, Value.oneCell']
theorem rl64_a : ∀ n : Fin 64, (UInt64.ofInt (n.val : Int) &&& 63).toNat = n.val ∧ (64 - (UInt64.ofInt (n.val : Int) &&& 63)).toNat = 64 - n.val := by decide +kernel
theorem rotl64_spec (x : UInt64) (n : Nat) (hn : n < 64) :
    Con Tryz.prog 252 #[.int .u64 (x.toNat : Int), .int .i64 (n : Int)] G M L (fun r M' L' => M = M' ∧ L = L' ∧ r = .int .u64 ((rotl x n).toNat : Int)) noPanic := by
  obtain ⟨h1, h2⟩ := rl64_a ⟨n, hn⟩
  refine enter (args := [_, _]) (fn := Tryz.f252) ⟨Tryz.func252, rfl, by kernel_rfl, by kernel_rfl⟩ 17 rfl ?_
  refine x_seq (x_region ?_)
  refine tl_y rfl (y_assign rfl) ?_
  refine tl_nil (.then_normal ?_)
  refine x_seq (x_region ?_)
  refine tl_y rfl (y_move (v := .int _ _) rfl) ?_
  refine tl_y rfl (y_of64 rfl) ?_
  refine tl_y rfl (y_and64 (b := 63) rfl rfl) ?_
  refine tl_y rfl (y_assign (v := .int _ _) rfl) ?_
  refine tl_nil (.then_normal ?_)
  refine .sub (F' := [(0, _), (5, _)]) (.cons rfl (.cons rfl .nil)) ?_
  refine x_seq (x_region ?_)
  refine tl_y rfl (y_move (v := .int _ _) rfl) ?_
  refine tl_y rfl (y_move (v := .int _ _) rfl) ?_
  refine tl_y rfl (y_shl64 rfl rfl) ?_
  refine tl_y rfl (y_move (v := .int _ _) rfl) ?_
  refine tl_y rfl (y_move (v := .int _ _) rfl) ?_
  refine tl_y rfl (y_sub64 (a := 64) rfl rfl) ?_
  refine tl_y rfl (y_shr64 rfl rfl) ?_
  refine tl_y rfl (y_or64 rfl rfl) ?_
  refine tl_y rfl (y_assign (v := .int _ _) rfl) ?_
  refine tl_nil (.then_normal ?_)
  refine .sub (F' := [(4, _)]) (.cons rfl .nil) ?_
  refine x_ret (ret1 rfl rfl (Le.refl _) ⟨rfl, rfl, by
    have e1 : (UInt64.ofInt (n : Int) &&& 63).toNat = n := h1
    have e2 : (64 - (UInt64.ofInt (n : Int) &&& 63)).toNat = 64 - n := h2
    rw [e1, e2]; rfl⟩)
abbrev kB (b : Nat) (a : List UInt64) : Nat × Obj := (b, .cells (a.map u64v).toArray 234 (0, 0))
theorem theta_spec {b : Nat} {a : List UInt64} (hl : a.length = 25) :
    Con Tryz.prog 251 #[.pointer (some ⟨b, 0, none⟩)] G M (kB b a :: L) (fun r M' L' => M = M' ∧ L' = kB b (kThetaA a) :: L) noPanic := by
  refine enter (args := [_]) (fn := Tryz.f251) ⟨Tryz.func251, rfl, by kernel_rfl, by kernel_rfl⟩ 48 rfl ?_
  refine x_seq (x_region ?_)
  refine tl_e rfl (e_alloc (fun b1 => ?_))
  refine tl_nil (.then_normal ?_)
  refine x_seq (x_seq (x_region ?_))
  refine tl_y rfl (y_move (v := .pointer _) rfl) ?_
  refine tl_y rfl (y_move rfl) ?_
  refine tl_nil (.then_normal ?_)
  refine x_block ?_
  refine x_loop (I := fun m' F D M2 L1 => ∃ k : Nat, m' = 25 - k ∧ k ≤ 25 ∧ D = [] ∧ M = M2 ∧ L1 = (b1, .cells ((kCols a k).map u64v).toArray 252 (0, 0)) :: kB b a :: L ∧ F = [(0, .pointer (some ⟨b, 0, none⟩)), (2, .pointer (some ⟨b1, 0, none⟩)), (7, .pointer (some ⟨b, 0, none⟩)), (8, .int .i64 k)]) (25) (F0 := [(0, _), (2, _), (7, _), (8, _)]) ?_ (.cons rfl (.cons rfl (.cons rfl (.cons rfl .nil)))) ?_  -- slots [0, 2, 7, 8], written [8]
  · exact ⟨0, rfl, by omega, rfl, rfl, rfl, rfl⟩
  rintro m _ _ M2 L1 ⟨k, rfl, hk, rfl, rfl, rfl, rfl⟩
  refine x_seq (x_region ?_)
  refine tl_y rfl (y_lss rfl rfl) ?_
  refine tl_nil (.then_normal ?_)
  refine x_seq ?_
  refine x_cond rfl (fun hc1 => ?_) (fun hc1 => ?_)
  ·
    refine x_skip (.then_normal ?_)
    refine x_seq ?_
    refine x_block ?_
    refine x_seq ?_
    refine x_draw 6 hmix rfl ?_
    refine to_p 0 rfl (by kernel_rfl) rfl (y_move (v := .int _ _) rfl) ?_
    refine to_p 1 rfl (by kernel_rfl) rfl (y_nilCheck rfl) ?_
    refine to_p 2 rfl (by kernel_rfl) rfl (y_indexArr rfl rfl (by omega)) ?_
    refine to_y 3 rfl (by kernel_rfl) rfl (y_load rfl rfl (.at_ (.ownAt (i := k) (c := a.map u64v) inferInstance (get_u64' _ _ (by omega))) (by omega))) ?_
    refine to_p 4 rfl (by kernel_rfl) rfl (y_assign (v := .int _ _) rfl) ?_
    refine to_p 5 rfl (by kernel_rfl) rfl (y_assign (v := .int _ _) rfl) ?_
    refine to_nil (by kernel_rfl) (.then_normal ?_)
    refine .sub (F' := [(0, _), (2, _), (3, _), (4, _), (7, _), (8, _)]) (.cons rfl (.cons rfl (.cons rfl (.cons rfl (.cons rfl (.cons rfl .nil)))))) ?_
    refine x_region ?_
    refine tl_y rfl (y_move (v := .int _ _) rfl) ?_
    refine tl_y rfl (y_remI rfl rfl (by omega)) ?_
    refine tl_y rfl (y_indexArr rfl rfl (by omega)) ?_
    refine tl_y rfl (y_load rfl rfl (.at_ (.ownAt (i := k % 5) (c := (kCols a k).map u64v) inferInstance (get_u64' _ _ (by rw [kCols_length]; omega))) (by omega))) ?_
    refine tl_y rfl (y_move (v := .int _ _) rfl) ?_
    refine tl_y rfl (y_xor64 rfl rfl) ?_
    refine tl_y rfl (y_indexArr rfl rfl (by omega)) ?_
    refine tl_e rfl (e_storeAt (c := (kCols a k).map u64v) rfl rfl rfl inferInstance (by rw [List.length_map, kCols_length]; omega) inferInstance ?_)
    rw [show 0 + ((k : Int) % 5).toNat * 1 = k % 5 by omega, ← List.map_set]
    refine tl_nil (.block_normal (.then_normal ?_))
    refine .sub (F' := [(0, _), (2, _), (7, _), (8, _)]) (.cons rfl (.cons rfl (.cons rfl (.cons rfl .nil)))) ?_
    refine x_region ?_
    refine tl_y rfl (y_addI rfl rfl (by omega)) ?_
    refine tl_y rfl (y_move (v := .int _ _) rfl) ?_
    refine tl_nil (.loop_next (m' := 25 - (k + 1)) (by omega) (F' := [(0, _), (2, _), (7, _), (8, _)]) (.cons rfl (.cons rfl (.cons rfl (.cons rfl .nil)))) ?_)
    exact ⟨k + 1, rfl, by omega, rfl, rfl, rfl, rfl⟩
  ·
    obtain rfl : k = 25 := by omega
    refine x_exit (.then_exit (.loop_exit (.block_exit (.then_normal ?_))))
    refine x_seq (x_region ?_)
    refine tl_y rfl (y_move rfl) ?_
    refine tl_nil (.then_normal ?_)
    refine x_block ?_
    refine x_loop (I := fun m' F D M2 L1 => ∃ k : Nat, m' = 25 - k ∧ k ≤ 25 ∧ D = [] ∧ M = M2 ∧ L1 = (b1, .cells ((kCols a 25).map u64v).toArray 252 (0, 0)) :: kB b (kTheta (kCols a 25) a k) :: L ∧ F = [(0, .pointer (some ⟨b, 0, none⟩)), (2, .pointer (some ⟨b1, 0, none⟩)), (22, .int .i64 k)]) (25) (F0 := [(0, _), (2, _), (22, _)]) ?_ (.cons rfl (.cons rfl (.cons rfl .nil))) ?_  -- slots [0, 2, 22], written [22]
    · exact ⟨0, rfl, by omega, rfl, rfl, rfl, rfl⟩
    rintro m _ _ M2 L1 ⟨k, rfl, hk, rfl, rfl, rfl, rfl⟩
    refine x_seq (x_region ?_)
    refine tl_y rfl (y_lss rfl rfl) ?_
    refine tl_nil (.then_normal ?_)
    refine x_seq ?_
    refine x_cond rfl (fun hc2 => ?_) (fun hc2 => ?_)
    ·
      refine x_skip (.then_normal ?_)
      refine x_seq ?_
      refine x_block ?_
      refine x_seq (x_region ?_)
      refine tl_y rfl (y_move (v := .int _ _) rfl) ?_
      refine tl_y rfl (y_assign (v := .int _ _) rfl) ?_
      refine tl_nil (.then_normal ?_)
      refine x_seq (x_region ?_)
      refine tl_y rfl (y_move (v := .int _ _) rfl) ?_
      refine tl_y rfl (y_remI rfl rfl (by omega)) ?_
      refine tl_y rfl (y_assign (v := .int _ _) rfl) ?_
      refine tl_nil (.then_normal ?_)
      refine .sub (F' := [(0, _), (2, _), (5, _), (6, _), (22, _)]) (.cons rfl (.cons rfl (.cons rfl (.cons rfl (.cons rfl .nil))))) ?_
      refine x_draw 20 hmix rfl ?_
      refine to_p 0 rfl (by kernel_rfl) rfl (y_move (v := .pointer _) rfl) ?_
      refine to_p 1 rfl (by kernel_rfl) rfl (y_move (v := .int _ _) rfl) ?_
      refine to_p 2 rfl (by kernel_rfl) rfl (y_nilCheck rfl) ?_
      refine to_p 3 rfl (by kernel_rfl) rfl (y_indexArr rfl rfl (by omega)) ?_
      refine to_y 4 rfl (by kernel_rfl) rfl (y_load rfl rfl (.at_ (.ownAt (i := k) (c := (kTheta (kCols a 25) a k).map u64v) inferInstance (get_u64' _ _ (by rw [kTheta_length]; omega))) (by omega))) ?_
      refine to_p 5 rfl (by kernel_rfl) rfl (y_move (v := .int _ _) rfl) ?_
      refine to_p 6 rfl (by kernel_rfl) rfl (y_addI rfl rfl (by omega)) ?_
      refine to_p 7 rfl (by kernel_rfl) rfl (y_remI rfl rfl (by omega)) ?_
      refine to_p 8 rfl (by kernel_rfl) rfl (y_indexArr rfl rfl (by omega)) ?_
      refine to_y 9 rfl (by kernel_rfl) rfl (y_load rfl rfl (.at_ (.ownAt (i := (k % 5 + 4) % 5) (c := (kCols a 25).map u64v) inferInstance (get_u64' _ _ (by rw [kCols_length]; omega))) (by omega))) ?_
      refine to_p 10 rfl (by kernel_rfl) rfl (y_move (v := .int _ _) rfl) ?_
      refine to_p 11 rfl (by kernel_rfl) rfl (y_addI rfl rfl (by omega)) ?_
      refine to_p 12 rfl (by kernel_rfl) rfl (y_remI rfl rfl (by omega)) ?_
      refine to_p 13 rfl (by kernel_rfl) rfl (y_indexArr rfl rfl (by omega)) ?_
      refine to_y 14 rfl (by kernel_rfl) rfl (y_load rfl rfl (.at_ (.ownAt (i := (k % 5 + 1) % 5) (c := (kCols a 25).map u64v) inferInstance (get_u64' _ _ (by rw [kCols_length]; omega))) (by omega))) ?_
      refine to_p 18 rfl (by kernel_rfl) rfl (y_nilCheck rfl) ?_
      refine to_e 15 rfl (by kernel_rfl) rfl (e_call' rfl (rotl64_spec _ 1 (by omega)) ?_)
      rintro _ _ _ _ ⟨rfl, rfl, rfl⟩
      refine ⟨⟨(by first | exact Le.refl _ | assumption), Keeps.mem⟩, ?_⟩
      refine to_p 16 rfl (by kernel_rfl) rfl (y_xor64 rfl rfl) ?_
      refine to_p 17 rfl (by kernel_rfl) rfl (y_xor64 rfl rfl) ?_
      refine to_p 19 rfl (by kernel_rfl) rfl (y_indexArr rfl rfl (by omega)) ?_
      refine to_t 20 rfl (by kernel_rfl) (by kernel_rfl) rfl (e_storeAt (c := (kTheta (kCols a 25) a k).map u64v) rfl rfl rfl inferInstance (by rw [List.length_map, kTheta_length]; omega) inferInstance ?_)
      rw [show 0 + ((k : Int)).toNat * 1 = k by omega, ← List.map_set]
      refine to_nil (by kernel_rfl) (.block_normal (.then_normal ?_))
      refine .sub (F' := [(0, _), (2, _), (22, _)]) (.cons rfl (.cons rfl (.cons rfl .nil))) ?_
      refine x_region ?_
      refine tl_y rfl (y_addI rfl rfl (by omega)) ?_
      refine tl_y rfl (y_move (v := .int _ _) rfl) ?_
      refine tl_nil (.loop_next (m' := 25 - (k + 1)) (by omega) (F' := [(0, _), (2, _), (22, _)]) (.cons rfl (.cons rfl (.cons rfl .nil))) ?_)
      exact ⟨k + 1, rfl, by omega, rfl, rfl, rfl, rfl⟩
    ·
      obtain rfl : k = 25 := by omega
      refine x_exit (.then_exit (.loop_exit (.block_exit (.dropTo (kB b (kTheta (kCols a 25) a 25) :: L) inferInstance (end0 rfl (Le.refl _) ⟨rfl, rfl⟩)))))
structure KecG (M : Mem) : Prop where
  rc : ∃ c T fr, M 8 = some (.cells c T fr) ∧ ∀ j, j < 24 → c[j]? = some (u64v (kRc.getD j 0))
  turns : ∃ c T fr, M 7 = some (.cells c T fr) ∧ ∀ j, j < 25 → c[j]? = some (.int .i64 ((kTurns.getD j 0 : Nat) : Int))
theorem KecG.mono {M M' : Mem} (h : KecG M) (hle : Le M M') : KecG M' := ⟨let ⟨c, T, fr, a, b⟩ := h.rc; ⟨c, T, fr, hle _ _ a, b⟩, let ⟨c, T, fr, a, b⟩ := h.turns; ⟨c, T, fr, hle _ _ a, b⟩⟩
theorem rho_at (k : Nat) : 0 + ((k : Int) / 5 + 5 * ((2 * ((k : Int) % 5) + 3 * ((k : Int) / 5)) % 5)).toNat * 1 = k / 5 + 5 * ((2 * (k % 5) + 3 * (k / 5)) % 5) := by
  have : ((k : Int) / 5 + 5 * ((2 * ((k : Int) % 5) + 3 * ((k : Int) / 5)) % 5)) = ((k / 5 + 5 * ((2 * (k % 5) + 3 * (k / 5)) % 5) : Nat) : Int) := by simp
  rw [this, Int.toNat_natCast]; omega
theorem turns_lt : ∀ k : Fin 25, kTurns.getD k.val 0 < 64 := by decide +kernel
theorem Round_spec (hg : KecG M) {a : List UInt64} (hl : a.length = 25) (i : Nat) (hi : i < 24) :
    Con Tryz.prog 249 #[.agg (a.map u64v).toArray, .int .i64 (i : Int)] G M L (fun r M' L' => M = M' ∧ L = L' ∧ r = .agg ((kRound a (kRc.getD i 0)).map u64v).toArray) noPanic := by
  obtain ⟨rc, rct, rcf, hrc1, hrc2⟩ := hg.rc
  obtain ⟨tc, tt, tf, ht1, ht2⟩ := hg.turns
  have htl : (kThetaA a).length = 25 := by rw [kThetaA, kTheta_length, hl]
  refine enter (args := [_, _]) (fn := Tryz.f249) ⟨Tryz.func249, rfl, by kernel_rfl, by kernel_rfl⟩ 85 rfl ?_
  refine x_seq (x_region ?_)
  refine tl_e rfl (e_box rfl (fun b1 => ?_))
  refine tl_e rfl (e_alloc (fun b2 => ?_))
  refine tl_nil (.then_normal ?_)
  refine x_seq (x_seq (x_region ?_))
  refine tl_y rfl (y_move (v := .int _ _) rfl) ?_
  refine tl_y rfl (y_lss rfl rfl) ?_
  refine tl_y rfl (y_move (v := .bool _) rfl) ?_
  refine tl_set (s := 15) (u := .bool false) rfl (by rw [decide_eq_false]; omega) ?_
  refine tl_y rfl (y_move (v := .int _ _) rfl) ?_
  refine tl_y rfl (y_geq rfl rfl) ?_
  refine tl_y rfl (y_pickF rfl rfl) ?_
  refine tl_nil (.then_normal ?_)
  refine .sub (F' := [(1, _), (2, _), (4, _), (18, _)]) (.cons rfl (.cons rfl (.cons rfl (.cons rfl .nil)))) ?_
  refine x_false rfl (by rw [decide_eq_false]; omega) ?_
  refine x_skip (.then_normal ?_)
  refine x_seq (x_region ?_)
  refine tl_e rfl (e_call' rfl (Con.bring b1 inferInstance (theta_spec hl)) ?_)
  rintro _ _ _ _ ⟨rfl, rfl⟩
  refine tl_nil (.then_normal ?_)
  refine x_seq (x_region ?_)
  refine tl_e rfl (e_alloc (fun b3 => ?_))
  refine tl_nil (.then_normal ?_)
  refine x_seq (x_seq (x_region ?_))
  refine tl_y rfl (y_loadAgg rfl rfl (.whole inferInstance (by simp [htl]))) ?_
  refine tl_y rfl (y_move rfl) ?_
  refine tl_nil (.then_normal ?_)
  refine x_block ?_
  refine x_loop (I := fun m' F D M2 L1 => ∃ k : Nat, m' = 25 - k ∧ k ≤ 25 ∧ D = [] ∧ M = M2 ∧ L1 = (b3, .cells ((kRho (kThetaA a) k).map u64v).toArray 234 (0, 0)) :: kB b1 (kThetaA a) :: kB b2 (List.replicate 25 0) :: L ∧ F = [(1, .int .i64 i), (2, .pointer (some ⟨b1, 0, none⟩)), (4, .pointer (some ⟨b2, 0, none⟩)), (5, .pointer (some ⟨b3, 0, none⟩)), (21, .agg ((kThetaA a).map u64v).toArray), (22, .int .i64 k)]) (25) (F0 := [(1, _), (2, _), (4, _), (5, _), (21, _), (22, _)]) ?_ (.cons rfl (.cons rfl (.cons rfl (.cons rfl (.cons rfl (.cons rfl .nil)))))) ?_  -- slots [1, 2, 4, 5, 21, 22], written [22]
  · exact ⟨0, rfl, by omega, rfl, rfl, rfl, rfl⟩
  rintro m _ _ M2 L1 ⟨k, rfl, hk, rfl, rfl, rfl, rfl⟩
  refine x_seq (x_region ?_)
  refine tl_y rfl (y_lss rfl rfl) ?_
  refine tl_nil (.then_normal ?_)
  refine x_seq ?_
  refine x_cond rfl (fun hc2 => ?_) (fun hc2 => ?_)
  ·
    refine x_skip (.then_normal ?_)
    refine x_seq ?_
    refine x_block ?_
    refine x_seq (x_region ?_)
    refine tl_y rfl (y_move (v := .int _ _) rfl) ?_
    refine tl_y rfl (y_index rfl rfl (by omega) rfl (by rw [List.getElem?_toArray]; show ((kThetaA a).map u64v)[(k : Int).toNat * 1]? = _; rw [show (k : Int).toNat * 1 = k by omega]; exact get_u64' _ _ (by rw [htl]; omega))) ?_
    refine tl_y rfl (y_assign (v := .int _ _) rfl) ?_
    refine tl_y rfl (y_assign (v := .int _ _) rfl) ?_
    refine tl_nil (.then_normal ?_)
    refine x_seq (x_region ?_)
    refine tl_y rfl (y_move (v := .int _ _) rfl) ?_
    refine tl_y rfl (y_remI rfl rfl (by omega)) ?_
    refine tl_y rfl (y_move (v := .int _ _) rfl) ?_
    refine tl_y rfl (y_quoI rfl rfl (by omega)) ?_
    refine tl_y rfl (y_assign (v := .int _ _) rfl) ?_
    refine tl_y rfl (y_assign (v := .int _ _) rfl) ?_
    refine tl_nil (.then_normal ?_)
    refine .sub (F' := [(1, _), (2, _), (4, _), (5, _), (6, _), (7, _), (8, _), (9, _), (21, _), (22, _)]) (.cons rfl (.cons rfl (.cons rfl (.cons rfl (.cons rfl (.cons rfl (.cons rfl (.cons rfl (.cons rfl (.cons rfl .nil)))))))))) ?_
    refine x_region ?_
    refine tl_y rfl (y_move (v := .int _ _) rfl) ?_
    refine tl_y rfl (y_move (v := .int _ _) rfl) ?_
    refine tl_y rfl (y_mulI rfl rfl (by omega)) ?_
    refine tl_y rfl (y_move (v := .int _ _) rfl) ?_
    refine tl_y rfl (y_mulI rfl rfl (by omega)) ?_
    refine tl_y rfl (y_addI rfl rfl (by omega)) ?_
    refine tl_y rfl (y_remI rfl rfl (by omega)) ?_
    refine tl_y rfl (y_mulI rfl rfl (by omega)) ?_
    refine tl_y rfl (y_addI rfl rfl (by omega)) ?_
    refine tl_y rfl (y_move (v := .int _ _) rfl) ?_
    refine tl_y rfl (y_move (v := .int _ _) rfl) ?_
    refine tl_y rfl (y_indexArr rfl rfl (by omega)) ?_
    refine tl_y rfl (y_load rfl rfl (.at_ (.ro ht1 (ht2 k (by omega))) (by omega))) ?_
    refine tl_e rfl (e_call' rfl (rotl64_spec _ (kTurns.getD k 0) (turns_lt ⟨k, by omega⟩)) ?_)
    rintro _ _ _ _ ⟨rfl, rfl, rfl⟩
    refine tl_y rfl (y_indexArr rfl rfl (by omega)) ?_
    refine tl_e rfl (e_storeAt (c := (kRho (kThetaA a) k).map u64v) rfl rfl rfl inferInstance (by rw [List.length_map, kRho_length]; omega) inferInstance ?_)
    rw [rho_at, ← List.map_set]
    refine tl_nil (.block_normal (.then_normal ?_))
    refine .sub (F' := [(1, _), (2, _), (4, _), (5, _), (21, _), (22, _)]) (.cons rfl (.cons rfl (.cons rfl (.cons rfl (.cons rfl (.cons rfl .nil)))))) ?_
    refine x_region ?_
    refine tl_y rfl (y_addI rfl rfl (by omega)) ?_
    refine tl_y rfl (y_move (v := .int _ _) rfl) ?_
    refine tl_nil (.loop_next (m' := 25 - (k + 1)) (by omega) (F' := [(1, _), (2, _), (4, _), (5, _), (21, _), (22, _)]) (.cons rfl (.cons rfl (.cons rfl (.cons rfl (.cons rfl (.cons rfl .nil)))))) ?_)
    exact ⟨k + 1, rfl, by omega, rfl, rfl, rfl, rfl⟩
  ·
    obtain rfl : k = 25 := by omega
    refine x_exit (.then_exit (.loop_exit (.block_exit (.then_normal ?_))))
    refine x_seq (x_seq (x_region ?_))
    refine tl_y rfl (y_move rfl) ?_
    refine tl_nil (.then_normal ?_)
    refine x_block ?_
    refine x_loop (I := fun m' F D M2 L1 => ∃ k : Nat, m' = 25 - k ∧ k ≤ 25 ∧ D = [] ∧ M = M2 ∧ L1 = (b3, .cells ((kRho (kThetaA a) 25).map u64v).toArray 234 (0, 0)) :: kB b1 (kChi (kRho (kThetaA a) 25) (kThetaA a) k) :: kB b2 (List.replicate 25 0) :: L ∧ F = [(1, .int .i64 i), (2, .pointer (some ⟨b1, 0, none⟩)), (4, .pointer (some ⟨b2, 0, none⟩)), (5, .pointer (some ⟨b3, 0, none⟩)), (46, .int .i64 k)]) (25) (F0 := [(1, _), (2, _), (4, _), (5, _), (46, _)]) ?_ (.cons rfl (.cons rfl (.cons rfl (.cons rfl (.cons rfl .nil))))) ?_  -- slots [1, 2, 4, 5, 46], written [46]
    · exact ⟨0, rfl, by omega, rfl, rfl, rfl, rfl⟩
    rintro m _ _ M2 L1 ⟨k, rfl, hk, rfl, rfl, rfl, rfl⟩
    refine x_seq (x_region ?_)
    refine tl_y rfl (y_lss rfl rfl) ?_
    refine tl_nil (.then_normal ?_)
    refine x_seq ?_
    refine x_cond rfl (fun hc3 => ?_) (fun hc3 => ?_)
    ·
      refine x_skip (.then_normal ?_)
      refine x_seq ?_
      refine x_block ?_
      refine x_seq (x_region ?_)
      refine tl_y rfl (y_move (v := .int _ _) rfl) ?_
      refine tl_y rfl (y_assign (v := .int _ _) rfl) ?_
      refine tl_nil (.then_normal ?_)
      refine x_seq (x_region ?_)
      refine tl_y rfl (y_move (v := .int _ _) rfl) ?_
      refine tl_y rfl (y_remI rfl rfl (by omega)) ?_
      refine tl_y rfl (y_move (v := .int _ _) rfl) ?_
      refine tl_y rfl (y_quoI rfl rfl (by omega)) ?_
      refine tl_y rfl (y_mulI rfl rfl (by omega)) ?_
      refine tl_y rfl (y_assign (v := .int _ _) rfl) ?_
      refine tl_y rfl (y_assign (v := .int _ _) rfl) ?_
      refine tl_nil (.then_normal ?_)
      refine .sub (F' := [(1, _), (2, _), (4, _), (5, _), (10, _), (11, _), (12, _), (46, _)]) (.cons rfl (.cons rfl (.cons rfl (.cons rfl (.cons rfl (.cons rfl (.cons rfl (.cons rfl .nil)))))))) ?_
      refine x_draw 22 hmix rfl ?_
      refine to_p 0 rfl (by kernel_rfl) rfl (y_move (v := .int _ _) rfl) ?_
      refine to_p 1 rfl (by kernel_rfl) rfl (y_move (v := .int _ _) rfl) ?_
      refine to_p 2 rfl (by kernel_rfl) rfl (y_indexArr rfl rfl (by omega)) ?_
      refine to_y 3 rfl (by kernel_rfl) rfl (y_load rfl rfl (.at_ (.ownAt (i := k) (c := (kRho (kThetaA a) 25).map u64v) inferInstance (get_u64' _ _ (by rw [kRho_length]; omega))) (by omega))) ?_
      refine to_p 4 rfl (by kernel_rfl) rfl (y_move (v := .int _ _) rfl) ?_
      refine to_p 5 rfl (by kernel_rfl) rfl (y_move (v := .int _ _) rfl) ?_
      refine to_p 6 rfl (by kernel_rfl) rfl (y_addI rfl rfl (by omega)) ?_
      refine to_p 7 rfl (by kernel_rfl) rfl (y_remI rfl rfl (by omega)) ?_
      refine to_p 8 rfl (by kernel_rfl) rfl (y_addI rfl rfl (by omega)) ?_
      refine to_p 9 rfl (by kernel_rfl) rfl (y_indexArr rfl rfl (by omega)) ?_
      refine to_y 10 rfl (by kernel_rfl) rfl (y_load rfl rfl (.at_ (.ownAt (i := k / 5 * 5 + (k % 5 + 1) % 5) (c := (kRho (kThetaA a) 25).map u64v) inferInstance (get_u64' _ _ (by rw [kRho_length]; omega))) (by omega))) ?_
      refine to_p 11 rfl (by kernel_rfl) rfl (y_com64 rfl) ?_
      refine to_p 12 rfl (by kernel_rfl) rfl (y_move (v := .int _ _) rfl) ?_
      refine to_p 13 rfl (by kernel_rfl) rfl (y_move (v := .int _ _) rfl) ?_
      refine to_p 14 rfl (by kernel_rfl) rfl (y_addI rfl rfl (by omega)) ?_
      refine to_p 15 rfl (by kernel_rfl) rfl (y_remI rfl rfl (by omega)) ?_
      refine to_p 16 rfl (by kernel_rfl) rfl (y_addI rfl rfl (by omega)) ?_
      refine to_p 17 rfl (by kernel_rfl) rfl (y_indexArr rfl rfl (by omega)) ?_
      refine to_y 18 rfl (by kernel_rfl) rfl (y_load rfl rfl (.at_ (.ownAt (i := k / 5 * 5 + (k % 5 + 2) % 5) (c := (kRho (kThetaA a) 25).map u64v) inferInstance (get_u64' _ _ (by rw [kRho_length]; omega))) (by omega))) ?_
      refine to_p 19 rfl (by kernel_rfl) rfl (y_and64 rfl rfl) ?_
      refine to_p 20 rfl (by kernel_rfl) rfl (y_xor64 rfl rfl) ?_
      refine to_p 21 rfl (by kernel_rfl) rfl (y_indexArr rfl rfl (by omega)) ?_
      refine to_t 22 rfl (by kernel_rfl) (by kernel_rfl) rfl (e_storeAt (c := (kChi (kRho (kThetaA a) 25) (kThetaA a) k).map u64v) rfl rfl rfl inferInstance (by rw [List.length_map, kChi_length]; omega) inferInstance ?_)
      rw [show 0 + ((k : Int)).toNat * 1 = k by omega, ← List.map_set]
      refine to_nil (by kernel_rfl) (.block_normal (.then_normal ?_))
      refine .sub (F' := [(1, _), (2, _), (4, _), (5, _), (46, _)]) (.cons rfl (.cons rfl (.cons rfl (.cons rfl (.cons rfl .nil))))) ?_
      refine x_region ?_
      refine tl_y rfl (y_addI rfl rfl (by omega)) ?_
      refine tl_y rfl (y_move (v := .int _ _) rfl) ?_
      refine tl_nil (.loop_next (m' := 25 - (k + 1)) (by omega) (F' := [(1, _), (2, _), (4, _), (5, _), (46, _)]) (.cons rfl (.cons rfl (.cons rfl (.cons rfl (.cons rfl .nil))))) ?_)
      exact ⟨k + 1, rfl, by omega, rfl, rfl, rfl, rfl⟩
    ·
      obtain rfl : k = 25 := by omega
      have hcl : (kChi (kRho (kThetaA a) 25) (kThetaA a) 25).length = 25 := by rw [kChi_length, htl]
      refine x_exit (.then_exit (.loop_exit (.block_exit (.then_normal ?_))))
      refine x_seq ?_
      refine x_draw 7 hmix rfl ?_
      refine to_p 0 rfl (by kernel_rfl) rfl (y_indexArrK 0 rfl rfl (by omega)) ?_
      refine to_y 1 rfl (by kernel_rfl) rfl (y_load rfl rfl (.at_ (.ownAt (i := 0) (c := (kChi (kRho (kThetaA a) 25) (kThetaA a) 25).map u64v) inferInstance (get_u64' _ _ (by omega))) (by omega))) ?_
      refine to_p 2 rfl (by kernel_rfl) rfl (y_move (v := .int _ _) rfl) ?_
      refine to_p 3 rfl (by kernel_rfl) rfl (y_indexArr rfl rfl (by omega)) ?_
      refine to_y 4 rfl (by kernel_rfl) rfl (y_load rfl rfl (.at_ (.ro hrc1 (hrc2 i (by omega))) (by omega))) ?_
      refine to_p 5 rfl (by kernel_rfl) rfl (y_xor64 rfl rfl) ?_
      refine to_p 6 rfl (by kernel_rfl) rfl (y_indexArrK 0 rfl rfl (by omega)) ?_
      refine to_t 7 rfl (by kernel_rfl) (by kernel_rfl) rfl (e_storeAt (c := (kChi (kRho (kThetaA a) 25) (kThetaA a) 25).map u64v) rfl rfl rfl inferInstance (by rw [List.length_map]; omega) inferInstance ?_)
      rw [← List.map_set]
      rw [show (kChi (kRho (kThetaA a) 25) (kThetaA a) 25).set 0 ((kChi (kRho (kThetaA a) 25) (kThetaA a) 25).getD 0 0 ^^^ kRc.getD i 0) = kRound a (kRc.getD i 0) from rfl]
      refine to_nil (by kernel_rfl) (.then_normal ?_)
      refine .sub (F' := [(2, _), (4, _)]) (.cons rfl (.cons rfl .nil)) ?_
      refine x_seq (x_region ?_)
      refine tl_y rfl (y_loadAgg rfl rfl (.whole inferInstance (by simp [kRound_length, hl]))) ?_
      refine tl_e rfl (e_store rfl rfl (by simp [kRound_length, hl]) (u64_one _) inferInstance (.whole (by simp [kRound_length, hl])) inferInstance ?_)
      refine tl_nil (.then_normal ?_)
      refine x_ret (retRV (L' := L) (rv1 rfl (rc_cellAgg (by rfl) rfl (.whole inferInstance (by simp [kRound_length, hl])))) inferInstance (Le.refl _) ⟨rfl, rfl, rfl⟩)
theorem Permute_spec (hg : KecG M) {a : List UInt64} (hl : a.length = 25) :
    Con Tryz.prog 246 #[.agg (a.map u64v).toArray] G M L (fun r M' L' => M = M' ∧ L = L' ∧ r = .agg ((kPerm a 24).map u64v).toArray) noPanic := by
  refine enter (args := [_]) (fn := Tryz.f246) ⟨Tryz.func246, rfl, by kernel_rfl, by kernel_rfl⟩ 12 rfl ?_
  refine x_seq (x_region ?_)
  refine tl_e rfl (e_box rfl (fun b1 => ?_))
  refine tl_e rfl (e_alloc (fun b2 => ?_))
  refine tl_nil (.then_normal ?_)
  refine x_seq (x_seq (x_region ?_))
  refine tl_y rfl (y_move rfl) ?_
  refine tl_nil (.then_normal ?_)
  refine x_block ?_
  refine x_loop (I := fun m' F D M2 L1 => ∃ k : Nat, m' = 24 - k ∧ k ≤ 24 ∧ D = [] ∧ M = M2 ∧ L1 = kB b2 (List.replicate 25 0) :: kB b1 (kPerm a k) :: L ∧ F = [(1, .pointer (some ⟨b1, 0, none⟩)), (2, .pointer (some ⟨b2, 0, none⟩)), (4, .int .i64 k)]) (24) (F0 := [(1, _), (2, _), (4, _)]) ?_ (.cons rfl (.cons rfl (.cons rfl .nil))) ?_  -- slots [1, 2, 4], written [4]
  · exact ⟨0, rfl, by omega, rfl, rfl, rfl, rfl⟩
  rintro m _ _ M2 L1 ⟨k, rfl, hk, rfl, rfl, rfl, rfl⟩
  refine x_seq (x_region ?_)
  refine tl_y rfl (y_lss rfl rfl) ?_
  refine tl_nil (.then_normal ?_)
  refine x_seq ?_
  refine x_cond rfl (fun hc1 => ?_) (fun hc1 => ?_)
  ·
    refine x_skip (.then_normal ?_)
    refine x_seq ?_
    refine x_block ?_
    refine x_seq (x_region ?_)
    refine tl_y rfl (y_move (v := .int _ _) rfl) ?_
    refine tl_y rfl (y_assign (v := .int _ _) rfl) ?_
    refine tl_nil (.then_normal ?_)
    refine x_region ?_
    refine tl_y rfl (y_loadAgg rfl rfl (.whole inferInstance (by simp [kPerm_length, hl]))) ?_
    refine tl_y rfl (y_move (v := .int _ _) rfl) ?_
    refine tl_e rfl (e_call' rfl (Round_spec hg (show (kPerm a k).length = 25 by rw [kPerm_length, hl]) k (by omega)) ?_)
    rintro _ _ _ _ ⟨rfl, rfl, rfl⟩
    refine tl_e rfl (e_store rfl rfl (by simp [kRound_length, kPerm_length, hl]) (u64_one _) inferInstance (.whole (by simp [kRound_length, kPerm_length, hl])) inferInstance ?_)
    refine tl_nil (.block_normal (.then_normal ?_))
    refine .sub (F' := [(1, _), (2, _), (4, _)]) (.cons rfl (.cons rfl (.cons rfl .nil))) ?_
    refine x_region ?_
    refine tl_y rfl (y_addI rfl rfl (by omega)) ?_
    refine tl_y rfl (y_move (v := .int _ _) rfl) ?_
    refine tl_nil (.loop_next (m' := 24 - (k + 1)) (by omega) (F' := [(1, _), (2, _), (4, _)]) (.cons rfl (.cons rfl (.cons rfl .nil))) ?_)
    exact ⟨k + 1, rfl, by omega, rfl, rfl, rfl, rfl⟩
  ·
    obtain rfl : k = 24 := by omega
    refine x_exit (.then_exit (.loop_exit (.block_exit (.then_normal ?_))))
    refine x_seq (x_region ?_)
    refine tl_y rfl (y_loadAgg rfl rfl (.whole inferInstance (by simp [kPerm_length, hl]))) ?_
    refine tl_e rfl (e_store rfl rfl (by simp [kPerm_length, hl]) (u64_one _) inferInstance (.whole (by simp [kPerm_length, hl])) inferInstance ?_)
    refine tl_nil (.then_normal ?_)
    refine .sub (F' := [(2, _)]) (.cons rfl .nil) ?_
    refine x_ret (retRV (L' := L) (rv1 rfl (rc_cellAgg (by rfl) rfl (.whole inferInstance (by simp [kPerm_length, hl])))) inferInstance (Le.refl _) ⟨rfl, rfl, rfl⟩)
end
end Go.Proofs.YtiimjodbaogjbaaGreatDoor
set_option linter.unusedVariables false
set_option linter.unusedSimpArgs false
namespace Go.Eng
def putB (v : Nat) : Nat → List UInt8
  | 0 => []
  | n + 1 => putB (v / 256) n ++ [UInt8.ofNat (v % 256)]
theorem putB_length : ∀ (n v : Nat), (putB v n).length = n
  | 0, _ => rfl
  | n + 1, v => by simp [putB, putB_length n]
theorem putB_get : ∀ (n v i : Nat), i < n → (putB v n)[n - 1 - i]? = some (UInt8.ofNat (v / 256 ^ i % 256))
  | 0, _, _, h => by omega
  | n + 1, v, 0, _ => by
    have hl := putB_length n (v / 256)
    rw [putB, Nat.add_sub_cancel, Nat.sub_zero, List.getElem?_append_right (by omega), hl, Nat.sub_self]
    simp
  | n + 1, v, i + 1, h => by
    have hl := putB_length n (v / 256)
    rw [putB, show n + 1 - 1 - (i + 1) = n - 1 - i by omega, List.getElem?_append_left (by omega), putB_get n (v / 256) i (by omega), Nat.pow_succ, Nat.div_div_eq_div_mul, Nat.mul_comm 256]
def getB (bs : List UInt8) : Nat := bs.foldl (fun v b => v * 256 + b.toNat) 0
theorem getB_snoc (bs : List UInt8) (b : UInt8) : getB (bs ++ [b]) = getB bs * 256 + b.toNat := by simp [getB]
theorem snoc_ind {α : Type} {p : List α → Prop} (h0 : p []) (h1 : ∀ l a, p l → p (l ++ [a])) (l : List α) : p l := by
  rw [← List.reverse_reverse l]
  generalize l.reverse = r
  induction r with
  | nil => exact h0
  | cons a r ih => rw [List.reverse_cons]; exact h1 _ _ ih
theorem getB_lt (bs : List UInt8) : getB bs < 256 ^ bs.length := by
  refine snoc_ind (p := fun bs => getB bs < 256 ^ bs.length) (by simp [getB]) (fun l a ih => ?_) bs
  have := a.toNat_lt
  rw [getB_snoc, List.length_append, List.length_singleton, Nat.pow_succ]
  omega
theorem getB_put : ∀ (n v : Nat), getB (putB v n) = v % 256 ^ n
  | 0, v => by simp [getB, putB, Nat.mod_one]
  | n + 1, v => by
    rw [putB, getB_snoc, getB_put n, Nat.pow_succ, UInt8.toNat_ofNat']
    rw [Nat.mul_comm (256 ^ n) 256, Nat.mod_mul]
    omega
theorem get_step (x : UInt64) (c : UInt8) (h : x.toNat < 72057594037927936) : (shl64 x 8 ||| c.toUInt64).toNat = x.toNat * 256 + c.toNat := by
  have hc := c.toNat_lt
  have h1 : (shl64 x 8).toNat = x.toNat * 256 := by rw [shl64, UInt64.toNat_ofNat']; omega
  rw [UInt64.toNat_or, h1, UInt8.toNat_toUInt64]
  have h2 := Nat.shiftLeft_add_eq_or_of_lt (a := x.toNat) (b := c.toNat) (i := 8) hc
  rw [Nat.shiftLeft_eq, show (2 : Nat) ^ 8 = 256 by rfl] at h2
  omega
theorem put_step (v n k : Nat) (h : k < n) : (List.replicate (n - k) (0 : UInt8) ++ (putB v n).drop (n - k)).set (n - 1 - k) (UInt8.ofNat (v / 256 ^ k % 256)) = List.replicate (n - (k + 1)) 0 ++ (putB v n).drop (n - (k + 1)) := by
  have hl := putB_length n v
  have hg := putB_get n v k h
  obtain ⟨d, rfl⟩ : ∃ d, n = k + 1 + d := ⟨n - (k + 1), by omega⟩
  rw [show k + 1 + d - k = d + 1 by omega, show k + 1 + d - 1 - k = d by omega, show k + 1 + d - (k + 1) = d by omega] at *
  have hd : (putB v (k + 1 + d)).drop d = UInt8.ofNat (v / 256 ^ k % 256) :: (putB v (k + 1 + d)).drop (d + 1) := by
    obtain ⟨hlt, he⟩ := List.getElem?_eq_some_iff.1 hg
    rw [List.drop_eq_getElem_cons hlt, he]
  rw [hd, List.replicate_succ', List.append_assoc, List.set_append_right _ _ (by simp)]
  simp
end Go.Eng
set_option linter.unusedVariables false
set_option linter.unusedSimpArgs false
namespace Go.Proofs.YtiimjodbaogjbaaGreatDoor
open Go Go.Eng
def sMix (s : List UInt64) (b : List UInt8) : Nat → List UInt64
  | 0 => s
  | k + 1 => updL (sMix s b k) (k / 8) (· ^^^ shl64 (b.getD k 0).toUInt64 (8 * (k % 8)))
theorem sMix_length (s : List UInt64) (b : List UInt8) (k : Nat) : (sMix s b k).length = s.length := by
  induction k with
  | zero => rfl
  | succ k ih => rw [sMix, updL_length, ih]
def sByte (s : List UInt64) (i : Nat) : UInt8 := (shr64 (s.getD (i / 8) 0) (8 * (i % 8))).toUInt8
def sGive (s : List UInt64) (n : Nat) : List UInt8 := (List.range n).map (sByte s)
theorem sGive_length (s : List UInt64) (n : Nat) : (sGive s n).length = n := by simp [sGive]
theorem sGive_succ (s : List UInt64) (n : Nat) : sGive s (n + 1) = sGive s n ++ [sByte s n] := by simp [sGive, List.range_succ]
def sPadZ (bs : List UInt8) : Nat := 135 - bs.length % 136
def sPad0 (bs : List UInt8) : List UInt8 := bs ++ 31 :: List.replicate (sPadZ bs) 0
def sPad (bs : List UInt8) : List UInt8 := (sPad0 bs).set (bs.length + sPadZ bs) ((sPad0 bs).getD (bs.length + sPadZ bs) 0 ^^^ 128)
theorem sPad0_length (bs : List UInt8) : (sPad0 bs).length = bs.length + 1 + sPadZ bs := by simp [sPad0]; omega
theorem sPad_blocks (bs : List UInt8) : bs.length + 1 + sPadZ bs = 136 * (bs.length / 136 + 1) := by unfold sPadZ; omega
def sAbs (t : List UInt8) : Nat → List UInt64
  | 0 => List.replicate 25 0
  | k + 1 => kPerm (sMix (sAbs t k) ((t.drop (136 * k)).take 136) 136) 24
theorem sAbs_length (t : List UInt8) (k : Nat) : (sAbs t k).length = 25 := by
  cases k with
  | zero => simp [sAbs]
  | succ k => rw [sAbs, kPerm_length, sMix_length]; exact sAbs_length t k
def shk0 (bs : List UInt8) : List UInt64 := sAbs (sPad bs) (bs.length / 136 + 1)
def shk (bs : List UInt8) (n : Nat) : List UInt8 := (sGive (shk0 bs) 136).take n
theorem shk_length (bs : List UInt8) {n : Nat} (h : n ≤ 136) : (shk bs n).length = n := by rw [shk, List.length_take, sGive_length]; omega
end Go.Proofs.YtiimjodbaogjbaaGreatDoor
