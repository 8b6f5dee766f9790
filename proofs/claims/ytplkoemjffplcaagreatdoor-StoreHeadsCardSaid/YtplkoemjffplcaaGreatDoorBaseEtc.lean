/-
Contracts of functions, each proved by a walk through its code.
-/
import Derived.Test.YtplkoemjffplcaaGreatDoorEngSEtc
import Derived.Test.YtplkoemjffplcaaGreatDoorEngIEtc
import Derived.Test.YtplkoemjffplcaaGreatDoorEngWEtc
set_option linter.all false
namespace Go.Proofs.YtplkoemjffplcaaGreatDoor
open Go Go.Eng
theorem bytesClone_spec {G : World} {M : Mem} {L : Own} {A : Option Addr} {n c : Nat} {bs : List UInt8} (h : Bytes M A n c bs) (hn : n ≤ 140737488355328) :
  Con Tryz.prog 55 #[.slice A n c] G M L (fun v M' L' => L' = L ∧ ∃ A' c', v = .slice A' n c' ∧ Bytes M' A' n c' bs) noPanic := by
 refine zfn Tryz.func55 rfl 8 rfl <| zr <| as0 rfl <| zq <| zr2 <| mvS rfl <| tl_y rfl (y_eqNilSlice rfl rfl) <| zq <| x_condb rfl (fun hc1 => ?_) (fun hc1 => ?_)
 ·
  obtain rfl : A = none := by simpa using hc1
  have h0 : n = 0 := by
   rcases Nat.eq_zero_or_pos n with h0 | h0
   ·
    exact h0
   obtain ⟨b, o, e, _⟩ := h.addr h0; cases e
  subst h0
  have hb : bs = [] := List.eq_nil_of_length_eq_zero h.size
  subst hb
  refine zr <| as0 rfl <| zq <| x_ret (.then_ret (ret1 rfl rfl lR ⟨rfl, none, 0, rfl, Row.nil _ _⟩))
 refine x_skip <| .then_normal <| zr <| tl_e rfl <| e_buildSlice0 <| fun b1 => mvS rfl <| tl_e rfl <| e_append1 (by decide) rfl rfl OwnRow.made00 (.row h) (all_one_bv bs) (by omega) (by omega) <| fun A' cap' E hE => ?_
 rw [Nat.zero_add, List.nil_append] at hE; rw [Nat.zero_add]
 refine asS rfl <| zq <| .s1 2 rfl <| x_ret (.pubRow hE fun M' hle hr => ret1 rfl rfl hle ⟨rfl, _, _, rfl, hr⟩)
abbrev Ints (M : Mem) (A : Option Addr) (n cap : Nat) (xs : List Int) : Prop := Row M 1 A n cap (xs.map (.int .i64))
theorem Ints.size {M : Mem} {A : Option Addr} {n cap : Nat} {xs : List Int} (h : Ints M A n cap xs) : xs.length = n := by have := h.len; simpa using this
def noneOf (xs : List Int) (x : Int) (k : Nat) : Prop := ∀ j, j < k → xs.getD j 0 ≠ x
theorem noneOf_succ {xs : List Int} {x : Int} {k : Nat} (h : noneOf xs x k) (hk : ¬ x = xs.getD k 0) : noneOf xs x (k + 1) := fun j hj => by
 rcases Nat.lt_or_ge j k with hlt | hge
 ·
  exact h j hlt
 obtain rfl : j = k := by omega
 exact Ne.symm hk
theorem indexInts_spec {G : World} {M : Mem} {L : Own} {A : Option Addr} {n c : Nat} {xs : List Int} (h : Ints M A n c xs) (x : Int) :
  Con Tryz.prog 266 #[.slice A n c, .int .i64 x] G M L (fun v M' L' => M' = M ∧ L' = L ∧ ∃ r : Int, v = .int .i64 r ∧ (0 ≤ r ↔ x ∈ xs)) noPanic := by
 have hs := h.size
 have hmx := h.max
 have hle := h.le
 refine zfn Tryz.func266 rfl 19 rfl <| zr <| as0 rfl <| zq <| zr2 <| mvS rfl <| tLen rfl <| mv0 rfl <| zq <| x_block ?_
 refine x_loop (I := fun m' F D M1 L1 => ∃ k : Nat, m' = n - k ∧ k ≤ n ∧ noneOf xs x k ∧ D = [] ∧ M1 = M ∧ L1 = L ∧ F = [(0, .slice A n c), (1, .int .i64 x), (4, .int .i64 0), (7, .int .i64 n), (8, .int .i64 k)]) (n) (F0 := [(0, _), (1, _), (4, _), (7, _), (8, _)]) ?_ (cs5 rfl rfl rfl rfl rfl) ?_
 ·
  exact ⟨0, rfl, by omega, (fun j h => by omega), rfl, rfl, rfl, rfl⟩
 rintro m _ _ M1 L1 ⟨k, rfl, hk, hno, rfl, rfl, rfl, rfl⟩
 refine zr <| tl_y rfl (y_lss rfl rfl) <| zq <| x_seq <| x_cond rfl (fun hc1 => ?_) (fun hc1 => ?_)
 ·
  have hkn : k < n := by omega
  obtain ⟨p, o, rfl, hca⟩ := h.addr (by omega)
  have hcell := hca L1 k (.int .i64 (xs.getD k 0)) (by simp [hs, hkn])
  refine x_skip <| .then_normal <| x_seq <| x_block <| zr <| mvI rfl <| asI rfl <| zq <| zr <| mvI rfl <| mvS rfl <| mvI rfl <| tl_y rfl (y_indexAddr rfl rfl (by omega)) <| tl_y rfl (y_load rfl rfl (.at_ hcell (by omega))) <| tl_y rfl (y_eql rfl rfl) <| zq <| .s7 0 1 4 5 7 8 16 rfl rfl rfl rfl rfl rfl rfl <| x_cond rfl (fun hc2 => ?_) (fun hc2 => ?_)
  ·
   refine zr <| mvI rfl <| asI rfl <| zq <| x_ret (.block_ret (.then_ret (.loop_ret (.block_ret (.then_ret (ret1 rfl rfl lR ⟨rfl, rfl, _, rfl, iff_of_true (by omega) (by rw [hc2, List.getD_eq_getElem?_getD, List.getElem?_eq_getElem (by omega)]; simp)⟩))))))
  refine x_skip <| .block_normal <| .then_normal <| x_region <| tl_y rfl (y_addI rfl rfl (by omega)) <| mvI rfl <| tl_nil <| .loop_next (m' := n - (k + 1)) (by omega) (F' := [(0, _), (1, _), (4, _), (7, _), (8, _)]) (cs5 rfl rfl rfl rfl rfl) ?_
  exact ⟨k + 1, rfl, by omega, noneOf_succ hno hc2, rfl, rfl, rfl, rfl⟩
 refine x_exit <| .then_exit <| .loop_exit <| .block_exit <| .then_normal <| .s0 <| zr <| as0 rfl <| zq <| x_ret (ret1 rfl rfl lR ⟨rfl, rfl, _, rfl, iff_of_false (by omega) (fun hm => by obtain ⟨j, hj, he⟩ := List.getElem_of_mem hm; exact hno j (by omega) (by rw [List.getD_eq_getElem?_getD, List.getElem?_eq_getElem hj]; simpa using he))⟩)
theorem containsInts_spec {G : World} {M : Mem} {L : Own} {A : Option Addr} {n c : Nat} {xs : List Int} (h : Ints M A n c xs) (x : Int) :
  Con Tryz.prog 240 #[.slice A n c, .int .i64 x] G M L (fun v M' L' => M' = M ∧ L' = L ∧ v = .bool (decide (x ∈ xs))) noPanic := by
 refine zfn Tryz.func240 rfl 9 rfl <| zr <| as0 rfl <| zq <| zr <| mvS rfl <| mvI rfl <| zca rfl (indexInts_spec h x) ?_
 rintro _ M1 L1 hM1 ⟨rfl, rfl, r, rfl, hr⟩
 refine tl_y rfl (y_geq rfl rfl) <| asB rfl <| zq <| .s1 4 rfl <| x_ret (ret1 rfl rfl lR ⟨rfl, rfl, by congr 1; exact decide_eq_decide.2 hr⟩)
theorem src_in {M : Mem} {L : Own} {s n : Nat} {A : Option Addr} {vs : List Value} {p : Nat × Obj} (h : RowIn M L s A n vs) : Src M (p :: L) s A n vs := ⟨h.len, fun w hw h0 => by
 rcases Nat.eq_zero_or_pos n with h1 | h1
 ·
  subst h1; simp at h0
 obtain ⟨b, o, e, hc⟩ := h.addr h1
 exact ⟨_, e, fun j v hj => by rw [add_plain]; exact hc j v hj w ⟨hw.ro, fun q hq => hw.own q (List.mem_cons_of_mem _ hq)⟩⟩⟩
section
variable {G : World} {M : Mem} {L R : Own}
theorem bytesClone_own {A : Option Addr} {n c : Nat} {bs : List UInt8} (h : RowIn M L 1 A n (bs.map bv)) (hn : n ≤ 140737488355328) :
  Con Tryz.prog 55 #[.slice A n c] G M L (fun v M' L' => M = M' ∧ ∃ A' c' E, v = .slice A' n c' ∧ OwnRow 5 1 A' n c' (bs.map bv) E ∧ L' = E ++ L) noPanic := by
 have hbl : bs.length = n := by have := h.len; simpa using this
 refine zfn Tryz.func55 rfl 8 rfl <| zr <| as0 rfl <| zq <| zr2 <| mvS rfl <| tl_y rfl (y_eqNilSlice rfl rfl) <| zq <| x_condb rfl (fun hc1 => ?_) (fun hc1 => ?_)
 ·
  obtain rfl : A = none := by simpa using hc1
  have h0 : n = 0 := by
   rcases Nat.eq_zero_or_pos n with h0 | h0
   ·
    exact h0
   obtain ⟨b, o, e, _⟩ := h.addr h0; cases e
  subst h0
  have hb : bs = [] := List.eq_nil_of_length_eq_zero hbl
  subst hb
  refine zr <| as0 rfl <| zq <| x_ret (.then_ret (ret1 rfl rfl lR ⟨rfl, none, 0, [], rfl, .nil, rfl⟩))
 refine x_skip <| .then_normal <| zr <| tl_e rfl <| e_buildSlice0 <| fun b1 => mvS rfl <| tl_e rfl <| e_append1 (by decide) rfl rfl OwnRow.made00 (src_in h) (all_one_bv bs) (by omega) (by omega) <| fun A' cap' E hE => ?_
 rw [Nat.zero_add, List.nil_append] at hE; rw [Nat.zero_add]
 refine asS rfl <| zq <| .s1 2 rfl <| x_ret (ret1 rfl rfl lR ⟨rfl, _, _, E, rfl, hE, rfl⟩)
end
def rotl (x : UInt64) (s : Nat) : UInt64 := shl64 x s ||| shr64 x (64 - s)
def kTurns : List Nat := [0, 1, 62, 28, 27, 36, 44, 6, 55, 20, 3, 10, 43, 25, 39, 41, 45, 15, 21, 8, 18, 2, 61, 56, 14]
def kRc : List UInt64 := [0x0000000000000001, 0x0000000000008082, 0x800000000000808a, 0x8000000080008000,
 0x000000000000808b, 0x0000000080000001, 0x8000000080008081, 0x8000000000008009,
 0x000000000000008a, 0x0000000000000088, 0x0000000080008009, 0x000000008000000a,
 0x000000008000808b, 0x800000000000008b, 0x8000000000008089, 0x8000000000008003,
 0x8000000000008002, 0x8000000000000080, 0x000000000000800a, 0x800000008000000a,
 0x8000000080008081, 0x8000000000008080, 0x0000000080000001, 0x8000000080008008]
def updL (l : List UInt64) (i : Nat) (f : UInt64 → UInt64) : List UInt64 := l.set i (f (l.getD i 0))
theorem updL_length (l : List UInt64) (i : Nat) (f : UInt64 → UInt64) : (updL l i f).length = l.length := by simp [updL]
def kCols (a : List UInt64) : Nat → List UInt64
 | 0 => List.replicate 5 0
 | k + 1 => updL (kCols a k) (k % 5) (· ^^^ a.getD k 0)
def kTheta (c a : List UInt64) : Nat → List UInt64
 | 0 => a
 | k + 1 => updL (kTheta c a k) k (· ^^^ (c.getD ((k % 5 + 4) % 5) 0 ^^^ rotl (c.getD ((k % 5 + 1) % 5) 0) 1))
def kRho (a : List UInt64) : Nat → List UInt64
 | 0 => List.replicate 25 0
 | k + 1 => (kRho a k).set (k / 5 + 5 * ((2 * (k % 5) + 3 * (k / 5)) % 5)) (rotl (a.getD k 0) (kTurns.getD k 0))
def kChi (b a : List UInt64) : Nat → List UInt64
 | 0 => a
 | k + 1 => (kChi b a k).set k (b.getD k 0 ^^^ (~~~ (b.getD (k / 5 * 5 + (k % 5 + 1) % 5) 0) &&& b.getD (k / 5 * 5 + (k % 5 + 2) % 5) 0))
def kThetaA (a : List UInt64) : List UInt64 := kTheta (kCols a 25) a 25
def kRound (a : List UInt64) (rc : UInt64) : List UInt64 := updL (kChi (kRho (kThetaA a) 25) (kThetaA a) 25) 0 (· ^^^ rc)
def kPerm (a : List UInt64) : Nat → List UInt64
 | 0 => a
 | k + 1 => kRound (kPerm a k) (kRc.getD k 0)
theorem kCols_length (a : List UInt64) (k : Nat) : (kCols a k).length = 5 := by
 induction k with
 | zero => simp [kCols]
 | succ k ih => rw [kCols, updL_length, ih]
theorem kTheta_length (c a : List UInt64) (k : Nat) : (kTheta c a k).length = a.length := by
 induction k with
 | zero => simp [kTheta]
 | succ k ih => rw [kTheta, updL_length, ih]
theorem kRho_length (a : List UInt64) (k : Nat) : (kRho a k).length = 25 := by
 induction k with
 | zero => simp [kRho]
 | succ k ih => rw [kRho, List.length_set, ih]
theorem kChi_length (b a : List UInt64) (k : Nat) : (kChi b a k).length = a.length := by
 induction k with
 | zero => simp [kChi]
 | succ k ih => rw [kChi, List.length_set, ih]
theorem kRound_length (a : List UInt64) (rc : UInt64) : (kRound a rc).length = a.length := by
 rw [kRound, updL_length, kChi_length, kThetaA, kTheta_length]
theorem kPerm_length (a : List UInt64) (k : Nat) : (kPerm a k).length = a.length := by
 induction k with
 | zero => rfl
 | succ k ih => rw [kPerm, kRound_length, ih]
section
variable {G : World} {M : Mem} {L : Own}
theorem get_u64' (w : List UInt64) (i : Nat) (h : i < w.length) : (w.map u64v)[i]? = some (u64v (w.getD i 0)) := by
 rw [List.getElem?_map, List.getD_eq_getElem?_getD, List.getElem?_eq_getElem h]; rfl
theorem u64_one (w : List UInt64) : (w.map u64v).all one = true := by simp [one, Value.oneCell']
theorem rl64_a : ∀ n : Fin 64, (UInt64.ofInt (n.val : Int) &&& 63).toNat = n.val ∧ (64 - (UInt64.ofInt (n.val : Int) &&& 63)).toNat = 64 - n.val := by decide +kernel
theorem rotl64_spec (x : UInt64) (n : Nat) (hn : n < 64) :
  Con Tryz.prog 288 #[.int .u64 (x.toNat : Int), .int .i64 (n : Int)] G M L (fun r M' L' => M = M' ∧ L = L' ∧ r = .int .u64 ((rotl x n).toNat : Int)) noPanic := by
 obtain ⟨h1, h2⟩ := rl64_a ⟨n, hn⟩
 refine zfn Tryz.func288 rfl 17 rfl <| zr <| as0 rfl <| zq <| zr <| mvI rfl <| tl_y rfl (y_of64 rfl) <| tl_y rfl (y_and64 (b := 63) rfl rfl) <| asI rfl <| zq <| .s2 0 5 rfl rfl <| zr <| mvI rfl <| mvI rfl <| tl_y rfl (y_shl64 rfl rfl) <| mvI rfl <| mvI rfl <| tl_y rfl (y_sub64 (a := 64) rfl rfl) <| tl_y rfl (y_shr64 rfl rfl) <| tl_y rfl (y_or64 rfl rfl) <| asI rfl <| zq <| .s1 4 rfl <| x_ret (ret1 rfl rfl lR ⟨rfl, rfl, by
  have e1 : (UInt64.ofInt (n : Int) &&& 63).toNat = n := h1
  have e2 : (64 - (UInt64.ofInt (n : Int) &&& 63)).toNat = 64 - n := h2
  rw [e1, e2]; rfl⟩)
abbrev kB (b : Nat) (a : List UInt64) : Nat × Obj := (b, .cells (a.map u64v).toArray 357 (0, 0))
theorem theta_spec {b : Nat} {a : List UInt64} (hl : a.length = 25) :
  Con Tryz.prog 287 #[.pointer (some ⟨b, 0, none⟩)] G M (kB b a :: L) (fun r M' L' => M = M' ∧ L' = kB b (kThetaA a) :: L) noPanic := by
 refine zfn Tryz.func287 rfl 48 rfl <| zr <| tl_e rfl <| e_alloc <| fun b1 => zq <| zr2 <| mvP rfl <| mv0 rfl <| zq <| x_block ?_
 refine x_loop (I := fun m' F D M2 L1 => ∃ k : Nat, m' = 25 - k ∧ k ≤ 25 ∧ D = [] ∧ M = M2 ∧ L1 = (b1, .cells ((kCols a k).map u64v).toArray 369 (0, 0)) :: kB b a :: L ∧ F = [(0, .pointer (some ⟨b, 0, none⟩)), (2, .pointer (some ⟨b1, 0, none⟩)), (7, .pointer (some ⟨b, 0, none⟩)), (8, .int .i64 k)]) (25) (F0 := [(0, _), (2, _), (7, _), (8, _)]) ?_ (cs4 rfl rfl rfl rfl) ?_
 ·
  exact ⟨0, rfl, by omega, rfl, rfl, rfl, rfl⟩
 rintro m _ _ M2 L1 ⟨k, rfl, hk, rfl, rfl, rfl, rfl⟩
 refine zr <| tl_y rfl (y_lss rfl rfl) <| zq <| x_seq <| x_cond rfl (fun hc1 => ?_) (fun hc1 => ?_)
 ·
  refine x_skip <| .then_normal <| x_seq <| x_block <| x_seq <| x_draw 6 hmix rfl <| pmI 0 rfl rfl <| zp 1 rfl rfl (y_nilCheck rfl) <| zp 2 rfl rfl (y_indexArr rfl rfl (by omega)) <| zy 3 rfl rfl (y_load rfl rfl (.at_ (.ownAt (i := k) (c := a.map u64v) iI (get_u64' _ _ (by omega))) (by omega))) <| paI 4 rfl rfl ?_
  refine paI 5 rfl rfl <| zz <| .then_normal <| .s6 0 2 3 4 7 8 rfl rfl rfl rfl rfl rfl <| x_region <| mvI rfl <| tl_y rfl (y_remI rfl rfl (by omega)) <| tl_y rfl (y_indexArr rfl rfl (by omega)) <| tl_y rfl (y_load rfl rfl (.at_ (.ownAt (i := k % 5) (c := (kCols a k).map u64v) iI (get_u64' _ _ (by rw [kCols_length]; omega))) (by omega))) <| mvI rfl <| tl_y rfl (y_xor64 rfl rfl) ?_
  refine tl_y rfl (y_indexArr rfl rfl (by omega)) <| tl_e rfl <| e_storeAt (c := (kCols a k).map u64v) rfl rfl rfl iI (by rw [List.length_map, kCols_length]; omega) iI ?_
  rw [show 0 + ((k : Int) % 5).toNat * 1 = k % 5 by omega, ← List.map_set]
  refine tl_nil <| .block_normal <| .then_normal <| .s4 0 2 7 8 rfl rfl rfl rfl <| x_region <| tl_y rfl (y_addI rfl rfl (by omega)) <| mvI rfl <| tl_nil <| .loop_next (m' := 25 - (k + 1)) (by omega) (F' := [(0, _), (2, _), (7, _), (8, _)]) (cs4 rfl rfl rfl rfl) ?_
  exact ⟨k + 1, rfl, by omega, rfl, rfl, rfl, rfl⟩
 obtain rfl : k = 25 := by omega
 refine x_exit <| .then_exit <| .loop_exit <| .block_exit <| .then_normal <| zr <| mv0 rfl <| zq <| x_block ?_
 refine x_loop (I := fun m' F D M2 L1 => ∃ k : Nat, m' = 25 - k ∧ k ≤ 25 ∧ D = [] ∧ M = M2 ∧ L1 = (b1, .cells ((kCols a 25).map u64v).toArray 369 (0, 0)) :: kB b (kTheta (kCols a 25) a k) :: L ∧ F = [(0, .pointer (some ⟨b, 0, none⟩)), (2, .pointer (some ⟨b1, 0, none⟩)), (22, .int .i64 k)]) (25) (F0 := [(0, _), (2, _), (22, _)]) ?_ (cs3 rfl rfl rfl) ?_
 ·
  exact ⟨0, rfl, by omega, rfl, rfl, rfl, rfl⟩
 rintro m _ _ M2 L1 ⟨k, rfl, hk, rfl, rfl, rfl, rfl⟩
 refine zr <| tl_y rfl (y_lss rfl rfl) <| zq <| x_seq <| x_cond rfl (fun hc2 => ?_) (fun hc2 => ?_)
 ·
  refine x_skip <| .then_normal <| x_seq <| x_block <| zr <| mvI rfl <| asI rfl <| zq <| zr <| mvI rfl <| tl_y rfl (y_remI rfl rfl (by omega)) <| asI rfl <| zq <| .s5 0 2 5 6 22 rfl rfl rfl rfl rfl <| x_draw 20 hmix rfl ?_
  refine pmP 0 rfl rfl <| pmI 1 rfl rfl <| zp 2 rfl rfl (y_nilCheck rfl) <| zp 3 rfl rfl (y_indexArr rfl rfl (by omega)) <| zy 4 rfl rfl (y_load rfl rfl (.at_ (.ownAt (i := k) (c := (kTheta (kCols a 25) a k).map u64v) iI (get_u64' _ _ (by rw [kTheta_length]; omega))) (by omega))) <| pmI 5 rfl rfl <| zp 6 rfl rfl (y_addI rfl rfl (by omega)) ?_
  refine zp 7 rfl rfl (y_remI rfl rfl (by omega)) <| zp 8 rfl rfl (y_indexArr rfl rfl (by omega)) <| zy 9 rfl rfl (y_load rfl rfl (.at_ (.ownAt (i := (k % 5 + 4) % 5) (c := (kCols a 25).map u64v) iI (get_u64' _ _ (by rw [kCols_length]; omega))) (by omega))) <| pmI 10 rfl rfl <| zp 11 rfl rfl (y_addI rfl rfl (by omega)) <| zp 12 rfl rfl (y_remI rfl rfl (by omega)) <| zp 13 rfl rfl (y_indexArr rfl rfl (by omega)) ?_
  refine zy 14 rfl rfl (y_load rfl rfl (.at_ (.ownAt (i := (k % 5 + 1) % 5) (c := (kCols a 25).map u64v) iI (get_u64' _ _ (by rw [kCols_length]; omega))) (by omega))) <| zp 18 rfl rfl (y_nilCheck rfl) ?_
  refine ze 15 rfl rfl <| e_call' rfl (rotl64_spec _ 1 (by omega)) ?_
  rintro _ _ _ _ ⟨rfl, rfl, rfl⟩
  refine kp ?_
  refine zp 16 rfl rfl (y_xor64 rfl rfl) <| zp 17 rfl rfl (y_xor64 rfl rfl) <| zp 19 rfl rfl (y_indexArr rfl rfl (by omega)) <| zt 20 rfl rfl <| e_storeAt (c := (kTheta (kCols a 25) a k).map u64v) rfl rfl rfl iI (by rw [List.length_map, kTheta_length]; omega) iI ?_
  rw [show 0 + ((k : Int)).toNat * 1 = k by omega, ← List.map_set]
  refine zz <| .block_normal <| .then_normal <| .s3 0 2 22 rfl rfl rfl <| x_region <| tl_y rfl (y_addI rfl rfl (by omega)) <| mvI rfl <| tl_nil <| .loop_next (m' := 25 - (k + 1)) (by omega) (F' := [(0, _), (2, _), (22, _)]) (cs3 rfl rfl rfl) ?_
  exact ⟨k + 1, rfl, by omega, rfl, rfl, rfl, rfl⟩
 obtain rfl : k = 25 := by omega
 refine x_exit (.then_exit (.loop_exit (.block_exit (.dropTo (kB b (kTheta (kCols a 25) a 25) :: L) iI (end0 rfl lR ⟨rfl, rfl⟩)))))
structure KecG (M : Mem) : Prop where
 rc : ∃ c T fr, M 8 = some (.cells c T fr) ∧ ∀ j, j < 24 → c[j]? = some (u64v (kRc.getD j 0))
 turns : ∃ c T fr, M 7 = some (.cells c T fr) ∧ ∀ j, j < 25 → c[j]? = some (.int .i64 ((kTurns.getD j 0 : Nat) : Int))
theorem KecG.mono {M M' : Mem} (h : KecG M) (hle : Le M M') : KecG M' := ⟨let ⟨c, T, fr, a, b⟩ := h.rc; ⟨c, T, fr, hle _ _ a, b⟩, let ⟨c, T, fr, a, b⟩ := h.turns; ⟨c, T, fr, hle _ _ a, b⟩⟩
theorem rho_at (k : Nat) : 0 + ((k : Int) / 5 + 5 * ((2 * ((k : Int) % 5) + 3 * ((k : Int) / 5)) % 5)).toNat * 1 = k / 5 + 5 * ((2 * (k % 5) + 3 * (k / 5)) % 5) := by
 have : ((k : Int) / 5 + 5 * ((2 * ((k : Int) % 5) + 3 * ((k : Int) / 5)) % 5)) = ((k / 5 + 5 * ((2 * (k % 5) + 3 * (k / 5)) % 5) : Nat) : Int) := by simp
 rw [this, Int.toNat_natCast]; omega
theorem turns_lt : ∀ k : Fin 25, kTurns.getD k.val 0 < 64 := by decide +kernel
theorem Round_spec (hg : KecG M) {a : List UInt64} (hl : a.length = 25) (i : Nat) (hi : i < 24) :
  Con Tryz.prog 286 #[.agg (a.map u64v).toArray, .int .i64 (i : Int)] G M L (fun r M' L' => M = M' ∧ L = L' ∧ r = .agg ((kRound a (kRc.getD i 0)).map u64v).toArray) noPanic := by
 obtain ⟨rc, rct, rcf, hrc1, hrc2⟩ := hg.rc
 obtain ⟨tc, tt, tf, ht1, ht2⟩ := hg.turns
 have htl : (kThetaA a).length = 25 := by rw [kThetaA, kTheta_length, hl]
 refine zfn Tryz.func286 rfl 85 rfl <| zr <| tl_e rfl <| e_box rfl <| fun b1 => tl_e rfl <| e_alloc <| fun b2 => zq <| zr2 <| mvI rfl <| tl_y rfl (y_lss rfl rfl) <| mvB rfl <| tl_set (s := 15) (u := .bool false) rfl (by rw [decide_eq_false]; omega) <| mvI rfl <| tl_y rfl (y_geq rfl rfl) <| tPf rfl rfl <| zq <| .s4 1 2 4 18 rfl rfl rfl rfl <| x_false rfl (by rw [decide_eq_false]; omega) <| x_skip <| .then_normal <| zr <| zca rfl (Con.bring b1 iI (theta_spec hl)) ?_
 rintro _ _ _ _ ⟨rfl, rfl⟩
 refine zq <| zr <| tl_e rfl <| e_alloc <| fun b3 => zq <| zr2 <| tl_y rfl (y_loadAgg rfl rfl (.whole iI (by simp [htl]))) <| mv0 rfl <| zq <| x_block ?_
 refine x_loop (I := fun m' F D M2 L1 => ∃ k : Nat, m' = 25 - k ∧ k ≤ 25 ∧ D = [] ∧ M = M2 ∧ L1 = (b3, .cells ((kRho (kThetaA a) k).map u64v).toArray 357 (0, 0)) :: kB b1 (kThetaA a) :: kB b2 (List.replicate 25 0) :: L ∧ F = [(1, .int .i64 i), (2, .pointer (some ⟨b1, 0, none⟩)), (4, .pointer (some ⟨b2, 0, none⟩)), (5, .pointer (some ⟨b3, 0, none⟩)), (21, .agg ((kThetaA a).map u64v).toArray), (22, .int .i64 k)]) (25) (F0 := [(1, _), (2, _), (4, _), (5, _), (21, _), (22, _)]) ?_ (cs6 rfl rfl rfl rfl rfl rfl) ?_
 ·
  exact ⟨0, rfl, by omega, rfl, rfl, rfl, rfl⟩
 rintro m _ _ M2 L1 ⟨k, rfl, hk, rfl, rfl, rfl, rfl⟩
 refine zr <| tl_y rfl (y_lss rfl rfl) <| zq <| x_seq <| x_cond rfl (fun hc2 => ?_) (fun hc2 => ?_)
 ·
  refine x_skip <| .then_normal <| x_seq <| x_block <| zr <| mvI rfl <| tl_y rfl (y_index rfl rfl (by omega) rfl (by rw [List.getElem?_toArray]; show ((kThetaA a).map u64v)[(k : Int).toNat * 1]? = _; rw [show (k : Int).toNat * 1 = k by omega]; exact get_u64' _ _ (by rw [htl]; omega))) ?_
  refine asI rfl <| asI rfl <| zq <| zr <| mvI rfl <| tl_y rfl (y_remI rfl rfl (by omega)) <| mvI rfl <| tl_y rfl (y_quoI rfl rfl (by omega)) <| asI rfl <| asI rfl <| zq <| .sub (F' := [(1, _), (2, _), (4, _), (5, _), (6, _), (7, _), (8, _), (9, _), (21, _), (22, _)]) (cs10 rfl rfl rfl rfl rfl rfl rfl rfl rfl rfl) <| x_region <| mvI rfl <| mvI rfl <| tl_y rfl (y_mulI rfl rfl (by omega)) <| mvI rfl <| tl_y rfl (y_mulI rfl rfl (by omega)) <| tl_y rfl (y_addI rfl rfl (by omega)) <| tl_y rfl (y_remI rfl rfl (by omega)) <| tl_y rfl (y_mulI rfl rfl (by omega)) <| tl_y rfl (y_addI rfl rfl (by omega)) <| mvI rfl <| mvI rfl <| tl_y rfl (y_indexArr rfl rfl (by omega)) <| tl_y rfl (y_load rfl rfl (.at_ (.ro ht1 (ht2 k (by omega))) (by omega))) ?_
  refine zca rfl (rotl64_spec _ (kTurns.getD k 0) (turns_lt ⟨k, by omega⟩)) ?_
  rintro _ _ _ _ ⟨rfl, rfl, rfl⟩
  refine tl_y rfl (y_indexArr rfl rfl (by omega)) <| tl_e rfl <| e_storeAt (c := (kRho (kThetaA a) k).map u64v) rfl rfl rfl iI (by rw [List.length_map, kRho_length]; omega) iI ?_
  rw [rho_at, ← List.map_set]
  refine tl_nil <| .block_normal <| .then_normal <| .s6 1 2 4 5 21 22 rfl rfl rfl rfl rfl rfl <| x_region <| tl_y rfl (y_addI rfl rfl (by omega)) <| mvI rfl <| tl_nil <| .loop_next (m' := 25 - (k + 1)) (by omega) (F' := [(1, _), (2, _), (4, _), (5, _), (21, _), (22, _)]) (cs6 rfl rfl rfl rfl rfl rfl) ?_
  exact ⟨k + 1, rfl, by omega, rfl, rfl, rfl, rfl⟩
 obtain rfl : k = 25 := by omega
 refine x_exit <| .then_exit <| .loop_exit <| .block_exit <| .then_normal <| zr2 <| mv0 rfl <| zq <| x_block ?_
 refine x_loop (I := fun m' F D M2 L1 => ∃ k : Nat, m' = 25 - k ∧ k ≤ 25 ∧ D = [] ∧ M = M2 ∧ L1 = (b3, .cells ((kRho (kThetaA a) 25).map u64v).toArray 357 (0, 0)) :: kB b1 (kChi (kRho (kThetaA a) 25) (kThetaA a) k) :: kB b2 (List.replicate 25 0) :: L ∧ F = [(1, .int .i64 i), (2, .pointer (some ⟨b1, 0, none⟩)), (4, .pointer (some ⟨b2, 0, none⟩)), (5, .pointer (some ⟨b3, 0, none⟩)), (46, .int .i64 k)]) (25) (F0 := [(1, _), (2, _), (4, _), (5, _), (46, _)]) ?_ (cs5 rfl rfl rfl rfl rfl) ?_
 ·
  exact ⟨0, rfl, by omega, rfl, rfl, rfl, rfl⟩
 rintro m _ _ M2 L1 ⟨k, rfl, hk, rfl, rfl, rfl, rfl⟩
 refine zr <| tl_y rfl (y_lss rfl rfl) <| zq <| x_seq <| x_cond rfl (fun hc3 => ?_) (fun hc3 => ?_)
 ·
  refine x_skip <| .then_normal <| x_seq <| x_block <| zr <| mvI rfl <| asI rfl <| zq <| zr <| mvI rfl <| tl_y rfl (y_remI rfl rfl (by omega)) <| mvI rfl <| tl_y rfl (y_quoI rfl rfl (by omega)) <| tl_y rfl (y_mulI rfl rfl (by omega)) <| asI rfl <| asI rfl <| zq <| .s8 1 2 4 5 10 11 12 46 rfl rfl rfl rfl rfl rfl rfl rfl <| x_draw 22 hmix rfl ?_
  refine pmI 0 rfl rfl <| pmI 1 rfl rfl <| zp 2 rfl rfl (y_indexArr rfl rfl (by omega)) <| zy 3 rfl rfl (y_load rfl rfl (.at_ (.ownAt (i := k) (c := (kRho (kThetaA a) 25).map u64v) iI (get_u64' _ _ (by rw [kRho_length]; omega))) (by omega))) <| pmI 4 rfl rfl <| pmI 5 rfl rfl <| zp 6 rfl rfl (y_addI rfl rfl (by omega)) ?_
  refine zp 7 rfl rfl (y_remI rfl rfl (by omega)) <| zp 8 rfl rfl (y_addI rfl rfl (by omega)) <| zp 9 rfl rfl (y_indexArr rfl rfl (by omega)) <| zy 10 rfl rfl (y_load rfl rfl (.at_ (.ownAt (i := k / 5 * 5 + (k % 5 + 1) % 5) (c := (kRho (kThetaA a) 25).map u64v) iI (get_u64' _ _ (by rw [kRho_length]; omega))) (by omega))) <| zp 11 rfl rfl (y_com64 rfl) <| pmI 12 rfl rfl <| pmI 13 rfl rfl ?_
  refine zp 14 rfl rfl (y_addI rfl rfl (by omega)) <| zp 15 rfl rfl (y_remI rfl rfl (by omega)) <| zp 16 rfl rfl (y_addI rfl rfl (by omega)) <| zp 17 rfl rfl (y_indexArr rfl rfl (by omega)) <| zy 18 rfl rfl (y_load rfl rfl (.at_ (.ownAt (i := k / 5 * 5 + (k % 5 + 2) % 5) (c := (kRho (kThetaA a) 25).map u64v) iI (get_u64' _ _ (by rw [kRho_length]; omega))) (by omega))) <| zp 19 rfl rfl (y_and64 rfl rfl) <| zp 20 rfl rfl (y_xor64 rfl rfl) ?_
  refine zp 21 rfl rfl (y_indexArr rfl rfl (by omega)) <| zt 22 rfl rfl <| e_storeAt (c := (kChi (kRho (kThetaA a) 25) (kThetaA a) k).map u64v) rfl rfl rfl iI (by rw [List.length_map, kChi_length]; omega) iI ?_
  rw [show 0 + ((k : Int)).toNat * 1 = k by omega, ← List.map_set]
  refine zz <| .block_normal <| .then_normal <| .s5 1 2 4 5 46 rfl rfl rfl rfl rfl <| x_region <| tl_y rfl (y_addI rfl rfl (by omega)) <| mvI rfl <| tl_nil <| .loop_next (m' := 25 - (k + 1)) (by omega) (F' := [(1, _), (2, _), (4, _), (5, _), (46, _)]) (cs5 rfl rfl rfl rfl rfl) ?_
  exact ⟨k + 1, rfl, by omega, rfl, rfl, rfl, rfl⟩
 obtain rfl : k = 25 := by omega
 have hcl : (kChi (kRho (kThetaA a) 25) (kThetaA a) 25).length = 25 := by rw [kChi_length, htl]
 refine x_exit <| .then_exit <| .loop_exit <| .block_exit <| .then_normal <| x_seq <| x_draw 7 hmix rfl <| zp 0 rfl rfl (y_indexArrK 0 rfl rfl (by omega)) <| zy 1 rfl rfl (y_load rfl rfl (.at_ (.ownAt (i := 0) (c := (kChi (kRho (kThetaA a) 25) (kThetaA a) 25).map u64v) iI (get_u64' _ _ (by omega))) (by omega))) <| pmI 2 rfl rfl <| zp 3 rfl rfl (y_indexArr rfl rfl (by omega)) <| zy 4 rfl rfl (y_load rfl rfl (.at_ (.ro hrc1 (hrc2 i (by omega))) (by omega))) ?_
 refine zp 5 rfl rfl (y_xor64 rfl rfl) <| zp 6 rfl rfl (y_indexArrK 0 rfl rfl (by omega)) <| zt 7 rfl rfl <| e_storeAt (c := (kChi (kRho (kThetaA a) 25) (kThetaA a) 25).map u64v) rfl rfl rfl iI (by rw [List.length_map]; omega) iI ?_
 rw [← List.map_set]
 rw [show (kChi (kRho (kThetaA a) 25) (kThetaA a) 25).set 0 ((kChi (kRho (kThetaA a) 25) (kThetaA a) 25).getD 0 0 ^^^ kRc.getD i 0) = kRound a (kRc.getD i 0) from rfl]
 refine zz <| .then_normal <| .s2 2 4 rfl rfl <| zr <| tl_y rfl (y_loadAgg rfl rfl (.whole iI (by simp [kRound_length, hl]))) <| tl_e rfl <| e_store rfl rfl (by simp [kRound_length, hl]) (u64_one _) iI (.whole (by simp [kRound_length, hl])) iI <| zq <| x_ret (retRV (L' := L) (rv1 rfl (rc_cellAgg (by rfl) rfl (.whole iI (by simp [kRound_length, hl])))) iI lR ⟨rfl, rfl, rfl⟩)
theorem Permute_spec (hg : KecG M) {a : List UInt64} (hl : a.length = 25) :
  Con Tryz.prog 284 #[.agg (a.map u64v).toArray] G M L (fun r M' L' => M = M' ∧ L = L' ∧ r = .agg ((kPerm a 24).map u64v).toArray) noPanic := by
 refine zfn Tryz.func284 rfl 12 rfl <| zr <| tl_e rfl <| e_box rfl <| fun b1 => tl_e rfl <| e_alloc <| fun b2 => zq <| zr2 <| mv0 rfl <| zq <| x_block ?_
 refine x_loop (I := fun m' F D M2 L1 => ∃ k : Nat, m' = 24 - k ∧ k ≤ 24 ∧ D = [] ∧ M = M2 ∧ L1 = kB b2 (List.replicate 25 0) :: kB b1 (kPerm a k) :: L ∧ F = [(1, .pointer (some ⟨b1, 0, none⟩)), (2, .pointer (some ⟨b2, 0, none⟩)), (4, .int .i64 k)]) (24) (F0 := [(1, _), (2, _), (4, _)]) ?_ (cs3 rfl rfl rfl) ?_
 ·
  exact ⟨0, rfl, by omega, rfl, rfl, rfl, rfl⟩
 rintro m _ _ M2 L1 ⟨k, rfl, hk, rfl, rfl, rfl, rfl⟩
 refine zr <| tl_y rfl (y_lss rfl rfl) <| zq <| x_seq <| x_cond rfl (fun hc1 => ?_) (fun hc1 => ?_)
 ·
  refine x_skip <| .then_normal <| x_seq <| x_block <| zr <| mvI rfl <| asI rfl <| zq <| x_region <| tl_y rfl (y_loadAgg rfl rfl (.whole iI (by simp [kPerm_length, hl]))) <| mvI rfl <| zca rfl (Round_spec hg (show (kPerm a k).length = 25 by rw [kPerm_length, hl]) k (by omega)) ?_
  rintro _ _ _ _ ⟨rfl, rfl, rfl⟩
  refine tl_e rfl <| e_store rfl rfl (by simp [kRound_length, kPerm_length, hl]) (u64_one _) iI (.whole (by simp [kRound_length, kPerm_length, hl])) iI <| tl_nil <| .block_normal <| .then_normal <| .s3 1 2 4 rfl rfl rfl <| x_region <| tl_y rfl (y_addI rfl rfl (by omega)) <| mvI rfl <| tl_nil <| .loop_next (m' := 24 - (k + 1)) (by omega) (F' := [(1, _), (2, _), (4, _)]) (cs3 rfl rfl rfl) ?_
  exact ⟨k + 1, rfl, by omega, rfl, rfl, rfl, rfl⟩
 obtain rfl : k = 24 := by omega
 refine x_exit <| .then_exit <| .loop_exit <| .block_exit <| .then_normal <| zr <| tl_y rfl (y_loadAgg rfl rfl (.whole iI (by simp [kPerm_length, hl]))) <| tl_e rfl <| e_store rfl rfl (by simp [kPerm_length, hl]) (u64_one _) iI (.whole (by simp [kPerm_length, hl])) iI <| zq <| .s1 2 rfl <| x_ret (retRV (L' := L) (rv1 rfl (rc_cellAgg (by rfl) rfl (.whole iI (by simp [kPerm_length, hl])))) iI lR ⟨rfl, rfl, rfl⟩)
end
end Go.Proofs.YtplkoemjffplcaaGreatDoor
namespace Go.Eng
def putB (v : Nat) : Nat → List UInt8
 | 0 => []
 | n + 1 => putB (v / 256) n ++ [UInt8.ofNat (v % 256)]
theorem putB_length : ∀ (n v : Nat), (putB v n).length = n
 | 0, _ => rfl
 | n + 1, v => by simp [putB, putB_length n]
theorem putB_get : ∀ (n v i : Nat), i < n → (putB v n)[n - 1 - i]? = some (UInt8.ofNat (v / 256 ^ i % 256))
 | 0, _, _, h => by omega
 | n + 1, v, 0, _ => by
  have hl := putB_length n (v / 256)
  rw [putB, Nat.add_sub_cancel, Nat.sub_zero, List.getElem?_append_right (by omega), hl, Nat.sub_self]
  simp
 | n + 1, v, i + 1, h => by
  have hl := putB_length n (v / 256)
  rw [putB, show n + 1 - 1 - (i + 1) = n - 1 - i by omega, List.getElem?_append_left (by omega), putB_get n (v / 256) i (by omega), Nat.pow_succ, Nat.div_div_eq_div_mul, Nat.mul_comm 256]
def getB (bs : List UInt8) : Nat := bs.foldl (fun v b => v * 256 + b.toNat) 0
theorem getB_snoc (bs : List UInt8) (b : UInt8) : getB (bs ++ [b]) = getB bs * 256 + b.toNat := by simp [getB]
theorem snoc_ind {α : Type} {p : List α → Prop} (h0 : p []) (h1 : ∀ l a, p l → p (l ++ [a])) (l : List α) : p l := by
 rw [← List.reverse_reverse l]
 generalize l.reverse = r
 induction r with
 | nil => exact h0
 | cons a r ih => rw [List.reverse_cons]; exact h1 _ _ ih
theorem getB_lt (bs : List UInt8) : getB bs < 256 ^ bs.length := by
 refine snoc_ind (p := fun bs => getB bs < 256 ^ bs.length) (by simp [getB]) (fun l a ih => ?_) bs
 have := a.toNat_lt
 rw [getB_snoc, List.length_append, List.length_singleton, Nat.pow_succ]
 omega
theorem getB_put : ∀ (n v : Nat), getB (putB v n) = v % 256 ^ n
 | 0, v => by simp [getB, putB, Nat.mod_one]
 | n + 1, v => by
  rw [putB, getB_snoc, getB_put n, Nat.pow_succ, UInt8.toNat_ofNat']
  rw [Nat.mul_comm (256 ^ n) 256, Nat.mod_mul]
  omega
theorem put_get (bs : List UInt8) : putB (getB bs) bs.length = bs := by
 refine snoc_ind (p := fun bs => putB (getB bs) bs.length = bs) rfl (fun l a ih => ?_) bs
 have ha := a.toNat_lt
 rw [getB_snoc, List.length_append, List.length_singleton, putB]
 rw [show (getB l * 256 + a.toNat) / 256 = getB l by omega, show (getB l * 256 + a.toNat) % 256 = a.toNat by omega, ih]
 simp
theorem get_step (x : UInt64) (c : UInt8) (h : x.toNat < 72057594037927936) : (shl64 x 8 ||| c.toUInt64).toNat = x.toNat * 256 + c.toNat := by
 have hc := c.toNat_lt
 have h1 : (shl64 x 8).toNat = x.toNat * 256 := by rw [shl64, UInt64.toNat_ofNat']; omega
 rw [UInt64.toNat_or, h1, UInt8.toNat_toUInt64]
 have h2 := Nat.shiftLeft_add_eq_or_of_lt (a := x.toNat) (b := c.toNat) (i := 8) hc
 rw [Nat.shiftLeft_eq, show (2 : Nat) ^ 8 = 256 by rfl] at h2
 omega
theorem put_step (v n k : Nat) (h : k < n) : (List.replicate (n - k) (0 : UInt8) ++ (putB v n).drop (n - k)).set (n - 1 - k) (UInt8.ofNat (v / 256 ^ k % 256)) = List.replicate (n - (k + 1)) 0 ++ (putB v n).drop (n - (k + 1)) := by
 have hl := putB_length n v
 have hg := putB_get n v k h
 obtain ⟨d, rfl⟩ : ∃ d, n = k + 1 + d := ⟨n - (k + 1), by omega⟩
 rw [show k + 1 + d - k = d + 1 by omega, show k + 1 + d - 1 - k = d by omega, show k + 1 + d - (k + 1) = d by omega] at *
 have hd : (putB v (k + 1 + d)).drop d = UInt8.ofNat (v / 256 ^ k % 256) :: (putB v (k + 1 + d)).drop (d + 1) := by
  obtain ⟨hlt, he⟩ := List.getElem?_eq_some_iff.1 hg
  rw [List.drop_eq_getElem_cons hlt, he]
 rw [hd, List.replicate_succ', List.append_assoc, List.set_append_right _ _ (by simp)]
 simp
end Go.Eng
namespace Go.Proofs.YtplkoemjffplcaaGreatDoor
open Go Go.Eng
def sMix (s : List UInt64) (b : List UInt8) : Nat → List UInt64
 | 0 => s
 | k + 1 => updL (sMix s b k) (k / 8) (· ^^^ shl64 (b.getD k 0).toUInt64 (8 * (k % 8)))
theorem sMix_length (s : List UInt64) (b : List UInt8) (k : Nat) : (sMix s b k).length = s.length := by
 induction k with
 | zero => rfl
 | succ k ih => rw [sMix, updL_length, ih]
def sByte (s : List UInt64) (i : Nat) : UInt8 := (shr64 (s.getD (i / 8) 0) (8 * (i % 8))).toUInt8
def sGive (s : List UInt64) (n : Nat) : List UInt8 := (List.range n).map (sByte s)
theorem sGive_length (s : List UInt64) (n : Nat) : (sGive s n).length = n := by simp [sGive]
theorem sGive_succ (s : List UInt64) (n : Nat) : sGive s (n + 1) = sGive s n ++ [sByte s n] := by simp [sGive, List.range_succ]
def sPadZ (bs : List UInt8) : Nat := 135 - bs.length % 136
def sPad0 (bs : List UInt8) : List UInt8 := bs ++ 31 :: List.replicate (sPadZ bs) 0
def sPad (bs : List UInt8) : List UInt8 := (sPad0 bs).set (bs.length + sPadZ bs) ((sPad0 bs).getD (bs.length + sPadZ bs) 0 ^^^ 128)
theorem sPad0_length (bs : List UInt8) : (sPad0 bs).length = bs.length + 1 + sPadZ bs := by simp [sPad0]; omega
theorem sPad_blocks (bs : List UInt8) : bs.length + 1 + sPadZ bs = 136 * (bs.length / 136 + 1) := by unfold sPadZ; omega
def sAbs (t : List UInt8) : Nat → List UInt64
 | 0 => List.replicate 25 0
 | k + 1 => kPerm (sMix (sAbs t k) ((t.drop (136 * k)).take 136) 136) 24
theorem sAbs_length (t : List UInt8) (k : Nat) : (sAbs t k).length = 25 := by
 cases k with
 | zero => simp [sAbs]
 | succ k => rw [sAbs, kPerm_length, sMix_length]; exact sAbs_length t k
def shk0 (bs : List UInt8) : List UInt64 := sAbs (sPad bs) (bs.length / 136 + 1)
def shk (bs : List UInt8) (n : Nat) : List UInt8 := (sGive (shk0 bs) 136).take n
theorem shk_length (bs : List UInt8) {n : Nat} (h : n ≤ 136) : (shk bs n).length = n := by rw [shk, List.length_take, sGive_length]; omega
section
variable {G : World} {M : Mem} {L : Own}
theorem mix_spec (hg : KecG M) {s : List UInt64} (hs : s.length = 25) {A : Option Addr} {c : Nat} {bs : List UInt8} (h : Bytes M A 136 c bs) :
  Con Tryz.prog 282 #[.agg (s.map u64v).toArray, .slice A 136 c] G M L (fun r M' L' => M = M' ∧ L = L' ∧ r = .agg ((kPerm (sMix s bs 136) 24).map u64v).toArray) noPanic := by
 have hbl := h.size
 obtain ⟨g, o, rfl, hca⟩ := h.byte (by omega)
 refine zfn Tryz.func282 rfl 29 rfl <| zr <| tl_e rfl <| e_box rfl <| fun b1 => tl_e rfl <| e_alloc <| fun b2 => zq <| zr2 <| mvS rfl <| tLen rfl <| mv0 rfl <| zq <| x_block ?_
 refine x_loop (I := fun m' F D M2 L1 => ∃ k : Nat, m' = 136 - k ∧ k ≤ 136 ∧ D = [] ∧ M = M2 ∧ L1 = kB b2 (List.replicate 25 0) :: kB b1 (sMix s bs k) :: L ∧ F = [(2, .pointer (some ⟨b1, 0, none⟩)), (4, .pointer (some ⟨b2, 0, none⟩)), (7, .slice (some ⟨g, o, none⟩) 136 c), (8, .int .i64 136), (9, .int .i64 k)]) (136) (F0 := [(2, _), (4, _), (7, _), (8, _), (9, _)]) ?_ (cs5 rfl rfl rfl rfl rfl) ?_
 ·
  exact ⟨0, rfl, by omega, rfl, rfl, rfl, rfl⟩
 rintro m _ _ M2 L1 ⟨k, rfl, hk, rfl, rfl, rfl, rfl⟩
 refine zr <| tl_y rfl (y_lss rfl rfl) <| zq <| x_seq <| x_cond rfl (fun hc1 => ?_) (fun hc1 => ?_)
 ·
  refine x_skip <| .then_normal <| x_seq <| x_block <| zr <| mvI rfl <| tl_y rfl (y_indexAddr rfl rfl (by omega)) <| tl_y rfl (y_load rfl rfl (.at_ (hca _ k (by omega)) (by omega))) <| asI rfl <| asI rfl <| zq <| .s7 2 4 5 6 7 8 9 rfl rfl rfl rfl rfl rfl rfl <| x_draw 12 hmix rfl ?_
  refine pmI 0 rfl rfl <| zp 1 rfl rfl (y_quoI rfl rfl (by omega)) <| zp 2 rfl rfl (y_indexArr rfl rfl (by omega)) <| zy 3 rfl rfl (y_load rfl rfl (.at_ (.ownAt (i := k / 8) (c := (sMix s bs k).map u64v) iI (get_u64' _ _ (by rw [sMix_length]; omega))) (by omega))) <| pmI 4 rfl rfl <| zp 5 rfl rfl (y_u8u64 rfl) <| pmI 6 rfl rfl <| zp 7 rfl rfl (y_remI rfl rfl (by omega)) ?_
  refine zp 8 rfl rfl (y_mulI rfl rfl (by omega)) ?_
  rw [show (8 * ((k : Int) % 8)) = ((8 * (k % 8) : Nat) : Int) by omega]
  refine zp 9 rfl rfl (y_shl64 rfl rfl) <| zp 10 rfl rfl (y_xor64 rfl rfl) <| zp 11 rfl rfl (y_indexArr rfl rfl (by omega)) <| zt 12 rfl rfl <| e_storeAt (c := (sMix s bs k).map u64v) rfl rfl rfl iI (by rw [List.length_map, sMix_length]; omega) iI ?_
  rw [show 0 + ((k : Int) / 8).toNat * 1 = k / 8 by omega, ← List.map_set]
  refine zz <| .block_normal <| .then_normal <| .s5 2 4 7 8 9 rfl rfl rfl rfl rfl <| x_region <| tl_y rfl (y_addI rfl rfl (by omega)) <| mvI rfl <| tl_nil <| .loop_next (m' := 136 - (k + 1)) (by omega) (F' := [(2, _), (4, _), (7, _), (8, _), (9, _)]) (cs5 rfl rfl rfl rfl rfl) ?_
  exact ⟨k + 1, rfl, by omega, rfl, rfl, rfl, rfl⟩
 obtain rfl : k = 136 := by omega
 have hml : (sMix s bs 136).length = 25 := by rw [sMix_length, hs]
 refine x_exit <| .then_exit <| .loop_exit <| .block_exit <| .then_normal <| .s2 2 4 rfl rfl <| zr <| tl_y rfl (y_loadAgg rfl rfl (.whole iI (by simp [hml]))) <| zca rfl (Permute_spec hg hml) ?_
 rintro _ _ _ _ ⟨rfl, rfl, rfl⟩
 refine tl_e rfl <| e_store rfl rfl (by simp [kPerm_length, hml]) (u64_one _) iI (.whole (by simp [kPerm_length, hml])) iI <| zq <| x_ret (retRV (L' := L) (rv1 rfl (rc_cellAgg (by rfl) rfl (.whole iI (by simp [kPerm_length, hml])))) iI lR ⟨rfl, rfl, rfl⟩)
theorem give_spec {s : List UInt64} (hs : s.length = 25) :
  Con Tryz.prog 283 #[.agg (s.map u64v).toArray] G M L (fun r M' L' => L = L' ∧ ∃ A c, r = .slice A 136 c ∧ Bytes M' A 136 c (sGive s 136)) noPanic := by
 refine zfn Tryz.func283 rfl 25 rfl <| zr <| tl_e rfl <| e_box rfl <| fun b1 => as0 rfl <| zq <| zr <| tl_e rfl <| e_make1 rfl rfl (by omega) (by omega) (by omega) (by omega) <| fun b2 => asS rfl <| zq <| zr2 <| mvS rfl <| tLen rfl <| mv0 rfl <| zq <| .s4 1 3 7 8 rfl rfl rfl rfl <| x_block ?_
 refine x_loop (I := fun m' F D M2 L1 => ∃ k : Nat, m' = 136 - k ∧ k ≤ 136 ∧ D = [] ∧ M = M2 ∧ L1 = (b2, .cells ((sGive s k).map bv ++ List.replicate (136 - k) (Value.int .u8 0)).toArray 5 (0, 0)) :: kB b1 s :: L ∧ F = [(1, .pointer (some ⟨b1, 0, none⟩)), (3, .slice (some ⟨b2, 0, none⟩) 136 136), (7, .int .i64 136), (8, .int .i64 k)]) (136) (F0 := [(1, _), (3, _), (7, _), (8, _)]) ?_ (cs4 rfl rfl rfl rfl) ?_
 ·
  exact ⟨0, rfl, by omega, rfl, rfl, rfl, rfl⟩
 rintro m _ _ M2 L1 ⟨k, rfl, hk, rfl, rfl, rfl, rfl⟩
 refine zr <| tl_y rfl (y_lss rfl rfl) <| zq <| x_seq <| x_cond rfl (fun hc1 => ?_) (fun hc1 => ?_)
 ·
  refine x_skip <| .then_normal <| x_seq <| x_block <| zr <| mvI rfl <| asI rfl <| zq <| x_region <| mvS rfl <| mvI rfl <| mvI rfl <| tl_y rfl (y_quoI rfl rfl (by omega)) <| tl_y rfl (y_indexArr rfl rfl (by omega)) <| tl_y rfl (y_load rfl rfl (.at_ (.ownAt (i := k / 8) (c := s.map u64v) iI (get_u64' _ _ (by omega))) (by omega))) <| mvI rfl <| tl_y rfl (y_remI rfl rfl (by omega)) <| tl_y rfl (y_mulI rfl rfl (by omega)) ?_
  rw [show (8 * ((k : Int) % 8)) = ((8 * (k % 8) : Nat) : Int) by omega]
  refine tl_y rfl (y_shr64 rfl rfl) <| tl_y rfl (y_u64u8 rfl) <| tl_y rfl (y_indexAddr rfl rfl (by omega)) <| tl_e rfl <| e_storeAt (c := (sGive s k).map bv ++ List.replicate (136 - k) (.int .u8 0)) rfl rfl rfl iI (by simp [sGive_length]; omega) iI ?_
  have hset := set_zero (a := sGive s k) (m := 136) (v := sByte s k) (by rw [sGive_length]; omega)
  rw [sGive_length] at hset
  rw [show 0 + ((k : Int)).toNat * 1 = k by omega, show (u8v (shr64 (s.getD (k / 8) 0) (8 * (k % 8))).toUInt8) = .int .u8 ((sByte s k).toNat : Int) from rfl, hset, ← sGive_succ]
  refine tl_nil <| .block_normal <| .then_normal <| .s4 1 3 7 8 rfl rfl rfl rfl <| x_region <| tl_y rfl (y_addI rfl rfl (by omega)) <| mvI rfl <| tl_nil <| .loop_next (m' := 136 - (k + 1)) (by omega) (F' := [(1, _), (3, _), (7, _), (8, _)]) (cs4 rfl rfl rfl rfl) ?_
  exact ⟨k + 1, rfl, by omega, rfl, rfl, rfl, rfl⟩
 obtain rfl : k = 136 := by omega
 rw [show (sGive s 136).map bv ++ List.replicate (136 - 136) (Value.int .u8 0) = (sGive s 136).map bv by simp]
 refine x_exit <| .then_exit <| .loop_exit <| .block_exit <| .then_normal <| .s1 3 rfl <| zr <| mvS rfl <| asS rfl <| zq <| x_ret (.pub b2 iI (fun M1 hM1 hb2 => .dropTo L iI (ret1 rfl rfl hM1 ⟨rfl, _, _, rfl, Row.whole hb2 (by simp [sGive_length]) (by omega)⟩)))
theorem pad31_snoc (bs : List UInt8) (k : Nat) : (bs ++ 31 :: List.replicate (k + 1) 0).map bv = (bs ++ 31 :: List.replicate k 0).map bv ++ [Value.int .u8 0] := by rw [List.replicate_succ']; simp [bv]
theorem pad31_first (bs : List UInt8) : (bs ++ 31 :: List.replicate 0 0).map bv = bs.map bv ++ [Value.int .u8 31] := by simp [bv]
abbrev rdL (p : Nat) (s : List UInt64) (A : Option Addr) (n c : Nat) : Nat × Obj := (p, .cells (s.map u64v ++ [Value.slice A n c]).toArray 359 (0, 0))
theorem ShNew_spec (hg : KecG M) {A : Option Addr} {n c : Nat} {bs : List UInt8} (h : Bytes M A n c bs) (hn : n ≤ 1099511627776) :
  Con Tryz.prog 277 #[.slice A n c] G M L (fun r M' L' => ∃ p A' c', r = .pointer (some ⟨p, 0, none⟩) ∧ L' = rdL p (shk0 bs) A' 136 c' :: L ∧ Bytes M' A' 136 c' (sGive (shk0 bs) 136)) noPanic := by
 have hbl := h.size
 have hz : sPadZ bs = 135 - n % 136 := by rw [sPadZ, hbl]
 refine zfn Tryz.func277 rfl 54 rfl <| zr <| as0 rfl <| zq <| zr <| mvS rfl <| zca rfl (bytesClone_own h.in_ (by omega)) ?_
 rintro _ _ _ _ ⟨rfl, A1, c1, E1, rfl, hE1, rfl⟩
 refine tl_e rfl <| e_buildSlice rfl (by decide) <| fun b2 => .to (E1 ++ ((b2, .cells #[.int .u8 31] 5 (0, 0)) :: L)) iI <| tl_e rfl <| e_append (by decide) rfl rfl hE1 (.own iI rfl) rfl (by omega) (by omega) <| fun A2 c2 E2 hE2 => asS rfl <| zq <| .s1 3 rfl <| x_seq <| x_block ?_
 refine x_loop (I := fun m' F D M1 L1 => ∃ (k : Nat) (A2 : Option Addr) (c2 : Nat) (E2 : Own), m' = sPadZ bs - k ∧ k ≤ sPadZ bs ∧ OwnRow 5 1 A2 (n + 1 + k) c2 ((bs ++ 31 :: List.replicate k 0).map bv) E2 ∧ D = [] ∧ M = M1 ∧ DropTo L1 (E2 ++ L) ∧ F = [(3, .slice A2 (n + 1 + k) c2)]) (sPadZ bs) (F0 := [(3, _)]) ?_ (.cons rfl .nil) ?_
 ·
  exact ⟨0, A2, c2, E2, rfl, by omega, by rw [pad31_first]; exact hE2, rfl, rfl, iI, rfl⟩
 rintro m _ _ M1 L1 ⟨k, A2, c2, E2, rfl, hk, hE2, rfl, rfl, hdr, rfl⟩
 refine zr2 <| mvS rfl <| tLen rfl <| tl_y rfl (y_remI rfl rfl (by omega)) <| tl_y rfl (y_neq rfl rfl) <| zq <| x_cond rfl (fun hc1 => ?_) (fun hc1 => ?_)
 ·
  have hkn : k < sPadZ bs := by omega
  refine .dropTo _ hdr <| x_skip <| .then_normal <| .s1 3 rfl <| x_block <| x_region <| mvS rfl <| tl_e rfl <| e_buildSlice rfl (by decide) <| fun b3 => .to (E2 ++ ((b3, .cells #[.int .u8 0] 5 (0, 0)) :: L)) iI <| tl_e rfl <| e_append (by decide) rfl rfl hE2 (.own iI rfl) rfl (by omega) (by omega) <| fun A3 c3 E3 hE3 => asS rfl <| tl_nil <| .block_normal <| .loop_next (m' := sPadZ bs - (k + 1)) (by omega) (F' := [(3, _)]) (.cons rfl .nil) ?_
  exact ⟨k + 1, A3, c3, E3, rfl, by omega, by rw [pad31_snoc]; exact hE3, rfl, rfl, iI, rfl⟩
 obtain rfl : k = sPadZ bs := by omega
 refine .dropTo _ hdr ?_
 have hpl := sPad0_length bs
 have hbk := sPad_blocks bs
 rw [hbl] at hpl hbk
 change OwnRow _ _ _ _ _ ((sPad0 bs).map bv) _ at hE2
 obtain ⟨g, pre, slack, rfl, rfl⟩ := hE2.pos (by omega)
 simp only [List.cons_append, List.nil_append]
 refine x_exit <| .then_exit <| .loop_exit <| .block_exit <| .then_normal <| .s1 3 rfl <| zr <| mvS rfl <| mvS rfl <| tLen rfl <| tl_y rfl (y_subI rfl rfl (by omega)) <| tl_y rfl (y_indexAddr rfl rfl (by omega)) <| tl_y rfl (y_load rfl rfl (.at_ (.ownAt (i := pre.length + (n + sPadZ bs)) (c := pre ++ ((sPad0 bs).map bv ++ slack)) iI (get_mid (by omega))) (by omega))) <| tl_y rfl (y_xor8 (b := 128) rfl rfl) <| tl_y rfl (y_indexAddr rfl rfl (by omega)) <| tl_e rfl <| e_storeAt (c := pre ++ ((sPad0 bs).map bv ++ slack)) rfl rfl rfl iI (by simp; omega) iI ?_
 rw [show pre.length + (((n + 1 + sPadZ bs : Nat) : Int) - 1).toNat * 1 = pre.length + (n + sPadZ bs) by omega]
 have hE3 := hE2.set (n + sPadZ bs) (.int .u8 (((sPad0 bs).getD (n + sPadZ bs) 0 ^^^ 128).toNat : Int)) (by rw [List.length_map]; omega)
 rw [show ((sPad0 bs).map bv).set (n + sPadZ bs) (.int .u8 (((sPad0 bs).getD (n + sPadZ bs) 0 ^^^ 128).toNat : Int)) = (sPad bs).map bv by rw [sPad, hbl, List.map_set]; rfl] at hE3
 generalize hgo : (pre ++ ((sPad0 bs).map bv ++ slack)).set (pre.length + (n + sPadZ bs)) (.int .u8 (((sPad0 bs).getD (n + sPadZ bs) 0 ^^^ 128).toNat : Int)) = whole at hE3
 refine .eqL (L' := [(g, .cells whole.toArray 5 (0, 0))] ++ L) rfl <| .pubRow hE3 <| fun M1 hM1 hT => ?_
 rw [hbk] at hT
 rw [hbk]
 refine zq <| .s1 3 rfl <| zr <| tl_y rfl (y_build rfl) <| tl_e rfl <| e_box rfl <| fun b3 => .eqL (L' := rdL b3 (List.replicate 25 0) none 0 0 :: L) rfl <| asP rfl <| zq <| x_seq <| x_block ?_
 refine x_loop (I := fun m' F D M2 L2 => ∃ (k : Nat) (A3 : Option Addr) (c3 : Nat), m' = n / 136 + 1 - k ∧ k ≤ n / 136 + 1 ∧ Bytes M2 A3 (136 * (n / 136 + 1) - 136 * k) c3 ((sPad bs).drop (136 * k)) ∧ D = [] ∧ M1 = M2 ∧ L2 = rdL b3 (sAbs (sPad bs) k) none 0 0 :: L ∧ F = [(3, .slice A3 (136 * (n / 136 + 1) - 136 * k) c3), (4, .pointer (some ⟨b3, 0, none⟩))]) (n / 136 + 1) (F0 := [(3, _), (4, _)]) ?_ (cs2 rfl rfl) ?_
 ·
  exact ⟨0, _, _, rfl, by omega, by simpa using hT, rfl, rfl, rfl, rfl⟩
 rintro m _ _ M2 L2 ⟨k, A3, c3, rfl, hk, hA3, rfl, rfl, rfl, rfl⟩
 refine zr2 <| mvS rfl <| tLen rfl <| tl_y rfl (y_gtr rfl rfl) <| zq <| x_cond rfl (fun hc2 => ?_) (fun hc2 => ?_)
 ·
  have hkn : k < n / 136 + 1 := by omega
  have hA3l := hA3.le
  have hsl := sAbs_length (sPad bs) k
  refine x_skip <| .then_normal <| x_seq <| x_block <| x_draw 10 hmix rfl <| pmP 0 rfl rfl <| pmP 1 rfl rfl <| zp 2 rfl rfl (y_nilCheck rfl) <| pFa 3 rfl rfl <| zy 4 rfl rfl (y_loadAgg rfl rfl (.own iI (cutLeft (by simp [hsl])))) <| pmS 5 rfl rfl ?_
  refine zp 6 rfl rfl (y_slice3 rfl rfl rfl (by omega) (by omega)) ?_
  refine ze 7 rfl rfl <| e_call' rfl (mix_spec (hg.mono hM1) hsl (Bytes.take3 hA3 136 136 (by omega) (by omega) (by omega))) ?_
  rintro _ _ _ _ ⟨rfl, rfl, rfl⟩
  refine kp ?_
  refine zp 8 rfl rfl (y_nilCheck rfl) <| pFa 9 rfl rfl <| zt 10 rfl rfl <| e_store rfl rfl (by simp [kPerm_length, sMix_length, hsl]) (u64_one _) iI (putLeft (by simp [kPerm_length, sMix_length, hsl])) iI <| zz <| .block_normal <| .then_normal <| .s2 3 4 rfl rfl <| x_region <| mvS rfl <| mvS rfl <| tLen rfl <| mvS rfl ?_
  refine tLen rfl <| tl_y rfl (y_slice3L rfl rfl rfl rfl (by omega) (by omega)) <| asS rfl <| tl_nil <| .loop_next (m' := n / 136 + 1 - (k + 1)) (by omega) (F' := [(3, _), (4, _)]) (cs2 rfl rfl) ?_
  exact ⟨k + 1, _, _, rfl, by omega, by
   have h1 := Bytes.sub3 hA3 136 (136 * (n / 136 + 1) - 136 * k) (by omega) (Nat.le_refl _) (by omega)
   rw [List.drop_drop] at h1
   rw [show 136 * (k + 1) = 136 * k + 136 by omega, ← Nat.sub_sub]
   exact h1, rfl, rfl, rfl, by rw [show 136 * (k + 1) = 136 * k + 136 by omega, ← Nat.sub_sub]; rfl⟩
 obtain rfl : k = n / 136 + 1 := by omega
 have hsl := sAbs_length (sPad bs) (n / 136 + 1)
 refine x_exit <| .then_exit <| .loop_exit <| .block_exit <| .then_normal <| .s1 4 rfl <| zr <| mvP rfl <| mvP rfl <| zc rfl <| tFa rfl <| tl_y rfl (y_loadAgg rfl rfl (.own iI (cutLeft (by simp [hsl])))) <| zca rfl (give_spec hsl) ?_
 rintro _ M3 _ hM3 ⟨rfl, A4, c4, rfl, hA4⟩
 refine zc rfl <| tFa rfl <| tl_e rfl <| e_store rfl rfl (by rfl) (by rfl) iI (putRight (n := 25) (by simp [hsl]) iI) iI <| zq <| .s1 4 rfl <| zr <| mvP rfl <| asP rfl <| zq <| x_ret (ret1 rfl rfl (hM1.trans hM3) ⟨_, A4, c4, rfl, by rw [shk0, hbl], by rw [shk0, hbl]; exact hA4⟩)
theorem ShRead_spec {p : Nat} {s : List UInt64} (hs : s.length = 25) {A : Option Addr} {c : Nat} {bs : List UInt8} (h : Bytes M A 136 c bs) (n : Nat) (hn : n ≤ 136) :
  Con Tryz.prog 278 #[.pointer (some ⟨p, 0, none⟩), .int .i64 (n : Int)] G M (rdL p s A 136 c :: L) (fun r M' L' => ∃ A' c', r = .slice A' n c' ∧ Bytes M' A' n c' (bs.take n) ∧ L' = L) noPanic := by
 have hbl := h.size
 have hcl := h.le
 refine zfn Tryz.func278 rfl 63 rfl <| zr <| as0 rfl <| zq <| zr2 <| mvI rfl <| tl_y rfl (y_lss rfl rfl) <| mvB rfl <| tl_set (s := 9) (u := .bool false) rfl (by rw [decide_eq_false]; omega) <| mvI rfl <| tl_y rfl (y_gtr rfl rfl) <| tPf rfl rfl <| zq <| .s4 0 1 4 12 rfl rfl rfl rfl <| x_false rfl (by rw [decide_eq_false]; omega) <| x_skip <| .then_normal <| zr <| mvI rfl <| tl_e rfl <| e_make1 rfl rfl (by omega) (by omega) (by omega) (by omega) <| fun b1 => asS rfl <| zq <| x_block ?_
 refine x_loop (I := fun m' F D M2 L2 => m' = 0 ∧ D = [] ∧ M = M2 ∧ L2 = (b1, .cells (List.replicate n (Value.int .u8 0)).toArray 5 (0, 0)) :: rdL p s A 136 c :: L ∧ F = [(0, .pointer (some ⟨p, 0, none⟩)), (1, .int .i64 n), (4, .slice none 0 0), (5, .slice (some ⟨b1, 0, none⟩) 0 n)]) (0) (F0 := [(0, _), (1, _), (4, _), (5, _)]) ?_ (cs4 rfl rfl rfl rfl) ?_
 ·
  exact ⟨rfl, rfl, rfl, rfl, rfl⟩
 rintro m _ _ M2 L2 ⟨rfl, rfl, rfl, rfl, rfl⟩
 refine x_block <| zr <| mvI rfl <| mvS rfl <| tLen rfl <| tl_y rfl (y_subI rfl rfl (by omega)) <| mvP rfl <| zc rfl <| tFa rfl <| tl_y rfl (y_load rfl rfl (.at_ (.ownAt (i := 25) (c := s.map u64v ++ [Value.slice A 136 c]) iI (getRight (i := 0) (by simp [hs]))) (by omega))) <| tLen rfl <| tl_y rfl (y_min rfl rfl) ?_
 rw [show (if ((136 : Nat) : Int) < (n : Int) - ((0 : Nat) : Int) then ((136 : Nat) : Int) else (n : Int) - ((0 : Nat) : Int)) = (n : Int) by rw [if_neg (by omega)]; omega]
 refine asI rfl <| zq <| .s5 0 1 4 5 6 rfl rfl rfl rfl rfl <| x_seq <| x_draw0 18 ([rdL p s A 136 c]) Keeps.mem hmix rfl <| pmP 0 rfl rfl <| pmS 1 rfl rfl <| pmP 2 rfl rfl <| zp 3 rfl rfl (y_nilCheck rfl) <| pFa 4 rfl rfl ?_
 refine zy 5 rfl rfl (y_load rfl rfl (.at_ (.ownAt (i := 25) (c := s.map u64v ++ [Value.slice A 136 c]) iI (getRight (i := 0) (by simp [hs]))) (by omega))) <| pmI 6 rfl rfl <| zp 7 rfl rfl (y_sliceH rfl rfl (by omega) (by omega)) <| pmP 9 rfl rfl <| zp 10 rfl rfl (y_nilCheck rfl) <| pFa 11 rfl rfl <| zy 12 rfl rfl (y_load rfl rfl (.at_ (.ownAt (i := 25) (c := s.map u64v ++ [Value.slice A 136 c]) iI (getRight (i := 0) (by simp [hs]))) (by omega))) ?_
 refine pmI 13 rfl rfl <| zp 14 rfl rfl (y_sliceL rfl rfl (by omega)) <| ze 8 rfl rfl <| e_append1 (by decide) rfl rfl (OwnRow.made0 (n := n) (vs := List.replicate n (Value.int .u8 0)) (by simp) (by omega)) (.row (Bytes.take h n hn)) (all_one_bv _) (by omega) (by omega) <| fun A2 c2 E2 hE2 => ?_
 rw [Nat.zero_add, List.nil_append] at hE2
 rw [Nat.zero_add]
 refine kp ?_
 refine paS 15 rfl rfl <| zp 16 rfl rfl (y_nilCheck rfl) <| pFa 17 rfl rfl <| zt 18 rfl rfl <| e_store rfl rfl (by rfl) (by rfl) iI (putRight (n := 25) (by simp [hs]) iI) iI <| zz <| .then_normal <| .s4 0 1 4 5 rfl rfl rfl rfl <| zr2 <| mvS rfl <| tLen rfl <| mvI rfl ?_
 refine tl_y rfl (y_eql rfl rfl) <| zq <| x_true rfl (by simp) <| zr <| mvS rfl <| asS rfl <| zq <| .s4 0 1 4 5 rfl rfl rfl rfl <| x_ret (.then_ret (.block_ret (.loop_ret (.block_ret (.pubRow hE2 (fun M' hM' hr => .dropTo L iI (ret1 rfl rfl hM' ⟨_, _, rfl, hr, rfl⟩)))))))
theorem ShSum_spec (hg : KecG M) {A : Option Addr} {m c : Nat} {bs : List UInt8} (h : Bytes M A m c bs) (hm : m ≤ 1099511627776) (n : Nat) (hn : n ≤ 136) :
  Con Tryz.prog 273 #[.slice A m c, .int .i64 (n : Int)] G M L (fun r M' L' => ∃ A' c', r = .slice A' n c' ∧ Bytes M' A' n c' (shk bs n) ∧ L' = L) noPanic := by
 refine zfn Tryz.func273 rfl 9 rfl <| zr <| as0 rfl <| zq <| zr <| mvS rfl <| zca rfl (ShNew_spec hg h hm) ?_
 rintro _ M1 _ hM1 ⟨p, A1, c1, rfl, rfl, hA1⟩
 refine mvI rfl <| zca rfl (ShRead_spec (sAbs_length _ _) hA1 n hn) ?_
 rintro _ M2 _ hM2 ⟨A2, c2, rfl, hA2, rfl⟩
 refine asS rfl <| zq <| .s1 4 rfl <| x_ret (ret1 rfl rfl (hM1.trans hM2) ⟨_, _, rfl, hA2, rfl⟩)
end
end Go.Proofs.YtplkoemjffplcaaGreatDoor
