/-
Contracts of functions, each proved by a walk through its code.
-/
import Derived.Test.YtbgdjdhbejbhkaaDoorTypes1
import Derived.Test.YtbgdjdhbejbhkaaDoorEngIEtc
import Derived.Test.YtbgdjdhbejbhkaaDoorEngWEtc
set_option linter.unusedVariables false
set_option linter.unusedSimpArgs false
namespace Go.Proofs.YtbgdjdhbejbhkaaDoor
open Go Go.Eng
theorem bytesClone_spec {G : World} {M : Mem} {L : Own} {A : Option Addr} {n c : Nat} {bs : List UInt8} (h : Bytes M A n c bs) (hn : n ≤ 140737488355328) :
    Con Tryd.prog 73 #[.slice A n c] G M L (fun v M' L' => L' = L ∧ ∃ A' c', v = .slice A' n c' ∧ Bytes M' A' n c' bs) noPanic := by
  refine enter (args := [_]) (fn := Tryd.f73) ⟨Tryd.func73, rfl, by kernel_rfl, by kernel_rfl⟩ 8 rfl ?_
  refine x_seq (x_region ?_)
  refine tl_y rfl (y_assign rfl) ?_
  refine tl_nil (.then_normal ?_)
  refine x_seq (x_seq (x_region ?_))
  refine tl_y rfl (y_move (v := .slice _ _ _) rfl) ?_
  refine tl_y rfl (y_eqNilSlice rfl rfl) ?_
  refine tl_nil (.then_normal ?_)
  refine x_condb rfl (fun hc1 => ?_) (fun hc1 => ?_)
  ·
    obtain rfl : A = none := by simpa using hc1
    have h0 : n = 0 := by
      rcases Nat.eq_zero_or_pos n with h0 | h0
      · exact h0
      · obtain ⟨b, o, e, _⟩ := h.addr h0; cases e
    subst h0
    have hb : bs = [] := List.eq_nil_of_length_eq_zero h.size
    subst hb
    refine x_seq (x_region ?_)
    refine tl_y rfl (y_assign rfl) ?_
    refine tl_nil (.then_normal ?_)
    refine x_ret (.then_ret (ret1 rfl rfl (Le.refl _) ⟨rfl, none, 0, rfl, Row.nil _ _⟩))
  ·
    refine x_skip (.then_normal ?_)
    refine x_seq (x_region ?_)
    refine tl_e rfl (e_buildSlice0 (fun b1 => ?_))
    refine tl_y rfl (y_move (v := .slice _ _ _) rfl) ?_
    refine tl_e rfl (e_append1 (by decide) rfl rfl OwnRow.made00 (.row h) (all_one_bv bs) (by omega) (by omega) (fun A' cap' E hE => ?_))
    rw [Nat.zero_add, List.nil_append] at hE; rw [Nat.zero_add]
    refine tl_y rfl (y_assign (v := .slice _ _ _) rfl) ?_
    refine tl_nil (.then_normal ?_)
    refine .sub (F' := [(2, _)]) (.cons rfl .nil) ?_
    refine x_ret (.pubRow hE fun M' hle hr => ret1 rfl rfl hle ⟨rfl, _, _, rfl, hr⟩)
abbrev Ints (M : Mem) (A : Option Addr) (n cap : Nat) (xs : List Int) : Prop := Row M 1 A n cap (xs.map (.int .i64))
theorem ints_one (xs : List Int) : (xs.map (Value.int .i64)).all one = true := by simp [one, Value.oneCell']
theorem Ints.size {M : Mem} {A : Option Addr} {n cap : Nat} {xs : List Int} (h : Ints M A n cap xs) : xs.length = n := by have := h.len; simpa using this
theorem cloneInts_spec {G : World} {M : Mem} {L : Own} {A : Option Addr} {n c : Nat} {xs : List Int} (h : Ints M A n c xs) (hn : n ≤ 17592186044416) :
    Con Tryd.prog 124 #[.slice A n c] G M L (fun v M' L' => L' = L ∧ ∃ A' c', v = .slice A' n c' ∧ Ints M' A' n c' xs) noPanic := by
  refine enter (args := [_]) (fn := Tryd.f124) ⟨Tryd.func124, rfl, by kernel_rfl, by kernel_rfl⟩ 8 rfl ?_
  refine x_seq (x_region ?_)
  refine tl_y rfl (y_assign rfl) ?_
  refine tl_nil (.then_normal ?_)
  refine x_seq (x_seq (x_region ?_))
  refine tl_y rfl (y_move (v := .slice _ _ _) rfl) ?_
  refine tl_y rfl (y_eqNilSlice rfl rfl) ?_
  refine tl_nil (.then_normal ?_)
  refine x_condb rfl (fun hc1 => ?_) (fun hc1 => ?_)
  ·
    obtain rfl : A = none := by simpa using hc1
    have h0 : n = 0 := by
      rcases Nat.eq_zero_or_pos n with h0 | h0
      · exact h0
      · obtain ⟨b, o, e, _⟩ := h.addr h0; cases e
    subst h0
    have hb : xs = [] := List.eq_nil_of_length_eq_zero h.size
    subst hb
    refine x_seq (x_region ?_)
    refine tl_y rfl (y_assign rfl) ?_
    refine tl_nil (.then_normal ?_)
    refine x_ret (.then_ret (ret1 rfl rfl (Le.refl _) ⟨rfl, none, 0, rfl, Row.nil _ _⟩))
  ·
    refine x_skip (.then_normal ?_)
    refine x_seq (x_region ?_)
    refine tl_e rfl (e_buildSlice0 (fun b1 => ?_))
    refine tl_y rfl (y_move (v := .slice _ _ _) rfl) ?_
    refine tl_e rfl (e_append1 (by decide) rfl rfl OwnRow.made00 (.row h) (ints_one xs) (by omega) (by omega) (fun A' cap' E hE => ?_))
    rw [Nat.zero_add, List.nil_append] at hE; rw [Nat.zero_add]
    refine tl_y rfl (y_assign (v := .slice _ _ _) rfl) ?_
    refine tl_nil (.then_normal ?_)
    refine .sub (F' := [(2, _)]) (.cons rfl .nil) ?_
    refine x_ret (.pubRow hE fun M' hle hr => ret1 rfl rfl hle ⟨rfl, _, _, rfl, hr⟩)
def noneOf (xs : List Int) (x : Int) (k : Nat) : Prop := ∀ j, j < k → xs.getD j 0 ≠ x
theorem noneOf_succ {xs : List Int} {x : Int} {k : Nat} (h : noneOf xs x k) (hk : ¬ x = xs.getD k 0) : noneOf xs x (k + 1) := fun j hj => by
  rcases Nat.lt_or_ge j k with hlt | hge
  · exact h j hlt
  · obtain rfl : j = k := by omega
    exact Ne.symm hk
theorem indexInts_spec {G : World} {M : Mem} {L : Own} {A : Option Addr} {n c : Nat} {xs : List Int} (h : Ints M A n c xs) (x : Int) :
    Con Tryd.prog 146 #[.slice A n c, .int .i64 x] G M L (fun v M' L' => M' = M ∧ L' = L ∧ ∃ r : Int, v = .int .i64 r ∧ (0 ≤ r ↔ x ∈ xs)) noPanic := by
  have hs := h.size
  have hmx := h.max
  have hle := h.le
  refine enter (args := [_, _]) (fn := Tryd.f146) ⟨Tryd.func146, rfl, by kernel_rfl, by kernel_rfl⟩ 19 rfl ?_
  refine x_seq (x_region ?_)
  refine tl_y rfl (y_assign rfl) ?_
  refine tl_nil (.then_normal ?_)
  refine x_seq (x_seq (x_region ?_))
  refine tl_y rfl (y_move (v := .slice _ _ _) rfl) ?_
  refine tl_y rfl (y_len rfl) ?_
  refine tl_y rfl (y_move rfl) ?_
  refine tl_nil (.then_normal ?_)
  refine x_block ?_
  refine x_loop (I := fun m' F D M1 L1 => ∃ k : Nat, m' = n - k ∧ k ≤ n ∧ noneOf xs x k ∧ D = [] ∧ M1 = M ∧ L1 = L ∧ F = [(0, .slice A n c), (1, .int .i64 x), (4, .int .i64 0), (7, .int .i64 n), (8, .int .i64 k)]) (n) (F0 := [(0, _), (1, _), (4, _), (7, _), (8, _)]) ?_ (.cons rfl (.cons rfl (.cons rfl (.cons rfl (.cons rfl .nil))))) ?_  -- slots [0, 1, 4, 7, 8], written [4, 8]
  · exact ⟨0, rfl, by omega, (fun j h => by omega), rfl, rfl, rfl, rfl⟩
  rintro m _ _ M1 L1 ⟨k, rfl, hk, hno, rfl, rfl, rfl, rfl⟩
  refine x_seq (x_region ?_)
  refine tl_y rfl (y_lss rfl rfl) ?_
  refine tl_nil (.then_normal ?_)
  refine x_seq ?_
  refine x_cond rfl (fun hc1 => ?_) (fun hc1 => ?_)
  ·
    have hkn : k < n := by omega
    obtain ⟨p, o, rfl, hca⟩ := h.addr (by omega)
    have hcell := hca L1 k (.int .i64 (xs.getD k 0)) (by simp [hs, hkn])
    refine x_skip (.then_normal ?_)
    refine x_seq ?_
    refine x_block ?_
    refine x_seq (x_region ?_)
    refine tl_y rfl (y_move (v := .int _ _) rfl) ?_
    refine tl_y rfl (y_assign (v := .int _ _) rfl) ?_
    refine tl_nil (.then_normal ?_)
    refine x_seq (x_region ?_)
    refine tl_y rfl (y_move (v := .int _ _) rfl) ?_
    refine tl_y rfl (y_move (v := .slice _ _ _) rfl) ?_
    refine tl_y rfl (y_move (v := .int _ _) rfl) ?_
    refine tl_y rfl (y_indexAddr rfl rfl (by omega)) ?_
    refine tl_y rfl (y_load rfl rfl (.at_ hcell (by omega))) ?_
    refine tl_y rfl (y_eql rfl rfl) ?_
    refine tl_nil (.then_normal ?_)
    refine .sub (F' := [(0, _), (1, _), (4, _), (5, _), (7, _), (8, _), (16, _)]) (.cons rfl (.cons rfl (.cons rfl (.cons rfl (.cons rfl (.cons rfl (.cons rfl .nil))))))) ?_
    refine x_cond rfl (fun hc2 => ?_) (fun hc2 => ?_)
    ·
      refine x_seq (x_region ?_)
      refine tl_y rfl (y_move (v := .int _ _) rfl) ?_
      refine tl_y rfl (y_assign (v := .int _ _) rfl) ?_
      refine tl_nil (.then_normal ?_)
      refine x_ret (.block_ret (.then_ret (.loop_ret (.block_ret (.then_ret (ret1 rfl rfl (Le.refl _) ⟨rfl, rfl, _, rfl, iff_of_true (by omega) (by rw [hc2, List.getD_eq_getElem?_getD, List.getElem?_eq_getElem (by omega)]; simp)⟩))))))
    ·
      refine x_skip (.block_normal (.then_normal ?_))
      refine x_region ?_
      refine tl_y rfl (y_addI rfl rfl (by omega)) ?_
      refine tl_y rfl (y_move (v := .int _ _) rfl) ?_
      refine tl_nil (.loop_next (m' := n - (k + 1)) (by omega) (F' := [(0, _), (1, _), (4, _), (7, _), (8, _)]) (.cons rfl (.cons rfl (.cons rfl (.cons rfl (.cons rfl .nil))))) ?_)
      exact ⟨k + 1, rfl, by omega, noneOf_succ hno hc2, rfl, rfl, rfl, rfl⟩
  ·
    refine x_exit (.then_exit (.loop_exit (.block_exit (.then_normal ?_))))
    refine .sub (F' := []) .nil ?_
    refine x_seq (x_region ?_)
    refine tl_y rfl (y_assign rfl) ?_
    refine tl_nil (.then_normal ?_)
    refine x_ret (ret1 rfl rfl (Le.refl _) ⟨rfl, rfl, _, rfl, iff_of_false (by omega) (fun hm => by obtain ⟨j, hj, he⟩ := List.getElem_of_mem hm; exact hno j (by omega) (by rw [List.getD_eq_getElem?_getD, List.getElem?_eq_getElem hj]; simpa using he))⟩)
theorem containsInts_spec {G : World} {M : Mem} {L : Own} {A : Option Addr} {n c : Nat} {xs : List Int} (h : Ints M A n c xs) (x : Int) :
    Con Tryd.prog 120 #[.slice A n c, .int .i64 x] G M L (fun v M' L' => M' = M ∧ L' = L ∧ v = .bool (decide (x ∈ xs))) noPanic := by
  refine enter (args := [_, _]) (fn := Tryd.f120) ⟨Tryd.func120, rfl, by kernel_rfl, by kernel_rfl⟩ 9 rfl ?_
  refine x_seq (x_region ?_)
  refine tl_y rfl (y_assign rfl) ?_
  refine tl_nil (.then_normal ?_)
  refine x_seq (x_region ?_)
  refine tl_y rfl (y_move (v := .slice _ _ _) rfl) ?_
  refine tl_y rfl (y_move (v := .int _ _) rfl) ?_
  refine tl_e rfl (e_call' rfl (indexInts_spec h x) ?_)
  rintro _ M1 L1 hM1 ⟨rfl, rfl, r, rfl, hr⟩
  refine tl_y rfl (y_geq rfl rfl) ?_
  refine tl_y rfl (y_assign (v := .bool _) rfl) ?_
  refine tl_nil (.then_normal ?_)
  refine .sub (F' := [(4, _)]) (.cons rfl .nil) ?_
  refine x_ret (ret1 rfl rfl (Le.refl _) ⟨rfl, rfl, by congr 1; exact decide_eq_decide.2 hr⟩)
end Go.Proofs.YtbgdjdhbejbhkaaDoor
set_option linter.unusedVariables false
set_option linter.unusedSimpArgs false
set_option linter.constructorNameAsVariable false
namespace Go.Proofs.YtbgdjdhbejbhkaaDoor
open Go Go.Eng
section
variable {G : World} {M : Mem} {L : Own}
theorem shr8N (x : Nat) : Int.fdiv (x : Int) (2 ^ (min (Int.toNat 8) IntKind.u64.bits)) = ((x / 256 : Nat) : Int) := by
  show Int.fdiv (x : Int) 256 = _
  rw [Int.fdiv_eq_ediv_of_nonneg _ (by decide)]; omega
theorem len64_spec (x : Nat) (hx : x < 65536) :
    Con Tryd.prog 188 #[.int .u64 (x : Int)] G M L (fun v M' L' => M = M' ∧ L = L' ∧ v = .int .i64 (lenT x : Nat)) noPanic := by
  refine enter (args := [_]) (fn := Tryd.f188) ⟨Tryd.func188, rfl, by kernel_rfl, by kernel_rfl⟩ 25 rfl ?_
  refine x_seq (x_region ?_)
  refine tl_y rfl (y_assign rfl) ?_
  refine tl_nil (.then_normal ?_)
  refine x_seq (x_seq (x_region ?_))
  refine tl_y rfl (y_move (v := .int _ _) rfl) ?_
  refine tl_y rfl (y_geq rfl rfl) ?_
  refine tl_nil (.then_normal ?_)
  refine x_false rfl (by rw [decide_eq_false]; omega) ?_
  refine x_skip (.then_normal ?_)
  refine x_seq (x_seq (x_region ?_))
  refine tl_y rfl (y_move (v := .int _ _) rfl) ?_
  refine tl_y rfl (y_geq rfl rfl) ?_
  refine tl_nil (.then_normal ?_)
  refine x_false rfl (by rw [decide_eq_false]; omega) ?_
  refine x_skip (.then_normal ?_)
  refine .sub (F' := [(0, _), (2, _)]) (.cons rfl (.cons rfl .nil)) ?_
  refine x_seq (x_seq (x_region ?_))
  refine tl_y rfl (y_move (v := .int _ _) rfl) ?_
  refine tl_y rfl (y_geq rfl rfl) ?_
  refine tl_nil (.then_normal ?_)
  refine x_cond rfl (fun hc3 => ?_) (fun hc3 => ?_)
  ·
    have ht := t8_le (x / 256) (by omega)
    refine x_seq (x_region ?_)
    refine tl_y rfl (y_move (v := .int _ _) rfl) ?_
    refine tl_y rfl (y_shr rfl rfl (by omega)) ?_
    rw [shr8N]
    refine tl_y rfl (y_assign (v := .int _ _) rfl) ?_
    refine tl_nil (.then_normal ?_)
    refine .sub (F' := [(0, _), (2, _)]) (.cons rfl (.cons rfl .nil)) ?_
    refine x_region ?_
    refine tl_y rfl (y_move (v := .int _ _) rfl) ?_
    refine tl_y rfl (y_addI rfl rfl (by omega)) ?_
    refine tl_y rfl (y_assign (v := .int _ _) rfl) ?_
    refine tl_nil (.then_normal ?_)
    refine x_seq (x_region ?_)
    refine tl_y rfl (y_move (v := .int _ _) rfl) ?_
    refine tl_y rfl (y_move (v := .int _ _) rfl) ?_
    refine tl_y rfl (y_convN8 rfl (by omega)) ?_
    refine tl_y rfl (y_indexStr rfl rfl (by omega) (by rw [Int.toNat_natCast]; exact all256 (p := fun i => _ = some (UInt8.ofNat (t8 i))) (by decide +kernel) (x / 256) (by omega))) ?_
    rw [show (UInt8.ofNat (t8 (x / 256))).toNat = t8 (x / 256) by rw [UInt8.toNat_ofNat']; omega]
    refine tl_y rfl (y_convI rfl (by omega)) ?_
    refine tl_y rfl (y_addI rfl rfl (by omega)) ?_
    refine tl_y rfl (y_assign (v := .int _ _) rfl) ?_
    refine tl_nil (.then_normal ?_)
    refine .sub (F' := [(2, _)]) (.cons rfl .nil) ?_
    refine x_ret (ret1 rfl rfl (Le.refl _) ⟨rfl, rfl, by
      rw [lenT, if_pos (by omega)]; rfl⟩)
  ·
    have ht := t8_le x (by omega)
    refine x_skip (.then_normal ?_)
    refine x_seq (x_region ?_)
    refine tl_y rfl (y_move (v := .int _ _) rfl) ?_
    refine tl_y rfl (y_move (v := .int _ _) rfl) ?_
    refine tl_y rfl (y_convN8 rfl (by omega)) ?_
    refine tl_y rfl (y_indexStr rfl rfl (by omega) (by rw [Int.toNat_natCast]; exact all256 (p := fun i => _ = some (UInt8.ofNat (t8 i))) (by decide +kernel) x (by omega))) ?_
    rw [show (UInt8.ofNat (t8 x)).toNat = t8 x by rw [UInt8.toNat_ofNat']; omega]
    refine tl_y rfl (y_convI rfl (by omega)) ?_
    refine tl_y rfl (y_addI rfl rfl (by omega)) ?_
    refine tl_y rfl (y_assign (v := .int _ _) rfl) ?_
    refine tl_nil (.then_normal ?_)
    refine .sub (F' := [(2, _)]) (.cons rfl .nil) ?_
    refine x_ret (ret1 rfl rfl (Le.refl _) ⟨rfl, rfl, by
      rw [lenT, if_neg (by omega)]; congr 1; omega⟩)
theorem len_spec (x : Nat) (hx : x < 65536) :
    Con Tryd.prog 184 #[.int .u64 (x : Int)] G M L (fun v M' L' => M = M' ∧ L = L' ∧ v = .int .i64 (lenT x : Nat)) noPanic := by
  refine enter (args := [_]) (fn := Tryd.f184) ⟨Tryd.func184, rfl, by kernel_rfl, by kernel_rfl⟩ 8 rfl ?_
  refine x_seq (x_region ?_)
  refine tl_y rfl (y_assign rfl) ?_
  refine tl_nil (.then_normal ?_)
  refine x_seq ?_
  refine x_false rfl rfl ?_
  refine x_skip (.then_normal ?_)
  refine x_seq (x_region ?_)
  refine tl_y rfl (y_move (v := .int _ _) rfl) ?_
  refine tl_e rfl (e_call' rfl (len64_spec x hx) ?_)
  rintro _ _ _ _ ⟨rfl, rfl, rfl⟩
  refine tl_y rfl (y_assign (v := .int _ _) rfl) ?_
  refine tl_nil (.then_normal ?_)
  refine x_ret (ret1 rfl rfl (Le.refl _) ⟨rfl, rfl, rfl⟩)
theorem widths_spec :
    Con Tryd.prog 186 #[] G M L (fun v M' L' => M = M' ∧ L = L' ∧ v = .agg (List.toArray [.int .i64 1, .int .i64 2, .int .i64 4, .int .i64 8])) noPanic := by
  refine enter (args := []) (fn := Tryd.f186) ⟨Tryd.func186, rfl, by kernel_rfl, by kernel_rfl⟩ 2 rfl ?_
  refine x_seq (x_region ?_)
  refine tl_e rfl (e_alloc (fun b1 => ?_))
  refine tl_nil (.then_normal ?_)
  refine x_seq (x_region ?_)
  refine tl_y rfl (y_buildArr rfl) ?_
  refine tl_e rfl (e_store rfl rfl (by rfl) (by rfl) inferInstance inferInstance inferInstance ?_)
  refine tl_nil (.then_normal ?_)
  refine x_ret (retRV (L' := L) (rv1 rfl (rc_cellAgg (by rfl) rfl (.own inferInstance inferInstance))) inferInstance (Le.refl _) ⟨rfl, rfl, rfl⟩)
theorem dMay_spec (w : Int) :
    Con Tryd.prog 183 #[.int .i64 w] G M L (fun v M' L' => L = L' ∧ v = .bool (decide (w ∈ [1, 2, 4, 8]))) noPanic := by
  refine enter (args := [_]) (fn := Tryd.f183) ⟨Tryd.func183, rfl, by kernel_rfl, by kernel_rfl⟩ 8 rfl ?_
  refine x_seq (x_region ?_)
  refine tl_y rfl (y_assign rfl) ?_
  refine tl_nil (.then_normal ?_)
  refine x_seq (x_region ?_)
  refine tl_e rfl (e_call' rfl widths_spec ?_)
  rintro _ _ _ _ ⟨rfl, rfl, rfl⟩
  refine tl_e rfl (e_alloc (fun b1 => ?_))
  refine tl_e rfl (e_store rfl rfl (by rfl) (by rfl) inferInstance inferInstance inferInstance ?_)
  refine tl_nil (.then_normal ?_)
  refine x_seq (x_region ?_)
  refine tl_y rfl (y_sliceArr rfl) ?_
  refine tl_y rfl (y_move (v := .int _ _) rfl) ?_
  refine .pub b1 inferInstance (fun M1 hM1 hb1 => ?_)
  have hrow : Ints M1 (some ⟨b1, 0, none⟩) 4 4 [1, 2, 4, 8] := Row.whole hb1 rfl (by omega)
  refine tl_e rfl (e_call' rfl (containsInts_spec hrow w) ?_)
  rintro _ _ _ _ ⟨rfl, rfl, rfl⟩
  refine tl_y rfl (y_assign (v := .bool _) rfl) ?_
  refine tl_nil (.then_normal ?_)
  refine .sub (F' := [(2, _)]) (.cons rfl .nil) ?_
  refine x_ret (ret1 rfl rfl hM1 ⟨rfl, rfl⟩)
theorem isW_mem {w : Nat} (h : isW w) : decide (((w : Nat) : Int) ∈ ([1, 2, 4, 8] : List Int)) = true := by rcases h with rfl | rfl | rfl | rfl <;> rfl
theorem Shape_spec {n w : Nat} (hn : isN n) (hw : isW w) :
    Con Tryd.prog 175 #[.int .i64 (n : Int), .int .i64 (w : Int)] G M L (fun v M' L' => L = L' ∧ v = .tuple #[.int .i64 (shU n w : Nat), .int .i64 (shV n w : Nat), .int .i64 (shS n w : Nat)]) noPanic := by
  obtain ⟨h1, h2, h3, h4, h5, h6, h7, h8, h9, h10⟩ := shape_fact hn hw
  have hnb : 24 ≤ n ∧ n ≤ 32 := by rcases hn with rfl | rfl <;> omega
  have hu : (8 * (n : Int)) / (w : Int) = ((shU n w : Nat) : Int) := by rw [shU]; simp
  have hx : (((2 ^ w : Nat) : Int) - 1) * ((shU n w : Nat) : Int) = ((shX n w : Nat) : Int) := by
    rw [shX, show ((2 ^ w : Nat) : Int) - 1 = ((2 ^ w - 1 : Nat) : Int) by omega]; simp
  have hv : (((lenT (shX n w) : Nat) : Int) + (w : Int) - 1) / (w : Int) = ((shV n w : Nat) : Int) := by
    rw [shV, show ((lenT (shX n w) : Nat) : Int) + (w : Int) - 1 = ((lenT (shX n w) + w - 1 : Nat) : Int) by omega]; simp
  have hs : ((shV n w : Nat) : Int) * (w : Int) = ((shV n w * w : Nat) : Int) := by simp
  refine enter (args := [_, _]) (fn := Tryd.f175) ⟨Tryd.func175, rfl, by kernel_rfl, by kernel_rfl⟩ 42 rfl ?_
  refine x_seq (x_region ?_)
  refine tl_y rfl (y_assign rfl) ?_
  refine tl_y rfl (y_assign rfl) ?_
  refine tl_y rfl (y_assign rfl) ?_
  refine tl_nil (.then_normal ?_)
  refine x_seq (x_seq (x_region ?_))
  refine tl_y rfl (y_move (v := .int _ _) rfl) ?_
  refine tl_y rfl (y_lss rfl rfl) ?_
  refine tl_y rfl (y_move (v := .bool _) rfl) ?_
  refine tl_set (s := 11) (u := .bool false) rfl (by rw [decide_eq_false]; omega) ?_
  refine tl_y rfl (y_move (v := .int _ _) rfl) ?_
  refine tl_y rfl (y_gtr rfl rfl) ?_
  refine tl_y rfl (y_pickF rfl rfl) ?_
  refine tl_y rfl (y_move (v := .bool _) rfl) ?_
  refine tl_set (s := 15) (u := .bool false) rfl (by rw [decide_eq_false]; omega) ?_
  refine tl_y rfl (y_move (v := .int _ _) rfl) ?_
  refine tl_e rfl (e_call' rfl (dMay_spec _) ?_)
  rintro _ M1 _ hM1 ⟨rfl, rfl⟩
  rw [isW_mem hw]
  refine tl_y rfl (y_not rfl) ?_
  refine tl_y rfl (y_pickF rfl rfl) ?_
  refine tl_nil (.then_normal ?_)
  refine .sub (F' := [(0, _), (1, _), (19, _)]) (.cons rfl (.cons rfl (.cons rfl .nil))) ?_
  refine x_false rfl (rfl) ?_
  refine x_skip (.then_normal ?_)
  refine x_seq (x_region ?_)
  refine tl_y rfl (y_move (v := .int _ _) rfl) ?_
  refine tl_y rfl (y_mulI rfl rfl (by omega)) ?_
  refine tl_y rfl (y_move (v := .int _ _) rfl) ?_
  refine tl_y rfl (y_quoI rfl rfl (by omega)) ?_
  rw [hu]
  refine tl_y rfl (y_assign (v := .int _ _) rfl) ?_
  refine tl_nil (.then_normal ?_)
  refine .sub (F' := [(1, _), (7, _)]) (.cons rfl (.cons rfl .nil)) ?_
  refine x_seq (x_region ?_)
  refine tl_y rfl (y_move (v := .int _ _) rfl) ?_
  refine tl_y rfl (y_shl rfl rfl (by omega)) ?_
  rw [shl1_w hw]
  refine tl_y rfl (y_subI rfl rfl (by omega)) ?_
  refine tl_y rfl (y_move (v := .int _ _) rfl) ?_
  refine tl_y rfl (y_mulI rfl rfl (by rw [hx]; omega)) ?_
  rw [hx]
  refine tl_y rfl (y_convN64 rfl (by omega)) ?_
  refine tl_e rfl (e_call' rfl (len_spec (shX n w) h2) ?_)
  rintro _ _ _ _ ⟨rfl, rfl, rfl⟩
  refine tl_y rfl (y_move (v := .int _ _) rfl) ?_
  refine tl_y rfl (y_addI rfl rfl (by omega)) ?_
  refine tl_y rfl (y_subI rfl rfl (by omega)) ?_
  refine tl_y rfl (y_move (v := .int _ _) rfl) ?_
  refine tl_y rfl (y_quoI rfl rfl (by omega)) ?_
  rw [hv]
  refine tl_y rfl (y_assign (v := .int _ _) rfl) ?_
  refine tl_nil (.then_normal ?_)
  refine .sub (F' := [(1, _), (7, _), (8, _)]) (.cons rfl (.cons rfl (.cons rfl .nil))) ?_
  refine x_seq (x_region ?_)
  refine tl_y rfl (y_move (v := .int _ _) rfl) ?_
  refine tl_y rfl (y_move (v := .int _ _) rfl) ?_
  refine tl_y rfl (y_move (v := .int _ _) rfl) ?_
  refine tl_y rfl (y_move (v := .int _ _) rfl) ?_
  refine tl_y rfl (y_mulI rfl rfl (by rw [hs]; omega)) ?_
  rw [hs]
  refine tl_y rfl (y_subI rfl rfl (by omega)) ?_
  rw [show (16 : Int) - ((shV n w * w : Nat) : Int) = ((shS n w : Nat) : Int) by rw [shS]; omega]
  refine tl_y rfl (y_assign (v := .int _ _) rfl) ?_
  refine tl_y rfl (y_assign (v := .int _ _) rfl) ?_
  refine tl_y rfl (y_assign (v := .int _ _) rfl) ?_
  refine tl_nil (.then_normal ?_)
  refine .sub (F' := [(4, _), (5, _), (6, _)]) (.cons rfl (.cons rfl (.cons rfl .nil))) ?_
  refine x_ret (ret3 rfl rfl rfl rfl hM1 ⟨rfl, rfl⟩)
/-- The variables of the sets, as they lie. -/
structure SetG (M : Mem) : Prop where
  sums : ∃ T fr, M 2 = some (.cells (List.toArray [.int .i64 0, .int .i64 32, .int .i64 0, .int .i64 24, .int .i64 1, .int .i64 32, .int .i64 1, .int .i64 24]) T fr)
  widths : ∃ T fr, M 5 = some (.cells (List.toArray [.int .i64 1, .int .i64 2, .int .i64 4, .int .i64 8]) T fr)
theorem SetG.mono {M M' : Mem} (h : SetG M) (hle : Le M M') : SetG M' := ⟨let ⟨T, fr, a⟩ := h.sums; ⟨T, fr, hle _ _ a⟩, let ⟨T, fr, a⟩ := h.widths; ⟨T, fr, hle _ _ a⟩⟩
/-- and those of the sets of trees. -/
structure SetT (M : Mem) : Prop where
  sums : ∃ T fr, M 2 = some (.cells (List.toArray [.int .i64 0, .int .i64 32, .int .i64 0, .int .i64 24, .int .i64 1, .int .i64 32, .int .i64 1, .int .i64 24]) T fr)
  heights : ∃ T fr, M 1 = some (.cells (List.toArray [.int .i64 5, .int .i64 10, .int .i64 15, .int .i64 20, .int .i64 25]) T fr)
  own : ∃ T fr, M 0 = some (.cells (List.toArray [.int .i64 1, .int .i64 2, .int .i64 3, .int .i64 4]) T fr)
theorem SetT.mono {M M' : Mem} (h : SetT M) (hle : Le M M') : SetT M' :=
  ⟨let ⟨T, fr, a⟩ := h.sums; ⟨T, fr, hle _ _ a⟩, let ⟨T, fr, a⟩ := h.heights; ⟨T, fr, hle _ _ a⟩, let ⟨T, fr, a⟩ := h.own; ⟨T, fr, hle _ _ a⟩⟩
def unkv : Value := .iface 233 (.agg #[])
def unks : List PanicEntry := [{ v := unkv, recovered := false }]
theorem sums_at (j : Nat) (h : j < 4) : CutAt [Value.int .i64 0, .int .i64 32, .int .i64 0, .int .i64 24, .int .i64 1, .int .i64 32, .int .i64 1, .int .i64 24] (j * 2) 2 [.int .i64 ((j / 2 : Nat) : Int), .int .i64 ((szN j : Nat) : Int)] := by
  refine ⟨fun i v hi => ?_, rfl⟩
  rcases (by omega : j = 0 ∨ j = 1 ∨ j = 2 ∨ j = 3) with rfl | rfl | rfl | rfl <;> (match i, hi with | 0, hi => exact hi | 1, hi => exact hi | i + 2, hi => simp at hi)
theorem CellsN.ro {M : Mem} {L : Own} {b i n : Nat} {c vs : List Value} {T : TypeId} {fr : Nat × Nat} (hM : M b = some (.cells c.toArray T fr)) (hg : CutAt c i n vs) : CellsN M L ⟨b, i, none⟩ n vs := by
  refine ⟨fun w hw j v hj => ?_, hg.len⟩
  have := hg.cut j v hj
  have h2 := hw.ro _ _ hM
  simp [World.cell?, h2, this, add_plain]
theorem setsAt_spec (hs0 : ∃ T fr, M 2 = some (.cells (List.toArray [.int .i64 0, .int .i64 32, .int .i64 0, .int .i64 24, .int .i64 1, .int .i64 32, .int .i64 1, .int .i64 24]) T fr)) (code first : UInt32) (each : Nat) (he : 4 ≤ each ∧ each ≤ 5) :
    Con Tryd.prog 137 #[.int .u32 (code.toNat : Int), .int .u32 (first.toNat : Int), .int .i64 (each : Int)] G M L
      (fun v M' L' => M = M' ∧ L' = L ∧ first.toNat ≤ code.toNat ∧ code.toNat - first.toNat < each * 4 ∧ v = .tuple #[.agg (List.toArray [.int .i64 (((code.toNat - first.toNat) / each / 2 : Nat) : Int), .int .i64 ((szN ((code.toNat - first.toNat) / each) : Nat) : Int)]), .int .i64 (((code.toNat - first.toNat) % each : Nat) : Int)])
      (fun ch M' L' => M = M' ∧ L' = L ∧ ¬ (first.toNat ≤ code.toNat ∧ code.toNat - first.toNat < each * 4) ∧ ch = unks) := by
  have hc := code.toNat_lt
  have hf := first.toNat_lt
  obtain ⟨st, sf, hs⟩ := hs0
  refine enter (args := [_, _, _]) (fn := Tryd.f137) ⟨Tryd.func137, rfl, by kernel_rfl, by kernel_rfl⟩ 32 rfl ?_
  refine x_seq (x_region ?_)
  refine tl_e rfl (e_alloc (fun b1 => ?_))
  refine tl_y rfl (y_assign rfl) ?_
  refine tl_nil (.then_normal ?_)
  refine x_seq (x_region ?_)
  refine tl_y rfl (y_move (v := .int _ _) rfl) ?_
  refine tl_y rfl (y_convI rfl (by omega)) ?_
  refine tl_y rfl (y_move (v := .int _ _) rfl) ?_
  refine tl_y rfl (y_convI rfl (by omega)) ?_
  refine tl_y rfl (y_subI rfl rfl (by omega)) ?_
  refine tl_y rfl (y_assign (v := .int _ _) rfl) ?_
  refine tl_nil (.then_normal ?_)
  refine .sub (F' := [(2, _), (6, _), (8, _)]) (.cons rfl (.cons rfl (.cons rfl .nil))) ?_
  refine x_seq (x_seq (x_region ?_))
  refine tl_y rfl (y_move (v := .int _ _) rfl) ?_
  refine tl_y rfl (y_lss rfl rfl) ?_
  refine tl_y rfl (y_move (v := .bool _) rfl) ?_
  refine tl_cases (s := 16) rfl (fun hk1 => ?_) (fun hk1 => ?_)
  ·
    refine tl_skip rfl ?_
    refine tl_skip rfl ?_
    refine tl_skip rfl ?_
    refine tl_skip rfl ?_
    refine tl_y rfl (y_pickT rfl rfl) ?_
    refine tl_nil (.then_normal ?_)
    refine .sub (F' := [(2, _), (6, _), (8, _), (21, _)]) (.cons rfl (.cons rfl (.cons rfl (.cons rfl .nil)))) ?_
    refine x_true rfl rfl ?_
    refine x_region ?_
    refine tl_y rfl (y_build rfl) ?_
    refine tl_y rfl (y_makeIface rfl (by intro _ h; cases h)) ?_
    refine tl_e rfl (e_panic rfl (TP.dropTo L inferInstance (.retA rfl (Le.refl _) ⟨rfl, rfl, by omega, rfl⟩)))
  ·
    obtain ⟨q, hq⟩ : ∃ q : Nat, (code.toNat : Int) - (first.toNat : Int) = (q : Int) := ⟨code.toNat - first.toNat, by omega⟩
    rw [hq] at hk1 ⊢
    refine tl_y rfl (y_move (v := .int _ _) rfl) ?_
    refine tl_y rfl (y_move (v := .int _ _) rfl) ?_
    refine tl_y rfl (y_mulI rfl rfl (by omega)) ?_
    refine tl_y rfl (y_geq rfl rfl) ?_
    refine tl_y rfl (y_pickF rfl rfl) ?_
    refine tl_nil (.then_normal ?_)
    refine .sub (F' := [(2, _), (6, _), (8, _), (21, _)]) (.cons rfl (.cons rfl (.cons rfl (.cons rfl .nil)))) ?_
    refine x_cond rfl (fun hc1 => ?_) (fun hc1 => ?_)
    ·
      refine x_region ?_
      refine tl_y rfl (y_build rfl) ?_
      refine tl_y rfl (y_makeIface rfl (by intro _ h; cases h)) ?_
      refine tl_e rfl (e_panic rfl (TP.dropTo L inferInstance (.retA rfl (Le.refl _) ⟨rfl, rfl, by omega, rfl⟩)))
    ·
      have hqe : q / each < 4 := (Nat.div_lt_iff_lt_mul (by omega)).2 (by omega)
      have e1 : (q : Int) / (each : Int) = ((q / each : Nat) : Int) := by simp
      have e2 : (q : Int) % (each : Int) = ((q % each : Nat) : Int) := by simp
      have hql := Nat.div_le_self q each
      obtain ⟨qe, hqd⟩ : ∃ qe, qe = q / each := ⟨_, rfl⟩
      rw [← hqd] at e1 hqe hql
      refine x_skip (.then_normal ?_)
      refine x_seq ?_
      refine x_draw 8 hmix rfl ?_
      refine to_p 0 rfl (by kernel_rfl) rfl (y_move (v := .int _ _) rfl) ?_
      refine to_p 1 rfl (by kernel_rfl) rfl (y_move (v := .int _ _) rfl) ?_
      refine to_p 2 rfl (by kernel_rfl) rfl (y_quoI rfl rfl (by omega)) ?_
      rw [e1]
      refine to_p 3 rfl (by kernel_rfl) rfl (y_indexArr rfl rfl (by omega)) ?_
      refine to_y 4 rfl (by kernel_rfl) rfl (y_loadAgg rfl rfl (CellsN.at_ (CellsN.ro hs (sums_at qe hqe)) (by omega))) ?_
      refine to_p 5 rfl (by kernel_rfl) rfl (y_move (v := .int _ _) rfl) ?_
      refine to_p 6 rfl (by kernel_rfl) rfl (y_move (v := .int _ _) rfl) ?_
      refine to_p 7 rfl (by kernel_rfl) rfl (y_remI rfl rfl (by omega)) ?_
      rw [e2]
      refine to_t 8 rfl (by kernel_rfl) (by kernel_rfl) rfl (e_store rfl rfl (by rfl) (by rfl) inferInstance inferInstance inferInstance ?_)
      refine to_p 9 rfl (by kernel_rfl) rfl (y_assign (v := .int _ _) rfl) ?_
      refine to_nil (by kernel_rfl) (.then_normal ?_)
      refine .sub (F' := [(6, _), (7, _)]) (.cons rfl (.cons rfl .nil)) ?_
      refine x_ret (retRV (L' := L) (rv2 rfl (rc_cellAgg (by rfl) rfl (.own inferInstance inferInstance)) (rc_tmp (by rfl))) inferInstance (Le.refl _) ⟨rfl, rfl, by omega, by omega, by rw [show code.toNat - first.toNat = q by omega, ← hqd]⟩)
end
end Go.Proofs.YtbgdjdhbejbhkaaDoor
set_option linter.unusedVariables false
set_option linter.unusedSimpArgs false
set_option linter.constructorNameAsVariable false
namespace Go.Proofs.YtbgdjdhbejbhkaaDoor
open Go Go.Eng
theorem widths_get (j : Nat) (h : j < 4) : [Value.int .i64 1, .int .i64 2, .int .i64 4, .int .i64 8][j]? = some (.int .i64 ((2 ^ j : Nat) : Int)) := by
  rcases (by omega : j = 0 ∨ j = 1 ∨ j = 2 ∨ j = 3) with rfl | rfl | rfl | rfl <;> rfl
theorem heights_get (j : Nat) (h : j < 5) : [Value.int .i64 5, .int .i64 10, .int .i64 15, .int .i64 20, .int .i64 25][j]? = some (.int .i64 ((5 * (1 + j) : Nat) : Int)) := by
  rcases (by omega : j = 0 ∨ j = 1 ∨ j = 2 ∨ j = 3 ∨ j = 4) with rfl | rfl | rfl | rfl | rfl <;> rfl
theorem own_get (j : Nat) (h : j < 4) : [Value.int .i64 1, .int .i64 2, .int .i64 3, .int .i64 4][j]? = some (.int .i64 ((1 + j : Nat) : Int)) := by
  rcases (by omega : j = 0 ∨ j = 1 ∨ j = 2 ∨ j = 3) with rfl | rfl | rfl | rfl <;> rfl
section
variable {G : World} {M : Mem} {L : Own}
abbrev cOB (b : Nat) (o : OtsV) : Nat × Obj := (b, .cells (List.toArray o.cells) 119 (0, 0))
theorem caughtO1_ret {b c : Nat} {x : Int} {o : OtsV} : ConD Tryd.prog 182 #[.pointer (some ⟨b, 0, none⟩), .pointer (some ⟨c, 0, none⟩)] .returning G M ((c, .cells (List.toArray [.int .i64 x]) 28 (0, 0)) :: cOB b o :: L) (fun u' M' L' => u' = .returning ∧ M' = M ∧ L' = (c, .cells (List.toArray [.int .i64 x]) 28 (0, 0)) :: cOB b o :: L) := by
  refine enterRec (args := [_, _]) (fn := Tryd.f182) ⟨Tryd.func182, rfl, by kernel_rfl, by kernel_rfl⟩ 13 rfl rfl ?_
  refine x_block ?_
  refine x_seq (x_region ?_)
  refine tl_y rfl (y_eqNilIface rfl rfl) ?_
  refine tl_nil (.then_normal ?_)
  refine x_true rfl (rfl) ?_
  refine x_region ?_
  refine tl_y rfl (y_assign rfl) ?_
  refine tl_nil (.block_normal (.rec_normal (Le.refl _) ⟨rfl, rfl, rfl⟩))
theorem caughtO1_unk {b c : Nat} {x : Int} {o : OtsV} : ConD Tryd.prog 182 #[.pointer (some ⟨b, 0, none⟩), .pointer (some ⟨c, 0, none⟩)] (.panicking unks) G M ((c, .cells (List.toArray [.int .i64 x]) 28 (0, 0)) :: cOB b o :: L)
    (fun u' M' L' => u' = .panicking [{ v := unkv, recovered := true }] ∧ M' = M ∧ L' = (c, .cells (List.toArray [.int .i64 4]) 28 (0, 0)) :: cOB b ots0 :: L) := by
  refine enterRec (args := [_, _]) (fn := Tryd.f182) ⟨Tryd.func182, rfl, by kernel_rfl, by kernel_rfl⟩ 13 rfl rfl ?_
  refine x_block ?_
  refine x_seq (x_region ?_)
  refine tl_y rfl (y_eqIfaceNil rfl rfl) ?_
  refine tl_nil (.then_normal ?_)
  refine x_false rfl (rfl) ?_
  refine x_seq (x_region ?_)
  refine tl_y rfl (y_assertOk rfl (by intro _ h; cases h)) ?_
  refine tl_y rfl (y_extract rfl) ?_
  refine tl_y rfl (y_extract rfl) ?_
  refine tl_nil (.then_normal ?_)
  refine x_true rfl (rfl) ?_
  refine x_seq (x_region ?_)
  refine tl_e rfl (e_alloc (fun b1 => ?_))
  refine tl_e rfl (e_store rfl rfl (by rfl) (by rfl) inferInstance inferInstance inferInstance ?_)
  refine tl_nil (.then_normal ?_)
  refine .sub (F' := [(0, _), (1, _)]) (.cons rfl (.cons rfl .nil)) ?_
  refine x_seq (x_region ?_)
  refine tl_e rfl (e_alloc (fun b2 => ?_))
  refine tl_nil (.then_normal ?_)
  refine x_region ?_
  refine tl_y rfl (y_loadAgg rfl rfl (.own inferInstance inferInstance)) ?_
  refine tl_e rfl (e_store rfl rfl (by rfl) (by rfl) inferInstance inferInstance inferInstance ?_)
  refine tl_e rfl (e_store rfl rfl (by rfl) (by rfl) inferInstance inferInstance inferInstance ?_)
  refine tl_nil (.block_normal (.dropTo ((c, .cells (List.toArray [.int .i64 4]) 28 (0, 0)) :: (b, .cells (List.toArray [.int .u32 0, .int .i64 0, .int .i64 0, .int .i64 0, .int .i64 0, .int .i64 0]) 119 (0, 0)) :: L) inferInstance (.rec_normal (Le.refl _) ⟨rfl, rfl, rfl⟩)))
theorem caughtO_spec {wf : FuncId} {first cap : List Value} {r : Option OtsV}
    (hw : ∀ p q, Con Tryd.prog wf (first ++ [] ++ cap).toArray G M (p :: q :: L) (fun v M' L' => L' = p :: q :: L ∧ ∃ o, r = some o ∧ v = .agg (List.toArray o.cells)) (fun ch M' L' => L' = p :: q :: L ∧ r = none ∧ ch = unks)) :
    Con Tryd.prog 173 #[.func (.func wf) first.toArray cap.toArray] G M L (fun v M' L' => L = L' ∧ v = .tuple #[.agg (List.toArray (r.getD ots0).cells), .int .i64 (if r.isSome then 0 else 4)]) noPanic := by
  refine enterD (args := [_]) (fn := Tryd.f173) ⟨Tryd.func173, rfl, by kernel_rfl, by kernel_rfl⟩ 7 rfl ?_
  refine x_seq (x_region ?_)
  refine tl_e rfl (e_alloc (fun b1 => ?_))
  refine tl_e rfl (e_alloc (fun b2 => ?_))
  refine tl_nil (.then_normal ?_)
  refine x_seq (x_region ?_)
  refine tl_y rfl (y_makeFunc rfl rfl) ?_
  refine tl_e rfl (e_defer rfl rfl rfl ?_)
  refine tl_nil (.then_normal ?_)
  refine x_seq (x_region ?_)
  refine tl_y rfl (y_move (v := .func _ _ _) rfl) ?_
  refine tl_e rfl (e_callv rfl rfl (hw _ _) (by
    rintro _ M1 _ hM1 ⟨rfl, hr, rfl⟩
    refine .retD (cap := [_, _]) (args := []) (caughtO1_unk (o := ots0)) ?_
    rintro _ M2 _ hM2 ⟨rfl, rfl, rfl⟩
    exact .inl ⟨rfl, _, L, rv2 rfl (rc_cellAgg (by rfl) rfl (.own inferInstance inferInstance)) (rc_cell (by rfl) rfl (.own inferInstance inferInstance)), inferInstance, hM1, rfl, by rw [hr]; rfl⟩) ?_)
  rintro _ M1 _ hM1 ⟨rfl, o, hr, rfl⟩
  refine tl_e rfl (e_store rfl rfl (by rfl) (by rfl) inferInstance inferInstance inferInstance ?_)
  refine tl_e rfl (e_store rfl rfl (by rfl) (by rfl) inferInstance inferInstance inferInstance ?_)
  refine tl_nil (.then_normal ?_)
  refine .sub (F' := [(2, _), (3, _)]) (.cons rfl (.cons rfl .nil)) ?_
  refine x_ret (.retD (cap := [_, _]) (args := []) (caughtO1_ret (o := o)) ?_)
  rintro _ M2 _ hM2 ⟨rfl, rfl, rfl⟩
  exact .inl ⟨rfl, _, L, rv2 rfl (rc_cellAgg (by rfl) rfl (.own inferInstance inferInstance)) (rc_cell (by rfl) rfl (.own inferInstance inferInstance)), inferInstance, hM1, rfl, by rw [hr]; rfl⟩
abbrev cTB (b : Nat) (o : TreeV) : Nat × Obj := (b, .cells (List.toArray o.cells) 121 (0, 0))
theorem caughtT1_ret {b c : Nat} {x : Int} {o : TreeV} : ConD Tryd.prog 160 #[.pointer (some ⟨b, 0, none⟩), .pointer (some ⟨c, 0, none⟩)] .returning G M ((c, .cells (List.toArray [.int .i64 x]) 28 (0, 0)) :: cTB b o :: L) (fun u' M' L' => u' = .returning ∧ M' = M ∧ L' = (c, .cells (List.toArray [.int .i64 x]) 28 (0, 0)) :: cTB b o :: L) := by
  refine enterRec (args := [_, _]) (fn := Tryd.f160) ⟨Tryd.func160, rfl, by kernel_rfl, by kernel_rfl⟩ 13 rfl rfl ?_
  refine x_block ?_
  refine x_seq (x_region ?_)
  refine tl_y rfl (y_eqNilIface rfl rfl) ?_
  refine tl_nil (.then_normal ?_)
  refine x_true rfl (rfl) ?_
  refine x_region ?_
  refine tl_y rfl (y_assign rfl) ?_
  refine tl_nil (.block_normal (.rec_normal (Le.refl _) ⟨rfl, rfl, rfl⟩))
theorem caughtT1_unk {b c : Nat} {x : Int} {o : TreeV} : ConD Tryd.prog 160 #[.pointer (some ⟨b, 0, none⟩), .pointer (some ⟨c, 0, none⟩)] (.panicking unks) G M ((c, .cells (List.toArray [.int .i64 x]) 28 (0, 0)) :: cTB b o :: L)
    (fun u' M' L' => u' = .panicking [{ v := unkv, recovered := true }] ∧ M' = M ∧ L' = (c, .cells (List.toArray [.int .i64 4]) 28 (0, 0)) :: cTB b tree0 :: L) := by
  refine enterRec (args := [_, _]) (fn := Tryd.f160) ⟨Tryd.func160, rfl, by kernel_rfl, by kernel_rfl⟩ 13 rfl rfl ?_
  refine x_block ?_
  refine x_seq (x_region ?_)
  refine tl_y rfl (y_eqIfaceNil rfl rfl) ?_
  refine tl_nil (.then_normal ?_)
  refine x_false rfl (rfl) ?_
  refine x_seq (x_region ?_)
  refine tl_y rfl (y_assertOk rfl (by intro _ h; cases h)) ?_
  refine tl_y rfl (y_extract rfl) ?_
  refine tl_y rfl (y_extract rfl) ?_
  refine tl_nil (.then_normal ?_)
  refine x_true rfl (rfl) ?_
  refine x_seq (x_region ?_)
  refine tl_e rfl (e_alloc (fun b1 => ?_))
  refine tl_e rfl (e_store rfl rfl (by rfl) (by rfl) inferInstance inferInstance inferInstance ?_)
  refine tl_nil (.then_normal ?_)
  refine .sub (F' := [(0, _), (1, _)]) (.cons rfl (.cons rfl .nil)) ?_
  refine x_seq (x_region ?_)
  refine tl_e rfl (e_alloc (fun b2 => ?_))
  refine tl_nil (.then_normal ?_)
  refine x_region ?_
  refine tl_y rfl (y_loadAgg rfl rfl (.own inferInstance inferInstance)) ?_
  refine tl_e rfl (e_store rfl rfl (by rfl) (by rfl) inferInstance inferInstance inferInstance ?_)
  refine tl_e rfl (e_store rfl rfl (by rfl) (by rfl) inferInstance inferInstance inferInstance ?_)
  refine tl_nil (.block_normal (.dropTo ((c, .cells (List.toArray [.int .i64 4]) 28 (0, 0)) :: (b, .cells (List.toArray [.int .u32 0, .int .i64 0, .int .i64 0, .int .i64 0]) 121 (0, 0)) :: L) inferInstance (.rec_normal (Le.refl _) ⟨rfl, rfl, rfl⟩)))
theorem caughtT_spec {wf : FuncId} {first cap : List Value} {r : Option TreeV}
    (hw : ∀ p q, Con Tryd.prog wf (first ++ [] ++ cap).toArray G M (p :: q :: L) (fun v M' L' => L' = p :: q :: L ∧ ∃ o, r = some o ∧ v = .agg (List.toArray o.cells)) (fun ch M' L' => L' = p :: q :: L ∧ r = none ∧ ch = unks)) :
    Con Tryd.prog 135 #[.func (.func wf) first.toArray cap.toArray] G M L (fun v M' L' => L = L' ∧ v = .tuple #[.agg (List.toArray (r.getD tree0).cells), .int .i64 (if r.isSome then 0 else 4)]) noPanic := by
  refine enterD (args := [_]) (fn := Tryd.f135) ⟨Tryd.func135, rfl, by kernel_rfl, by kernel_rfl⟩ 7 rfl ?_
  refine x_seq (x_region ?_)
  refine tl_e rfl (e_alloc (fun b1 => ?_))
  refine tl_e rfl (e_alloc (fun b2 => ?_))
  refine tl_nil (.then_normal ?_)
  refine x_seq (x_region ?_)
  refine tl_y rfl (y_makeFunc rfl rfl) ?_
  refine tl_e rfl (e_defer rfl rfl rfl ?_)
  refine tl_nil (.then_normal ?_)
  refine x_seq (x_region ?_)
  refine tl_y rfl (y_move (v := .func _ _ _) rfl) ?_
  refine tl_e rfl (e_callv rfl rfl (hw _ _) (by
    rintro _ M1 _ hM1 ⟨rfl, hr, rfl⟩
    refine .retD (cap := [_, _]) (args := []) (caughtT1_unk (o := tree0)) ?_
    rintro _ M2 _ hM2 ⟨rfl, rfl, rfl⟩
    exact .inl ⟨rfl, _, L, rv2 rfl (rc_cellAgg (by rfl) rfl (.own inferInstance inferInstance)) (rc_cell (by rfl) rfl (.own inferInstance inferInstance)), inferInstance, hM1, rfl, by rw [hr]; rfl⟩) ?_)
  rintro _ M1 _ hM1 ⟨rfl, o, hr, rfl⟩
  refine tl_e rfl (e_store rfl rfl (by rfl) (by rfl) inferInstance inferInstance inferInstance ?_)
  refine tl_e rfl (e_store rfl rfl (by rfl) (by rfl) inferInstance inferInstance inferInstance ?_)
  refine tl_nil (.then_normal ?_)
  refine .sub (F' := [(2, _), (3, _)]) (.cons rfl (.cons rfl .nil)) ?_
  refine x_ret (.retD (cap := [_, _]) (args := []) (caughtT1_ret (o := o)) ?_)
  rintro _ M2 _ hM2 ⟨rfl, rfl, rfl⟩
  exact .inl ⟨rfl, _, L, rv2 rfl (rc_cellAgg (by rfl) rfl (.own inferInstance inferInstance)) (rc_cell (by rfl) rfl (.own inferInstance inferInstance)), inferInstance, hM1, rfl, by rw [hr]; rfl⟩
theorem Ots1_spec (hg : SetG M) (code : UInt32) {b : Nat} [hb : Has L b (.cells (List.toArray [.int .u32 (code.toNat : Int)]) 31 (0, 0))] :
    Con Tryd.prog 174 #[.pointer (some ⟨b, 0, none⟩)] G M L (fun v M' L' => L' = L ∧ ∃ o, otsOf code = some o ∧ v = .agg (List.toArray o.cells)) (fun ch M' L' => L' = L ∧ otsOf code = none ∧ ch = unks) := by
  have hc := code.toNat_lt
  have h1 : (1 : UInt32).toNat = 1 := rfl
  obtain ⟨wt, wf, hw⟩ := hg.widths
  refine enter (args := [_]) (fn := Tryd.f174) ⟨Tryd.func174, rfl, by kernel_rfl, by kernel_rfl⟩ 35 rfl ?_
  refine x_seq (x_region ?_)
  refine tl_e rfl (e_alloc (fun b1 => ?_))
  refine tl_nil (.then_normal ?_)
  refine x_seq (x_region ?_)
  refine tl_y rfl (y_load rfl rfl (.own inferInstance inferInstance)) ?_
  refine tl_e rfl (e_call rfl (setsAt_spec hg.sums code 1 4 (by omega)) (by
    rintro _ _ _ _ ⟨rfl, rfl, hne, rfl⟩
    exact TP.dropTo L inferInstance (.retA rfl (Le.refl _) ⟨rfl, by rw [otsOf, if_neg (by omega)], rfl⟩)) ?_)
  rintro _ _ _ _ ⟨rfl, rfl, hle, hlt, rfl⟩
  rw [h1] at hle hlt ⊢
  obtain ⟨i, hi⟩ : ∃ i, i = code.toNat - 1 := ⟨_, rfl⟩
  rw [← hi] at hlt ⊢
  have hi4 : i % 4 < 4 := Nat.mod_lt _ (by omega)
  obtain ⟨s1, s2, s3, s4, s5, s6, s7, s8, s9, s10⟩ := shape_fact (szN_is (i / 4)) (w_is i)
  refine tl_y rfl (y_move (v := .tuple _) rfl) ?_
  refine tl_y rfl (y_extract rfl) ?_
  refine tl_y rfl (y_extract rfl) ?_
  refine tl_e rfl (e_alloc (fun b2 => ?_))
  refine tl_e rfl (e_store rfl rfl (by rfl) (by rfl) inferInstance inferInstance inferInstance ?_)
  refine tl_y rfl (y_assign (v := .int _ _) rfl) ?_
  refine tl_nil (.then_normal ?_)
  refine .sub (F' := [(0, _), (1, _), (2, _), (3, _)]) (.cons rfl (.cons rfl (.cons rfl (.cons rfl .nil)))) ?_
  refine x_seq ?_
  refine x_draw 13 hmix rfl ?_
  refine to_p 0 rfl (by kernel_rfl) rfl (y_fieldAddr rfl) ?_
  refine to_y 1 rfl (by kernel_rfl) rfl (y_load rfl rfl (.own inferInstance inferInstance)) ?_
  refine to_p 2 rfl (by kernel_rfl) rfl (y_move (v := .int _ _) rfl) ?_
  refine to_p 3 rfl (by kernel_rfl) rfl (y_indexArr rfl rfl (by omega)) ?_
  refine to_y 4 rfl (by kernel_rfl) rfl (y_load rfl rfl (.at_ (.ro (i := i % 4) hw (by rw [List.getElem?_toArray]; exact widths_get _ hi4)) (by omega))) ?_
  refine to_e 5 rfl (by kernel_rfl) rfl (e_call' rfl (Shape_spec (szN_is (i / 4)) (w_is i)) ?_)
  rintro _ M1 _ hM1 ⟨rfl, rfl⟩
  refine ⟨⟨(by first | exact Le.refl _ | assumption), Keeps.mem⟩, ?_⟩
  refine to_p 6 rfl (by kernel_rfl) rfl (y_move (v := .tuple _) rfl) ?_
  refine to_p 7 rfl (by kernel_rfl) rfl (y_extract rfl) ?_
  refine to_p 8 rfl (by kernel_rfl) rfl (y_extract rfl) ?_
  refine to_p 9 rfl (by kernel_rfl) rfl (y_extract rfl) ?_
  refine to_p 10 rfl (by kernel_rfl) rfl (y_assign (v := .int _ _) rfl) ?_
  refine to_p 11 rfl (by kernel_rfl) rfl (y_assign (v := .int _ _) rfl) ?_
  refine to_p 12 rfl (by kernel_rfl) rfl (y_assign (v := .int _ _) rfl) ?_
  refine to_nil (by kernel_rfl) (.then_normal ?_)
  refine .sub (F' := [(0, _), (1, _), (2, _), (3, _), (4, _), (5, _), (6, _)]) (.cons rfl (.cons rfl (.cons rfl (.cons rfl (.cons rfl (.cons rfl (.cons rfl .nil))))))) ?_
  refine x_seq ?_
  refine x_draw 13 hmix rfl ?_
  refine to_y 0 rfl (by kernel_rfl) rfl (y_load rfl rfl (.own inferInstance inferInstance)) ?_
  refine to_p 1 rfl (by kernel_rfl) rfl (y_fieldAddr rfl) ?_
  refine to_y 2 rfl (by kernel_rfl) rfl (y_load rfl rfl (.own inferInstance inferInstance)) ?_
  refine to_p 3 rfl (by kernel_rfl) rfl (y_fieldAddr rfl) ?_
  refine to_y 4 rfl (by kernel_rfl) rfl (y_load rfl rfl (.own inferInstance inferInstance)) ?_
  refine to_p 5 rfl (by kernel_rfl) rfl (y_move (v := .int _ _) rfl) ?_
  refine to_p 6 rfl (by kernel_rfl) rfl (y_indexArr rfl rfl (by omega)) ?_
  refine to_y 7 rfl (by kernel_rfl) rfl (y_load rfl rfl (.at_ (.ro (i := i % 4) (hM1 _ _ hw) (by rw [List.getElem?_toArray]; exact widths_get _ hi4)) (by omega))) ?_
  refine to_p 8 rfl (by kernel_rfl) rfl (y_move (v := .int _ _) rfl) ?_
  refine to_p 9 rfl (by kernel_rfl) rfl (y_move (v := .int _ _) rfl) ?_
  refine to_p 10 rfl (by kernel_rfl) rfl (y_addI rfl rfl (by omega)) ?_
  refine to_p 11 rfl (by kernel_rfl) rfl (y_move (v := .int _ _) rfl) ?_
  refine to_p 12 rfl (by kernel_rfl) rfl (y_build rfl) ?_
  refine to_t 13 rfl (by kernel_rfl) (by kernel_rfl) rfl (e_store rfl rfl (by rfl) (by rfl) inferInstance inferInstance inferInstance ?_)
  refine to_nil (by kernel_rfl) (.then_normal ?_)
  refine .sub (F' := [(1, _)]) (.cons rfl .nil) ?_
  refine x_ret (retRV (L' := L) (rv1 rfl (rc_cellAgg (by rfl) rfl (.own inferInstance inferInstance))) inferInstance hM1 ⟨rfl, otsT i, by rw [otsOf, if_pos (by omega), hi], by
    rw [otsT]
    show _ = Value.agg (List.toArray [.int .u32 ((UInt32.ofNat (i + 1)).toNat : Int), _, _, _, _, _])
    rw [show (UInt32.ofNat (i + 1)).toNat = code.toNat by rw [UInt32.toNat_ofNat']; omega, show i / 4 / 2 = i / 8 by omega]
    rfl⟩)
theorem Ots_spec (hg : SetG M) (code : UInt32) :
    Con Tryd.prog 157 #[.int .u32 (code.toNat : Int)] G M L (fun v M' L' => L = L' ∧ v = .tuple #[.agg (List.toArray (otsV code).cells), .int .i64 (otsE code)]) noPanic := by
  refine enter (args := [_]) (fn := Tryd.f157) ⟨Tryd.func157, rfl, by kernel_rfl, by kernel_rfl⟩ 8 rfl ?_
  refine x_seq (x_region ?_)
  refine tl_e rfl (e_box rfl (fun b1 => ?_))
  refine tl_e rfl (e_alloc (fun b2 => ?_))
  refine tl_y rfl (y_assign rfl) ?_
  refine tl_nil (.then_normal ?_)
  refine x_seq (x_region ?_)
  refine tl_y rfl (y_makeFunc rfl rfl) ?_
  refine tl_e rfl (e_call' rfl (caughtO_spec (r := otsOf code) (first := []) (cap := [.pointer (some ⟨b1, 0, none⟩)]) (fun p q => Ots1_spec hg code)) ?_)
  rintro _ M1 _ hM1 ⟨rfl, rfl⟩
  refine tl_y rfl (y_extract rfl) ?_
  refine tl_y rfl (y_extract rfl) ?_
  refine tl_e rfl (e_store rfl rfl (by rfl) (by rfl) inferInstance inferInstance inferInstance ?_)
  refine tl_y rfl (y_assign (v := .int _ _) rfl) ?_
  refine tl_nil (.then_normal ?_)
  refine .sub (F' := [(2, _), (3, _)]) (.cons rfl (.cons rfl .nil)) ?_
  refine x_ret (retRV (L' := L) (rv2 rfl (rc_cellAgg (by rfl) rfl (.own inferInstance inferInstance)) (rc_tmp (by rfl))) inferInstance hM1 ⟨rfl, rfl⟩)
end
end Go.Proofs.YtbgdjdhbejbhkaaDoor
set_option linter.unusedVariables false
set_option linter.unusedSimpArgs false
set_option linter.constructorNameAsVariable false
namespace Go.Proofs.YtbgdjdhbejbhkaaDoor
open Go Go.Eng
/-- How many leaves. -/
def leavesN (h : Int) : Nat := if h < 1 ∨ 25 < h then 0 else pw2 h.toNat
theorem pw2_25 {h : Nat} (hh : h ≤ 25) : pw2 h ≤ 33554432 := pw2_le (k := 25) hh
theorem pw2_pos (h : Nat) : 1 ≤ pw2 h := Nat.one_le_two_pow
theorem shl64_one {h : Nat} (hh : h ≤ 25) : (shl64 1 h).toNat = pw2 h := by
  have h1 := pw2_25 hh
  have h2 : pw2 h = 2 ^ h := rfl
  rw [shl64, UInt64.toNat_ofNat', show (1 : UInt64).toNat = 1 from rfl, Nat.one_mul, ← h2, Nat.mod_eq_of_lt (by omega)]
theorem treeOf_own {c : UInt32} (h : ¬ (c.toNat < 4026531841)) : treeOf c = if c.toNat - 4026531841 < 16 then some (treeT c (c.toNat - 4026531841) 4) else none := by
  rw [treeOf, if_neg (by omega)]
  by_cases h2 : c.toNat - 4026531841 < 16
  · rw [if_pos (by omega), if_pos h2]
  · rw [if_neg (by omega), if_neg h2]
theorem treeOf_std {c : UInt32} (h : c.toNat < 4026531841) : treeOf c = if 5 ≤ c.toNat ∧ c.toNat - 5 < 20 then some (treeT c (c.toNat - 5) 5) else none := by
  rw [treeOf]
  by_cases h2 : 5 ≤ c.toNat ∧ c.toNat - 5 < 20
  · rw [if_pos (by omega), if_pos h2]
  · rw [if_neg (by omega), if_neg (by omega), if_neg h2]
section
variable {G : World} {M : Mem} {L : Own}
theorem Tree1_spec (hg : SetT M) (code : UInt32) {b : Nat} [hb : Has L b (.cells (List.toArray [.int .u32 (code.toNat : Int)]) 31 (0, 0))] :
    Con Tryd.prog 136 #[.pointer (some ⟨b, 0, none⟩)] G M L (fun v M' L' => L' = L ∧ ∃ o, treeOf code = some o ∧ v = .agg (List.toArray o.cells)) (fun ch M' L' => L' = L ∧ treeOf code = none ∧ ch = unks) := by
  have hc := code.toNat_lt
  have h1 : (5 : UInt32).toNat = 5 := rfl
  have h2 : (4026531841 : UInt32).toNat = 4026531841 := rfl
  obtain ⟨ht, hf, hh⟩ := hg.heights
  obtain ⟨ot, of_, ho⟩ := hg.own
  refine enter (args := [_]) (fn := Tryd.f136) ⟨Tryd.func136, rfl, by kernel_rfl, by kernel_rfl⟩ 36 rfl ?_
  refine x_seq (x_region ?_)
  refine tl_e rfl (e_alloc (fun b1 => ?_))
  refine tl_nil (.then_normal ?_)
  refine x_seq (x_seq (x_region ?_))
  refine tl_y rfl (y_load rfl rfl (.own inferInstance inferInstance)) ?_
  refine tl_y rfl (y_geq rfl rfl) ?_
  refine tl_nil (.then_normal ?_)
  refine x_cond rfl (fun hc1 => ?_) (fun hc1 => ?_)
  ·
    refine x_seq (x_region ?_)
    refine tl_y rfl (y_load rfl rfl (.own inferInstance inferInstance)) ?_
    refine tl_e rfl (e_call rfl (setsAt_spec hg.sums code 4026531841 4 (by omega)) (by
      rintro _ _ _ _ ⟨rfl, rfl, hne, rfl⟩
      exact TP.dropTo L inferInstance (.retA rfl (Le.refl _) ⟨rfl, by rw [treeOf_own (by omega), if_neg (by omega)], rfl⟩)) ?_)
    rintro _ _ _ _ ⟨rfl, rfl, hle, hlt, rfl⟩
    rw [h2] at hle hlt ⊢
    have hto : treeOf code = some (treeT code (code.toNat - 4026531841) 4) := by rw [treeOf_own (by omega), if_pos (by omega)]
    obtain ⟨i, hi⟩ : ∃ i, i = code.toNat - 4026531841 := ⟨_, rfl⟩
    rw [← hi] at hlt hto ⊢
    have hi4 : i % 4 < 4 := Nat.mod_lt _ (by omega)
    refine tl_y rfl (y_move (v := .tuple _) rfl) ?_
    refine tl_y rfl (y_extract rfl) ?_
    refine tl_y rfl (y_extract rfl) ?_
    refine tl_e rfl (e_alloc (fun b2 => ?_))
    refine tl_e rfl (e_store rfl rfl (by rfl) (by rfl) inferInstance inferInstance inferInstance ?_)
    refine tl_y rfl (y_assign (v := .int _ _) rfl) ?_
    refine tl_nil (.then_normal ?_)
    refine .sub (F' := [(0, _), (1, _), (2, _), (3, _)]) (.cons rfl (.cons rfl (.cons rfl (.cons rfl .nil)))) ?_
    refine x_seq ?_
    refine x_draw 9 hmix rfl ?_
    refine to_y 0 rfl (by kernel_rfl) rfl (y_load rfl rfl (.own inferInstance inferInstance)) ?_
    refine to_p 1 rfl (by kernel_rfl) rfl (y_fieldAddr rfl) ?_
    refine to_y 2 rfl (by kernel_rfl) rfl (y_load rfl rfl (.own inferInstance inferInstance)) ?_
    refine to_p 3 rfl (by kernel_rfl) rfl (y_fieldAddr rfl) ?_
    refine to_y 4 rfl (by kernel_rfl) rfl (y_load rfl rfl (.own inferInstance inferInstance)) ?_
    refine to_p 5 rfl (by kernel_rfl) rfl (y_move (v := .int _ _) rfl) ?_
    refine to_p 6 rfl (by kernel_rfl) rfl (y_indexArr rfl rfl (by omega)) ?_
    refine to_y 7 rfl (by kernel_rfl) rfl (y_load rfl rfl (.at_ (.ro (i := i % 4) ho (by rw [List.getElem?_toArray]; exact own_get _ hi4)) (by omega))) ?_
    refine to_p 8 rfl (by kernel_rfl) rfl (y_build rfl) ?_
    refine to_t 9 rfl (by kernel_rfl) (by kernel_rfl) rfl (e_store rfl rfl (by rfl) (by rfl) inferInstance inferInstance inferInstance ?_)
    refine to_nil (by kernel_rfl) (.then_normal ?_)
    refine .sub (F' := [(1, _)]) (.cons rfl .nil) ?_
    refine x_ret (.then_ret (retRV (L' := L) (rv1 rfl (rc_cellAgg (by rfl) rfl (.own inferInstance inferInstance))) inferInstance (Le.refl _) ⟨rfl, _, hto, rfl⟩))
  ·
    refine x_skip (.then_normal ?_)
    refine x_seq (x_region ?_)
    refine tl_y rfl (y_load rfl rfl (.own inferInstance inferInstance)) ?_
    refine tl_e rfl (e_call rfl (setsAt_spec hg.sums code 5 5 (by omega)) (by
      rintro _ _ _ _ ⟨rfl, rfl, hne, rfl⟩
      exact TP.dropTo L inferInstance (.retA rfl (Le.refl _) ⟨rfl, by rw [treeOf_std (by omega), if_neg (by omega)], rfl⟩)) ?_)
    rintro _ _ _ _ ⟨rfl, rfl, hle, hlt, rfl⟩
    rw [h1] at hle hlt ⊢
    have hto : treeOf code = some (treeT code (code.toNat - 5) 5) := by rw [treeOf_std (by omega), if_pos (by omega)]
    obtain ⟨i, hi⟩ : ∃ i, i = code.toNat - 5 := ⟨_, rfl⟩
    rw [← hi] at hlt hto ⊢
    have hi5 : i % 5 < 5 := Nat.mod_lt _ (by omega)
    refine tl_y rfl (y_move (v := .tuple _) rfl) ?_
    refine tl_y rfl (y_extract rfl) ?_
    refine tl_y rfl (y_extract rfl) ?_
    refine tl_e rfl (e_alloc (fun b3 => ?_))
    refine tl_e rfl (e_store rfl rfl (by rfl) (by rfl) inferInstance inferInstance inferInstance ?_)
    refine tl_y rfl (y_assign (v := .int _ _) rfl) ?_
    refine tl_nil (.then_normal ?_)
    refine .sub (F' := [(0, _), (1, _), (4, _), (5, _)]) (.cons rfl (.cons rfl (.cons rfl (.cons rfl .nil)))) ?_
    refine x_seq ?_
    refine x_draw 9 hmix rfl ?_
    refine to_y 0 rfl (by kernel_rfl) rfl (y_load rfl rfl (.own inferInstance inferInstance)) ?_
    refine to_p 1 rfl (by kernel_rfl) rfl (y_fieldAddr rfl) ?_
    refine to_y 2 rfl (by kernel_rfl) rfl (y_load rfl rfl (.own inferInstance inferInstance)) ?_
    refine to_p 3 rfl (by kernel_rfl) rfl (y_fieldAddr rfl) ?_
    refine to_y 4 rfl (by kernel_rfl) rfl (y_load rfl rfl (.own inferInstance inferInstance)) ?_
    refine to_p 5 rfl (by kernel_rfl) rfl (y_move (v := .int _ _) rfl) ?_
    refine to_p 6 rfl (by kernel_rfl) rfl (y_indexArr rfl rfl (by omega)) ?_
    refine to_y 7 rfl (by kernel_rfl) rfl (y_load rfl rfl (.at_ (.ro (i := i % 5) hh (by rw [List.getElem?_toArray]; exact heights_get _ hi5)) (by omega))) ?_
    refine to_p 8 rfl (by kernel_rfl) rfl (y_build rfl) ?_
    refine to_t 9 rfl (by kernel_rfl) (by kernel_rfl) rfl (e_store rfl rfl (by rfl) (by rfl) inferInstance inferInstance inferInstance ?_)
    refine to_nil (by kernel_rfl) (.then_normal ?_)
    refine .sub (F' := [(1, _)]) (.cons rfl .nil) ?_
    refine x_ret (retRV (L' := L) (rv1 rfl (rc_cellAgg (by rfl) rfl (.own inferInstance inferInstance))) inferInstance (Le.refl _) ⟨rfl, _, hto, rfl⟩)
theorem Tree_spec (hg : SetT M) (code : UInt32) :
    Con Tryd.prog 109 #[.int .u32 (code.toNat : Int)] G M L (fun v M' L' => L = L' ∧ v = .tuple #[.agg (List.toArray (treeV code).cells), .int .i64 (treeE code)]) noPanic := by
  refine enter (args := [_]) (fn := Tryd.f109) ⟨Tryd.func109, rfl, by kernel_rfl, by kernel_rfl⟩ 8 rfl ?_
  refine x_seq (x_region ?_)
  refine tl_e rfl (e_box rfl (fun b1 => ?_))
  refine tl_e rfl (e_alloc (fun b2 => ?_))
  refine tl_y rfl (y_assign rfl) ?_
  refine tl_nil (.then_normal ?_)
  refine x_seq (x_region ?_)
  refine tl_y rfl (y_makeFunc rfl rfl) ?_
  refine tl_e rfl (e_call' rfl (caughtT_spec (r := treeOf code) (first := []) (cap := [.pointer (some ⟨b1, 0, none⟩)]) (fun p q => Tree1_spec hg code)) ?_)
  rintro _ M1 _ hM1 ⟨rfl, rfl⟩
  refine tl_y rfl (y_extract rfl) ?_
  refine tl_y rfl (y_extract rfl) ?_
  refine tl_e rfl (e_store rfl rfl (by rfl) (by rfl) inferInstance inferInstance inferInstance ?_)
  refine tl_y rfl (y_assign (v := .int _ _) rfl) ?_
  refine tl_nil (.then_normal ?_)
  refine .sub (F' := [(2, _), (3, _)]) (.cons rfl (.cons rfl .nil)) ?_
  refine x_ret (retRV (L' := L) (rv2 rfl (rc_cellAgg (by rfl) rfl (.own inferInstance inferInstance)) (rc_tmp (by rfl))) inferInstance hM1 ⟨rfl, rfl⟩)
end
end Go.Proofs.YtbgdjdhbejbhkaaDoor
