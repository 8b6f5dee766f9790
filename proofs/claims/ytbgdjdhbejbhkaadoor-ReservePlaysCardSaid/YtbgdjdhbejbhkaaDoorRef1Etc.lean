/-
Contracts of functions, each proved by a walk through its code.
-/
import Derived.Test.YtbgdjdhbejbhkaaDoorBaseEtc
import Derived.Test.YtbgdjdhbejbhkaaDoorEngWEtc
import Derived.Test.YtbgdjdhbejbhkaaDoorDisk4Etc
set_option linter.unusedVariables false
set_option linter.unusedSimpArgs false
namespace Go.Proofs.YtbgdjdhbejbhkaaDoor
open Go Go.Eng
section
variable {G : World} {M : Mem} {L : Own}
def eqTo (a b : List UInt8) (k : Nat) : Prop := ∀ j, j < k → a.getD j 0 = b.getD j 0
theorem same_spec {a b : List UInt8} {A B : Option Addr} {n c m d : Nat} (ha : Bytes M A n c a) (hb : Bytes M B m d b) :
    Con Tryd.prog 30 #[.slice A n c, .slice B m d] G M L (fun v M' L' => M = M' ∧ L = L' ∧ v = .bool (decide (a = b))) noPanic := by
  have hla := ha.size
  have hlb := hb.size
  have hmx := ha.max
  have hmle := ha.le
  refine enter (args := [_, _]) (fn := Tryd.f30) ⟨Tryd.func30, rfl, by kernel_rfl, by kernel_rfl⟩ 26 rfl ?_
  refine x_seq (x_region ?_)
  refine tl_y rfl (y_assign rfl) ?_
  refine tl_nil (.then_normal ?_)
  refine x_seq (x_seq (x_region ?_))
  refine tl_y rfl (y_move (v := .slice _ _ _) rfl) ?_
  refine tl_y rfl (y_len rfl) ?_
  refine tl_y rfl (y_move (v := .slice _ _ _) rfl) ?_
  refine tl_y rfl (y_len rfl) ?_
  refine tl_y rfl (y_neq rfl rfl) ?_
  refine tl_nil (.then_normal ?_)
  refine .sub (F' := [(0, _), (1, _), (4, _), (10, _)]) (.cons rfl (.cons rfl (.cons rfl (.cons rfl .nil)))) ?_
  refine x_cond rfl (fun hc1 => ?_) (fun hc1 => ?_)
  ·
    refine x_seq (x_region ?_)
    refine tl_y rfl (y_assign rfl) ?_
    refine tl_nil (.then_normal ?_)
    refine x_ret (.then_ret (ret1 rfl rfl (Le.refl _) ⟨rfl, rfl, by rw [decide_eq_false]; rintro rfl; omega⟩))
  ·
    obtain rfl : n = m := by omega
    refine x_skip (.then_normal ?_)
    refine x_seq (x_seq (x_region ?_))
    refine tl_y rfl (y_assign rfl) ?_
    refine tl_nil (.then_normal ?_)
    refine x_block ?_
    refine x_loop (I := fun m' F D M1 L1 => ∃ k : Nat, m' = n - k ∧ k ≤ n ∧ eqTo a b k ∧ D = [] ∧ M = M1 ∧ L = L1 ∧ F = [(0, .slice A n c), (1, .slice B n d), (4, .bool false), (5, .int .i64 k)]) (n) (F0 := [(0, _), (1, _), (4, _), (5, _)]) ?_ (.cons rfl (.cons rfl (.cons rfl (.cons rfl .nil)))) ?_  -- slots [0, 1, 4, 5], written [4, 5]
    · exact ⟨0, rfl, by omega, (fun j h => by omega), rfl, rfl, rfl, rfl⟩
    rintro m _ _ M1 L1 ⟨k, rfl, hk, heq, rfl, rfl, rfl, rfl⟩
    refine x_seq (x_seq (x_region ?_))
    refine tl_y rfl (y_move (v := .int _ _) rfl) ?_
    refine tl_y rfl (y_move (v := .slice _ _ _) rfl) ?_
    refine tl_y rfl (y_len rfl) ?_
    refine tl_y rfl (y_lss rfl rfl) ?_
    refine tl_nil (.then_normal ?_)
    refine x_cond rfl (fun hc2 => ?_) (fun hc2 => ?_)
    ·
      have hkn : k < n := by omega
      obtain ⟨p, o, rfl, hca⟩ := ha.byte (by omega)
      obtain ⟨p', o', rfl, hcb⟩ := hb.byte (by omega)
      refine x_skip (.then_normal ?_)
      refine .sub (F' := [(0, _), (1, _), (4, _), (5, _)]) (.cons rfl (.cons rfl (.cons rfl (.cons rfl .nil)))) ?_
      refine x_seq ?_
      refine x_block ?_
      refine x_seq ?_
      refine x_draw 9 hmix rfl ?_
      refine to_p 0 rfl (by kernel_rfl) rfl (y_move (v := .slice _ _ _) rfl) ?_
      refine to_p 1 rfl (by kernel_rfl) rfl (y_move (v := .int _ _) rfl) ?_
      refine to_p 2 rfl (by kernel_rfl) rfl (y_indexAddr rfl rfl (by omega)) ?_
      refine to_y 3 rfl (by kernel_rfl) rfl (y_load rfl rfl (.at_ (hca _ k hkn) (by omega))) ?_
      refine to_p 4 rfl (by kernel_rfl) rfl (y_move (v := .slice _ _ _) rfl) ?_
      refine to_p 5 rfl (by kernel_rfl) rfl (y_move (v := .int _ _) rfl) ?_
      refine to_p 6 rfl (by kernel_rfl) rfl (y_indexAddr rfl rfl (by omega)) ?_
      refine to_y 7 rfl (by kernel_rfl) rfl (y_load rfl rfl (.at_ (hcb _ k hkn) (by omega))) ?_
      refine to_p 8 rfl (by kernel_rfl) rfl (y_neq rfl rfl) ?_
      refine to_nil (by kernel_rfl) (.then_normal ?_)
      refine .sub (F' := [(0, _), (1, _), (4, _), (5, _), (25, _)]) (.cons rfl (.cons rfl (.cons rfl (.cons rfl (.cons rfl .nil))))) ?_
      refine x_cond rfl (fun hc3 => ?_) (fun hc3 => ?_)
      ·
        refine x_seq (x_region ?_)
        refine tl_y rfl (y_assign rfl) ?_
        refine tl_nil (.then_normal ?_)
        refine x_ret (.block_ret (.then_ret (.loop_ret (.block_ret (.then_ret (ret1 rfl rfl (Le.refl _) ⟨rfl, rfl, by rw [decide_eq_false]; rintro rfl; exact hc3 rfl⟩))))))
      ·
        refine x_skip (.block_normal (.then_normal ?_))
        refine x_region ?_
        refine tl_y rfl (y_move (v := .int _ _) rfl) ?_
        refine tl_y rfl (y_addI rfl rfl (by omega)) ?_
        refine tl_y rfl (y_assign (v := .int _ _) rfl) ?_
        refine tl_nil (.loop_next (m' := n - (k + 1)) (by omega) (F' := [(0, _), (1, _), (4, _), (5, _)]) (.cons rfl (.cons rfl (.cons rfl (.cons rfl .nil)))) ?_)
        exact ⟨k + 1, rfl, by omega, (fun j hj => by
  rcases Nat.lt_or_ge j k with hlt | hge
  · exact heq j hlt
  · obtain rfl : j = k := by omega
    exact UInt8.toNat_inj.1 (by omega)), rfl, rfl, rfl, rfl⟩
    ·
      refine x_exit (.then_exit (.loop_exit (.block_exit (.then_normal ?_))))
      refine .sub (F' := []) .nil ?_
      refine x_seq (x_region ?_)
      refine tl_y rfl (y_assign rfl) ?_
      refine tl_nil (.then_normal ?_)
      refine x_ret (ret1 rfl rfl (Le.refl _) ⟨rfl, rfl, by
  rw [decide_eq_true]
  apply List.ext_getElem (by omega)
  intro i h1 h2
  have := heq i (by omega)
  simpa [List.getD_eq_getElem?_getD, h1, h2] using this⟩)
theorem all_spec {A B : Option Addr} {n c m d : Nat} {va vb : List Value} {a b : List (List UInt8)} (ha : Row M 1 A n c va) (hb : RowIn M L 1 B m vb) (hra : BRows M va a) (hrb : BRows M vb b) :
    Con Tryd.prog 45 #[.slice A n c, .slice B m d] G M L (fun v M' L' => M = M' ∧ L = L' ∧ v = .bool (decide (a = b))) noPanic := by
  have hla := ha.len
  have hlb := hb.len
  have hmx := ha.max
  have hmle := ha.le
  have hva := hra.len
  have hvb := hrb.len
  refine enter (args := [_, _]) (fn := Tryd.f45) ⟨Tryd.func45, rfl, by kernel_rfl, by kernel_rfl⟩ 27 rfl ?_
  refine x_seq (x_region ?_)
  refine tl_y rfl (y_assign rfl) ?_
  refine tl_nil (.then_normal ?_)
  refine x_seq (x_seq (x_region ?_))
  refine tl_y rfl (y_move (v := .slice _ _ _) rfl) ?_
  refine tl_y rfl (y_len rfl) ?_
  refine tl_y rfl (y_move (v := .slice _ _ _) rfl) ?_
  refine tl_y rfl (y_len rfl) ?_
  refine tl_y rfl (y_neq rfl rfl) ?_
  refine tl_nil (.then_normal ?_)
  refine .sub (F' := [(0, _), (1, _), (4, _), (10, _)]) (.cons rfl (.cons rfl (.cons rfl (.cons rfl .nil)))) ?_
  refine x_cond rfl (fun hc1 => ?_) (fun hc1 => ?_)
  ·
    refine x_seq (x_region ?_)
    refine tl_y rfl (y_assign rfl) ?_
    refine tl_nil (.then_normal ?_)
    refine x_ret (.then_ret (ret1 rfl rfl (Le.refl _) ⟨rfl, rfl, by rw [decide_eq_false]; rintro rfl; omega⟩))
  ·
    obtain rfl : n = m := by omega
    refine x_skip (.then_normal ?_)
    refine x_seq (x_seq (x_region ?_))
    refine tl_y rfl (y_assign rfl) ?_
    refine tl_nil (.then_normal ?_)
    refine x_block ?_
    refine x_loop (I := fun m' F D M1 L1 => ∃ k : Nat, m' = n - k ∧ k ≤ n ∧ (∀ j, j < k → a.getD j [] = b.getD j []) ∧ D = [] ∧ M = M1 ∧ L = L1 ∧ F = [(0, .slice A n c), (1, .slice B n d), (4, .bool false), (5, .int .i64 k)]) (n) (F0 := [(0, _), (1, _), (4, _), (5, _)]) ?_ (.cons rfl (.cons rfl (.cons rfl (.cons rfl .nil)))) ?_  -- slots [0, 1, 4, 5], written [4, 5]
    · exact ⟨0, rfl, by omega, (fun j h => by omega), rfl, rfl, rfl, rfl⟩
    rintro m _ _ M1 L1 ⟨k, rfl, hk, heq, rfl, rfl, rfl, rfl⟩
    refine x_seq (x_seq (x_region ?_))
    refine tl_y rfl (y_move (v := .int _ _) rfl) ?_
    refine tl_y rfl (y_move (v := .slice _ _ _) rfl) ?_
    refine tl_y rfl (y_len rfl) ?_
    refine tl_y rfl (y_lss rfl rfl) ?_
    refine tl_nil (.then_normal ?_)
    refine x_cond rfl (fun hc2 => ?_) (fun hc2 => ?_)
    ·
      have hkn : k < n := by omega
      obtain ⟨p, o, rfl, hca⟩ := ha.addr (by omega)
      obtain ⟨p', o', rfl, hcb⟩ := hb.addr (by omega)
      obtain ⟨A1, n1, c1, hv1, hb1⟩ := hra.get k (by omega)
      obtain ⟨A2, n2, c2, hv2, hb2⟩ := hrb.get k (by omega)
      refine x_skip (.then_normal ?_)
      refine .sub (F' := [(0, _), (1, _), (4, _), (5, _)]) (.cons rfl (.cons rfl (.cons rfl (.cons rfl .nil)))) ?_
      refine x_seq ?_
      refine x_block ?_
      refine x_seq ?_
      refine x_draw 10 hmix rfl ?_
      refine to_p 0 rfl (by kernel_rfl) rfl (y_move (v := .slice _ _ _) rfl) ?_
      refine to_p 1 rfl (by kernel_rfl) rfl (y_move (v := .int _ _) rfl) ?_
      refine to_p 2 rfl (by kernel_rfl) rfl (y_indexAddr rfl rfl (by omega)) ?_
      refine to_y 3 rfl (by kernel_rfl) rfl (y_load rfl rfl (.at_ (hca _ k _ hv1) (by omega))) ?_
      refine to_p 4 rfl (by kernel_rfl) rfl (y_move (v := .slice _ _ _) rfl) ?_
      refine to_p 5 rfl (by kernel_rfl) rfl (y_move (v := .int _ _) rfl) ?_
      refine to_p 6 rfl (by kernel_rfl) rfl (y_indexAddr rfl rfl (by omega)) ?_
      refine to_y 7 rfl (by kernel_rfl) rfl (y_load rfl rfl (.at_ (hcb k _ hv2) (by omega))) ?_
      refine to_e 8 rfl (by kernel_rfl) rfl (e_call' rfl (same_spec hb1 hb2) ?_)
      rintro _ M2 L2 hM2 ⟨rfl, rfl, rfl⟩
      refine ⟨⟨(by first | exact Le.refl _ | assumption), Keeps.mem⟩, ?_⟩
      refine to_p 9 rfl (by kernel_rfl) rfl (y_notd rfl) ?_
      refine to_nil (by kernel_rfl) (.then_normal ?_)
      refine .sub (F' := [(0, _), (1, _), (4, _), (5, _), (26, _)]) (.cons rfl (.cons rfl (.cons rfl (.cons rfl (.cons rfl .nil))))) ?_
      refine x_cond rfl (fun hc3 => ?_) (fun hc3 => ?_)
      ·
        refine x_seq (x_region ?_)
        refine tl_y rfl (y_assign rfl) ?_
        refine tl_nil (.then_normal ?_)
        refine x_ret (.block_ret (.then_ret (.loop_ret (.block_ret (.then_ret (ret1 rfl rfl (Le.refl _) ⟨rfl, rfl, by rw [decide_eq_false]; rintro rfl; exact hc3 rfl⟩))))))
      ·
        refine x_skip (.block_normal (.then_normal ?_))
        refine x_region ?_
        refine tl_y rfl (y_move (v := .int _ _) rfl) ?_
        refine tl_y rfl (y_addI rfl rfl (by omega)) ?_
        refine tl_y rfl (y_assign (v := .int _ _) rfl) ?_
        refine tl_nil (.loop_next (m' := n - (k + 1)) (by omega) (F' := [(0, _), (1, _), (4, _), (5, _)]) (.cons rfl (.cons rfl (.cons rfl (.cons rfl .nil)))) ?_)
        exact ⟨k + 1, rfl, by omega, (fun j hj => by
  rcases Nat.lt_or_ge j k with hlt | hge
  · exact heq j hlt
  · obtain rfl : j = k := by omega
    exact Classical.not_not.1 hc3), rfl, rfl, rfl, rfl⟩
    ·
      refine x_exit (.then_exit (.loop_exit (.block_exit (.then_normal ?_))))
      refine .sub (F' := []) .nil ?_
      refine x_seq (x_region ?_)
      refine tl_y rfl (y_assign rfl) ?_
      refine tl_nil (.then_normal ?_)
      refine x_ret (ret1 rfl rfl (Le.refl _) ⟨rfl, rfl, by
  rw [decide_eq_true]
  apply List.ext_getElem (by omega)
  intro i h1 h2
  have := heq i (by omega)
  simpa [List.getD_eq_getElem?_getD, h1, h2] using this⟩)
end
end Go.Proofs.YtbgdjdhbejbhkaaDoor
set_option linter.unusedVariables false
set_option linter.unusedSimpArgs false
namespace Go.Proofs.YtbgdjdhbejbhkaaDoor
open Go Go.Eng
section
variable {G : World} {M : Mem} {L : Own}
theorem RGet_spec {A : Option Addr} {n c : Nat} {bs : List UInt8} (h : Bytes M A n c bs) (hn : n ≤ 8) :
    Con Tryd.prog 28 #[.slice A n c] G M L (fun r M' L' => M = M' ∧ L = L' ∧ ∃ x : UInt64, x.toNat = getB bs ∧ r = .tuple #[.int .u64 (x.toNat : Int), .bool true]) noPanic := by
  have hs := h.size
  refine enter (args := [_]) (fn := Tryd.f28) ⟨Tryd.func28, rfl, by kernel_rfl, by kernel_rfl⟩ 24 rfl ?_
  refine x_seq (x_region ?_)
  refine tl_y rfl (y_assign rfl) ?_
  refine tl_y rfl (y_assign rfl) ?_
  refine tl_nil (.then_normal ?_)
  refine x_seq (x_seq (x_region ?_))
  refine tl_y rfl (y_move (v := .slice _ _ _) rfl) ?_
  refine tl_y rfl (y_len rfl) ?_
  refine tl_y rfl (y_gtr rfl rfl) ?_
  refine tl_nil (.then_normal ?_)
  refine .sub (F' := [(0, _), (8, _)]) (.cons rfl (.cons rfl .nil)) ?_
  refine x_false rfl (by rw [decide_eq_false]; omega) ?_
  refine x_skip (.then_normal ?_)
  refine x_seq (x_region ?_)
  refine tl_y rfl (y_assign rfl) ?_
  refine tl_nil (.then_normal ?_)
  refine x_seq (x_seq (x_region ?_))
  refine tl_y rfl (y_assign rfl) ?_
  refine tl_nil (.then_normal ?_)
  refine x_block ?_
  refine x_loop (I := fun m' F D M1 L1 => ∃ (k : Nat) (x : UInt64), m' = n - k ∧ k ≤ n ∧ x.toNat = getB (bs.take k) ∧ D = [] ∧ M = M1 ∧ L = L1 ∧ F = [(0, .slice A n c), (4, .int .u64 (x.toNat : Int)), (5, .int .i64 k)]) (n) (F0 := [(0, _), (4, _), (5, _)]) ?_ (.cons rfl (.cons rfl (.cons rfl .nil))) ?_  -- slots [0, 4, 5], written [4, 5]
  · exact ⟨0, 0, rfl, by omega, rfl, rfl, rfl, rfl, rfl⟩
  rintro m _ _ M1 L1 ⟨k, x, rfl, hk, hx, rfl, rfl, rfl, rfl⟩
  refine x_seq (x_seq (x_region ?_))
  refine tl_y rfl (y_move (v := .int _ _) rfl) ?_
  refine tl_y rfl (y_move (v := .slice _ _ _) rfl) ?_
  refine tl_y rfl (y_len rfl) ?_
  refine tl_y rfl (y_lss rfl rfl) ?_
  refine tl_nil (.then_normal ?_)
  refine x_cond rfl (fun hc2 => ?_) (fun hc2 => ?_)
  ·
    have hkn : k < n := by omega
    obtain ⟨g, o, rfl, hca⟩ := h.byte (by omega)
    have hlt : x.toNat < 72057594037927936 := by
      have h1 := getB_lt (bs.take k)
      have h2 : (bs.take k).length = k := by rw [List.length_take]; omega
      have h3 : 256 ^ k ≤ 256 ^ 7 := Nat.pow_le_pow_right (by omega) (by omega)
      rw [h2] at h1
      omega
    refine x_skip (.then_normal ?_)
    refine .sub (F' := [(0, _), (4, _), (5, _)]) (.cons rfl (.cons rfl (.cons rfl .nil))) ?_
    refine x_seq ?_
    refine x_block ?_
    refine x_region ?_
    refine tl_y rfl (y_move (v := .int _ _) rfl) ?_
    refine tl_y rfl (y_mul64 (b := 256) rfl rfl) ?_
    refine tl_y rfl (y_move (v := .slice _ _ _) rfl) ?_
    refine tl_y rfl (y_move (v := .int _ _) rfl) ?_
    refine tl_y rfl (y_indexAddr rfl rfl (by omega)) ?_
    refine tl_y rfl (y_load rfl rfl (.at_ (hca _ k hkn) (by omega))) ?_
    refine tl_y rfl (y_u8u64 rfl) ?_
    refine tl_y rfl (y_add64 rfl rfl) ?_
    refine tl_y rfl (y_assign (v := .int _ _) rfl) ?_
    refine tl_nil (.block_normal (.then_normal ?_))
    refine .sub (F' := [(0, _), (4, _), (5, _)]) (.cons rfl (.cons rfl (.cons rfl .nil))) ?_
    refine x_region ?_
    refine tl_y rfl (y_move (v := .int _ _) rfl) ?_
    refine tl_y rfl (y_addI rfl rfl (by omega)) ?_
    refine tl_y rfl (y_assign (v := .int _ _) rfl) ?_
    refine tl_nil (.loop_next (m' := n - (k + 1)) (by omega) (F' := [(0, _), (4, _), (5, _)]) (.cons rfl (.cons rfl (.cons rfl .nil))) ?_)
    exact ⟨k + 1, _, rfl, by omega, by
  have hc := (bs.getD k 0).toNat_lt
  rw [UInt64.toNat_add, UInt64.toNat_mul, UInt8.toNat_toUInt64, show (256 : UInt64).toNat = 256 from rfl, take_snoc bs k 0 (by omega), getB_snoc, hx]
  rw [hx] at hlt
  omega, rfl, rfl, rfl, rfl⟩
  ·
    refine x_exit (.then_exit (.loop_exit (.block_exit (.then_normal ?_))))
    refine .sub (F' := [(4, _)]) (.cons rfl .nil) ?_
    refine x_seq (x_region ?_)
    refine tl_y rfl (y_move (v := .int _ _) rfl) ?_
    refine tl_y rfl (y_assign (v := .int _ _) rfl) ?_
    refine tl_y rfl (y_assign rfl) ?_
    refine tl_nil (.then_normal ?_)
    refine x_ret (ret2 rfl rfl rfl (Le.refl _) ⟨rfl, rfl, x, by rw [hx, List.take_of_length_le (by omega)], rfl⟩)
theorem RFill_spec (c : UInt8) (n : Nat) (hn : n ≤ 65536) :
    Con Tryd.prog 33 #[.int .u8 (c.toNat : Int), .int .i64 n] G M L (fun r M' L' => L = L' ∧ ∃ A cc, r = .slice A n cc ∧ Bytes M' A n cc (List.replicate n c)) noPanic := by
  refine enter (args := [_, _]) (fn := Tryd.f33) ⟨Tryd.func33, rfl, by kernel_rfl, by kernel_rfl⟩ 21 rfl ?_
  refine x_seq (x_region ?_)
  refine tl_y rfl (y_assign rfl) ?_
  refine tl_nil (.then_normal ?_)
  refine x_seq (x_region ?_)
  refine tl_y rfl (y_assign rfl) ?_
  refine tl_nil (.then_normal ?_)
  refine x_seq (x_seq (x_region ?_))
  refine tl_y rfl (y_assign rfl) ?_
  refine tl_nil (.then_normal ?_)
  refine x_block ?_
  refine x_loop (I := fun m' F D M1 L1 => ∃ (k : Nat) (A : Option Addr) (cc : Nat) (E : Own), m' = n - k ∧ k ≤ n ∧ OwnRow 5 1 A k cc ((List.replicate k c).map bv) E ∧ D = [] ∧ M = M1 ∧ L1 = E ++ L ∧ F = [(0, .int .u8 (c.toNat : Int)), (1, .int .i64 n), (5, .slice A k cc), (6, .int .i64 k)]) (n) (F0 := [(0, _), (1, _), (5, _), (6, _)]) ?_ (.cons rfl (.cons rfl (.cons rfl (.cons rfl .nil)))) ?_  -- slots [0, 1, 5, 6], written [5, 6]
  · exact ⟨0, none, 0, [], rfl, by omega, .nil, rfl, rfl, rfl, rfl⟩
  rintro m _ _ M1 L1 ⟨k, A, cc, E, rfl, hk, hE, rfl, rfl, rfl, rfl⟩
  refine x_seq (x_seq (x_region ?_))
  refine tl_y rfl (y_move (v := .int _ _) rfl) ?_
  refine tl_y rfl (y_move (v := .int _ _) rfl) ?_
  refine tl_y rfl (y_lss rfl rfl) ?_
  refine tl_y rfl (y_move (v := .bool _) rfl) ?_
  refine tl_cases (s := 10) rfl (fun hk1 => ?_) (fun hk1 => ?_)
  ·
    refine tl_y rfl (y_move (v := .int _ _) rfl) ?_
    refine tl_y rfl (y_leq rfl rfl) ?_
    refine tl_y rfl (y_pickT rfl rfl) ?_
    refine tl_nil (.then_normal ?_)
    refine .sub (F' := [(0, _), (1, _), (5, _), (6, _), (13, _)]) (.cons rfl (.cons rfl (.cons rfl (.cons rfl (.cons rfl .nil))))) ?_
    refine x_cond rfl (fun hc1 => ?_) (fun hc1 => ?_)
    ·
      refine x_skip (.then_normal ?_)
      refine x_seq ?_
      refine x_block ?_
      refine x_region ?_
      refine tl_y rfl (y_move (v := .slice _ _ _) rfl) ?_
      refine tl_y rfl (y_move (v := .int _ _) rfl) ?_
      refine tl_e rfl (e_buildSlice rfl (by decide) (fun b1 => ?_))
      refine .bringE E inferInstance ?_
      refine tl_e rfl (e_append (E := E) (by decide) rfl rfl hE (.own inferInstance rfl) rfl (by omega) (by omega) (fun A3 cap3 E3 hE3 => ?_))
      rw [show (List.replicate k c).map bv ++ [Value.int .u8 (c.toNat : Int)] = (List.replicate (k + 1) c).map bv by rw [List.replicate_succ']; simp [bv]] at hE3
      refine tl_y rfl (y_assign (v := .slice _ _ _) rfl) ?_
      refine tl_nil (.block_normal (.then_normal ?_))
      refine .sub (F' := [(0, _), (1, _), (5, _), (6, _)]) (.cons rfl (.cons rfl (.cons rfl (.cons rfl .nil)))) ?_
      refine x_region ?_
      refine tl_y rfl (y_move (v := .int _ _) rfl) ?_
      refine tl_y rfl (y_addI rfl rfl (by omega)) ?_
      refine tl_y rfl (y_assign (v := .int _ _) rfl) ?_
      refine .dropTo (E3 ++ L) inferInstance ?_
      refine tl_nil (.loop_next (m' := n - (k + 1)) (by omega) (F' := [(0, _), (1, _), (5, _), (6, _)]) (.cons rfl (.cons rfl (.cons rfl (.cons rfl .nil)))) ?_)
      exact ⟨k + 1, A3, cap3, E3, rfl, by omega, hE3, rfl, rfl, rfl, rfl⟩
    ·
      omega
  ·
    refine tl_skip rfl ?_
    refine tl_skip rfl ?_
    refine tl_y rfl (y_pickF rfl rfl) ?_
    refine tl_nil (.then_normal ?_)
    refine .sub (F' := [(0, _), (1, _), (5, _), (6, _), (13, _)]) (.cons rfl (.cons rfl (.cons rfl (.cons rfl (.cons rfl .nil))))) ?_
    refine x_false rfl rfl ?_
    refine x_exit (.then_exit (.loop_exit (.block_exit (.then_normal ?_))))
    refine .sub (F' := [(5, _)]) (.cons rfl .nil) ?_
    refine x_seq (x_region ?_)
    refine tl_y rfl (y_move (v := .slice _ _ _) rfl) ?_
    refine tl_y rfl (y_assign (v := .slice _ _ _) rfl) ?_
    refine tl_nil (.then_normal ?_)
    obtain rfl : k = n := by omega
    refine x_ret (.pubRow hE fun M' hle hr => ret1 rfl rfl hle ⟨rfl, _, _, rfl, hr⟩)
end
end Go.Proofs.YtbgdjdhbejbhkaaDoor
set_option linter.unusedVariables false
set_option linter.unusedSimpArgs false
namespace Go.Proofs.YtbgdjdhbejbhkaaDoor
open Go Go.Eng
structure RRep where
  la : Option Addr
  ln : Nat
  lc : Nat
  sa : Option Addr
  sn : Nat
  sc : Nat
  sv : List Value
  E1 : Own
  wa : Option Addr
  wn : Nat
  wc : Nat
  E2 : Own
  ha : Option Addr
  hn : Nat
  hc : Nat
  hv : List Value
  E3 : Own
  fa : Option Addr
  fn : Nat
  fc : Nat
abbrev rcells (r : RRep) (S : DS) : List Value := [.slice r.la r.ln r.lc, .slice r.sa r.sn r.sc, .slice r.wa r.wn r.wc, .slice r.ha r.hn r.hc, .slice r.fa r.fn r.fc, .int .i64 S.stop, .int .i64 S.count, .bool S.down]
abbrev rL (q : Nat) (r : RRep) (S : DS) (R : Own) : Own := (q, .cells (List.toArray (rcells r S)) 74 (0, 0)) :: (r.E1 ++ (r.E2 ++ (r.E3 ++ R)))
abbrev wheres (ps : List (Int × List UInt8)) : List Value := ps.map fun q => .int .i64 q.1
structure IsRef (M : Mem) (r : RRep) (S : DS) : Prop where
  s : OwnRow 45 1 r.sa r.sn r.sc r.sv r.E1
  w : OwnRow 3 1 r.wa r.wn r.wc (wheres S.pend) r.E2
  h : OwnRow 45 1 r.ha r.hn r.hc r.hv r.E3
  sure : BRows M r.sv S.sure
  what : BRows M r.hv (S.pend.map Prod.snd)
  fail : Ints M r.fa r.fn r.fc S.fail
  sl : ∀ b ∈ S.sure, b.length = 64
  pl : ∀ q ∈ S.pend, q.2.length = 64 ∧ 0 ≤ q.1 ∧ q.1 < S.sure.length
  sz : S.sure.length ≤ 256
theorem IsRef.mono {M M' : Mem} {r : RRep} {S : DS} (h : IsRef M r S) (hle : Le M M') : IsRef M' r S := ⟨h.s, h.w, h.h, h.sure.mono hle, h.what.mono hle, h.fail.mono hle, h.sl, h.pl, h.sz⟩
theorem IsRef.sn {M : Mem} {r : RRep} {S : DS} (h : IsRef M r S) : r.sn = S.sure.length := by have := h.s.len; have := h.sure.len; omega
theorem IsRef.wn {M : Mem} {r : RRep} {S : DS} (h : IsRef M r S) : r.wn = S.pend.length := by have := h.w.len; simp at this; omega
theorem IsRef.hn {M : Mem} {r : RRep} {S : DS} (h : IsRef M r S) : r.hn = S.pend.length := by have := h.h.len; have := h.what.len; simp at this; omega
def RK (q : Nat) (la : Option Addr) (ln lc : Nat) (S : DS) (R : Own) (M' : Mem) (L' : Own) : Prop := ∃ r', IsRef M' r' S ∧ (L', r'.la, r'.ln, r'.lc) = (rL q r' S R, la, ln, lc)
theorem RK.out {q : Nat} {la : Option Addr} {ln lc : Nat} {S : DS} {R : Own} {M' : Mem} {L' : Own} (h : RK q la ln lc S R M' L') : ∃ r', IsRef M' r' S ∧ L' = rL q r' S R ∧ r'.la = la ∧ r'.ln = ln ∧ r'.lc = lc := by
  obtain ⟨r', h1, h2⟩ := h
  simp only [Prod.mk.injEq] at h2
  exact ⟨r', h1, h2⟩
section
variable {G : World} {M : Mem} {R : Own} {q : Nat} {r : RRep} {S : DS}
theorem RNew_spec {L : Own} (n : Int) (hn : 0 ≤ n ∧ n ≤ 256) :
    Con Tryd.prog 23 #[.int .i64 n] G M L (fun v M' L' => ∃ q, RK q none 0 0 (fresh n.toNat) L M' L' ∧ v = .pointer (some ⟨q, 0, none⟩)) noPanic := by
  refine enter (args := [_]) (fn := Tryd.f23) ⟨Tryd.func23, rfl, by kernel_rfl, by kernel_rfl⟩ 23 rfl ?_
  refine x_seq (x_region ?_)
  refine tl_y rfl (y_assign rfl) ?_
  refine tl_nil (.then_normal ?_)
  refine x_seq (x_region ?_)
  refine tl_y rfl (y_build rfl) ?_
  refine tl_e rfl (e_box rfl (fun b1 => ?_))
  refine tl_y rfl (y_assign (v := .pointer _) rfl) ?_
  refine tl_nil (.then_normal ?_)
  refine x_seq (x_seq (x_region ?_))
  refine tl_y rfl (y_assign rfl) ?_
  refine tl_nil (.then_normal ?_)
  refine x_block ?_
  refine x_loop (I := fun m' F D M1 L1 => ∃ (k : Nat) (A : Option Addr) (c : Nat) (vs : List Value) (E : Own), m' = n.toNat - k ∧ k ≤ n.toNat ∧ Le M M1 ∧ OwnRow 45 1 A k c vs E ∧ BRows M1 vs (List.replicate k zeros) ∧ D = [] ∧ L1 = (b1, .cells (List.toArray [.slice none 0 0, .slice A k c, .slice none 0 0, .slice none 0 0, .slice none 0 0, .int .i64 0, .int .i64 0, .bool false]) 74 (0, 0)) :: (E ++ L) ∧ F = [(0, .int .i64 n), (3, .pointer (some ⟨b1, 0, none⟩)), (4, .int .i64 k)]) (n.toNat) (F0 := [(0, _), (3, _), (4, _)]) ?_ (.cons rfl (.cons rfl (.cons rfl .nil))) ?_  -- slots [0, 3, 4], written [4]
  · exact ⟨0, none, 0, [], [], rfl, by omega, Le.refl _, OwnRow.nil, .nil, rfl, rfl, rfl⟩
  rintro m _ _ M1 L1 ⟨k, A, c, vs, E, rfl, hk, hM1, hE, hvs, rfl, rfl, rfl⟩
  refine x_seq (x_seq (x_region ?_))
  refine tl_y rfl (y_move (v := .int _ _) rfl) ?_
  refine tl_y rfl (y_move (v := .int _ _) rfl) ?_
  refine tl_y rfl (y_lss rfl rfl) ?_
  refine tl_nil (.then_normal ?_)
  refine x_cond rfl (fun hc1 => ?_) (fun hc1 => ?_)
  ·
    refine x_skip (.then_normal ?_)
    refine x_seq ?_
    refine x_block ?_
    refine x_draw 7 hmix rfl ?_
    refine to_p 0 rfl (by kernel_rfl) rfl (y_move (v := .pointer _) rfl) ?_
    refine to_p 1 rfl (by kernel_rfl) rfl (y_move (v := .pointer _) rfl) ?_
    refine to_p 2 rfl (by kernel_rfl) rfl (y_nilCheck rfl) ?_
    refine to_p 3 rfl (by kernel_rfl) rfl (y_fieldAddr rfl) ?_
    refine to_y 4 rfl (by kernel_rfl) rfl (y_load rfl rfl (.own inferInstance inferInstance)) ?_
    refine to_e 5 rfl (by kernel_rfl) rfl (e_make1 rfl rfl (by omega) (by omega) (by omega) (by omega) (fun b2 => ?_))
    refine ⟨⟨(by first | exact Le.refl _ | assumption), Keeps.mem⟩, ?_⟩
    refine to_e 6 rfl (by kernel_rfl) rfl (e_buildSlice rfl (by decide) (fun b3 => ?_))
    refine ⟨⟨(by first | exact Le.refl _ | assumption), Keeps.mem⟩, ?_⟩
    refine .bringE E inferInstance ?_
    refine to_t 7 rfl (by kernel_rfl) (by kernel_rfl) rfl (e_append (E := E) (by decide) rfl rfl hE (.own inferInstance rfl) rfl (by omega) (by omega) (fun A' cap' E' hE' => ?_))
    refine to_p 8 rfl (by kernel_rfl) rfl (y_nilCheck rfl) ?_
    refine to_p 9 rfl (by kernel_rfl) rfl (y_fieldAddr rfl) ?_
    refine to_t 10 rfl (by kernel_rfl) (by kernel_rfl) rfl (e_store rfl rfl (by rfl) (by rfl) inferInstance inferInstance inferInstance ?_)
    refine to_nil (by kernel_rfl) (.block_normal (.then_normal ?_))
    refine .sub (F' := [(0, _), (3, _), (4, _)]) (.cons rfl (.cons rfl (.cons rfl .nil))) ?_
    refine x_region ?_
    refine .pub b2 inferInstance (fun M2 hM2 hb2 => ?_)
    refine .dropTo ((b1, .cells (List.toArray [.slice none 0 0, .slice A' (k + 1) cap', .slice none 0 0, .slice none 0 0, .slice none 0 0, .int .i64 0, .int .i64 0, .bool false]) 74 (0, 0)) :: (E' ++ L)) inferInstance ?_
    refine tl_y rfl (y_move (v := .int _ _) rfl) ?_
    refine tl_y rfl (y_addI rfl rfl (by omega)) ?_
    refine tl_y rfl (y_assign (v := .int _ _) rfl) ?_
    refine tl_nil (.loop_next (m' := n.toNat - (k + 1)) (by omega) (F' := [(0, _), (3, _), (4, _)]) (.cons rfl (.cons rfl (.cons rfl .nil))) ?_)
    exact ⟨k + 1, A', cap', _, E', rfl, by omega, hM1.trans hM2, hE', by rw [List.replicate_succ']; exact (hvs.mono hM2).snoc (Bytes.zeros hb2 (by omega)), rfl, rfl, rfl⟩
  ·
    refine x_exit (.then_exit (.loop_exit (.block_exit (.then_normal ?_))))
    refine .sub (F' := [(3, _)]) (.cons rfl .nil) ?_
    refine x_seq (x_region ?_)
    refine tl_y rfl (y_move (v := .pointer _) rfl) ?_
    refine tl_y rfl (y_assign (v := .pointer _) rfl) ?_
    refine tl_nil (.then_normal ?_)
    refine x_ret (ret1 rfl rfl hM1 (by
have hkn : k = n.toNat := by omega
subst hkn
exact ⟨b1, ⟨{ la := none, ln := 0, lc := 0, sa := A, sn := n.toNat, sc := c, sv := vs, E1 := E, wa := none, wn := 0, wc := 0, E2 := [], ha := none, hn := 0, hc := 0, hv := [], E3 := [], fa := none, fn := 0, fc := 0 }, ⟨hE, .nil, .nil, hvs, .nil, .nil _ _, by intro b hb; rw [(List.mem_replicate.1 hb).2]; simp [zeros], by intro q hq; simp [fresh] at hq, by simp [fresh]; omega⟩, rfl⟩, rfl⟩))
theorem counted_spec (h : IsRef M r S) (hc : -4611686018427387904 ≤ S.count ∧ S.count ≤ 4611686018427387904) :
    Con Tryd.prog 90 #[.pointer (some ⟨q, 0, none⟩)] G M (rL q r S R) (fun v M' L' => M = M' ∧ L' = rL q r (doingRes S { S with count := S.count + 1 }).1 R ∧ IsRef M r (doingRes S { S with count := S.count + 1 }).1 ∧ v = .int .i64 (doingRes S { S with count := S.count + 1 }).2) noPanic := by
  have hfl := h.fail.size
  have hfm := h.fail.max
  have hfle := h.fail.le
  refine enter (args := [_]) (fn := Tryd.f90) ⟨Tryd.func90, rfl, by kernel_rfl, by kernel_rfl⟩ 51 rfl ?_
  refine x_seq (x_region ?_)
  refine tl_y rfl (y_assign rfl) ?_
  refine tl_nil (.then_normal ?_)
  refine x_seq (x_seq (x_region ?_))
  refine tl_y rfl (y_move (v := .pointer _) rfl) ?_
  refine tl_y rfl (y_nilCheck rfl) ?_
  refine tl_y rfl (y_fieldAddr rfl) ?_
  refine tl_y rfl (y_load rfl rfl (.own inferInstance inferInstance)) ?_
  refine tl_nil (.then_normal ?_)
  refine x_condb rfl (fun hc1 => ?_) (fun hc1 => ?_)
  ·
    refine x_seq (x_region ?_)
    refine tl_y rfl (y_assign rfl) ?_
    refine tl_nil (.then_normal ?_)
    refine .sub (F' := [(2, _)]) (.cons rfl .nil) ?_
    refine x_ret (.then_ret (ret1 rfl rfl (Le.refl _) (by rw [show doingRes S { S with count := S.count + 1 } = (S, 6) by simp [doingRes, hc1]]; exact ⟨rfl, rfl, h, rfl⟩)))
  ·
    refine x_skip (.then_normal ?_)
    refine .sub (F' := [(0, _), (2, _)]) (.cons rfl (.cons rfl .nil)) ?_
    refine x_seq (x_region ?_)
    refine tl_y rfl (y_move (v := .pointer _) rfl) ?_
    refine tl_y rfl (y_nilCheck rfl) ?_
    refine tl_y rfl (y_fieldAddr rfl) ?_
    refine tl_y rfl (y_load rfl rfl (.own inferInstance inferInstance)) ?_
    refine tl_y rfl (y_addI rfl rfl (by omega)) ?_
    refine tl_y rfl (y_nilCheck rfl) ?_
    refine tl_y rfl (y_fieldAddr rfl) ?_
    refine tl_e rfl (e_store rfl rfl (by rfl) (by rfl) inferInstance inferInstance inferInstance ?_)
    refine tl_nil (.then_normal ?_)
    refine .sub (F' := [(0, _), (2, _)]) (.cons rfl (.cons rfl .nil)) ?_
    refine x_seq (x_seq ?_)
    refine x_draw 10 hmix rfl ?_
    refine to_p 0 rfl (by kernel_rfl) rfl (y_move (v := .pointer _) rfl) ?_
    refine to_p 1 rfl (by kernel_rfl) rfl (y_nilCheck rfl) ?_
    refine to_p 2 rfl (by kernel_rfl) rfl (y_fieldAddr rfl) ?_
    refine to_y 3 rfl (by kernel_rfl) rfl (y_load rfl rfl (.own inferInstance inferInstance)) ?_
    refine to_p 4 rfl (by kernel_rfl) rfl (y_move (v := .pointer _) rfl) ?_
    refine to_p 5 rfl (by kernel_rfl) rfl (y_nilCheck rfl) ?_
    refine to_p 6 rfl (by kernel_rfl) rfl (y_fieldAddr rfl) ?_
    refine to_p 7 rfl (by kernel_rfl) rfl (y_fieldAddr rfl) ?_
    refine to_y 8 rfl (by kernel_rfl) rfl (y_load rfl rfl (.own inferInstance inferInstance)) ?_
    refine to_p 9 rfl (by kernel_rfl) rfl (y_eql rfl rfl) ?_
    refine to_nil (by kernel_rfl) (.then_normal ?_)
    refine .sub (F' := [(0, _), (2, _), (24, _)]) (.cons rfl (.cons rfl (.cons rfl .nil))) ?_
    refine x_cond rfl (fun hc2 => ?_) (fun hc2 => ?_)
    ·
      refine x_seq (x_region ?_)
      refine tl_y rfl (y_move (v := .pointer _) rfl) ?_
      refine tl_y rfl (y_nilCheck rfl) ?_
      refine tl_y rfl (y_fieldAddr rfl) ?_
      refine tl_e rfl (e_store rfl rfl (by rfl) (by rfl) inferInstance inferInstance inferInstance ?_)
      refine tl_nil (.then_normal ?_)
      refine .sub (F' := []) .nil ?_
      refine x_seq (x_region ?_)
      refine tl_y rfl (y_assign rfl) ?_
      refine tl_nil (.then_normal ?_)
      refine x_ret (.then_ret (ret1 rfl rfl (Le.refl _) (by rw [show doingRes S { S with count := S.count + 1 } = ({ S with count := S.count + 1, down := true }, 6) by simp [doingRes, hc1, hc2]]; exact ⟨rfl, rfl, ⟨h.s, h.w, h.h, h.sure, h.what, h.fail, h.sl, h.pl, h.sz⟩, rfl⟩)))
    ·
      refine x_skip (.then_normal ?_)
      refine x_seq (x_seq (x_region ?_))
      refine tl_y rfl (y_assign rfl) ?_
      refine tl_nil (.then_normal ?_)
      refine x_block ?_
      refine x_loop (I := fun m' F D M1 L1 => ∃ k : Nat, m' = r.fn - k ∧ k ≤ r.fn ∧ noneOf S.fail (S.count + 1) k ∧ D = [] ∧ M = M1 ∧ L1 = rL q r { S with count := S.count + 1 } R ∧ F = [(0, .pointer (some ⟨q, 0, none⟩)), (2, .int .i64 0), (3, .int .i64 k)]) (r.fn) (F0 := [(0, _), (2, _), (3, _)]) ?_ (.cons rfl (.cons rfl (.cons rfl .nil))) ?_  -- slots [0, 2, 3], written [2, 3]
      · exact ⟨0, rfl, by omega, (fun j h => by omega), rfl, rfl, rfl, rfl⟩
      rintro m _ _ M1 L1 ⟨k, rfl, hk, hno, rfl, rfl, rfl, rfl⟩
      refine x_seq (x_seq (x_region ?_))
      refine tl_y rfl (y_move (v := .int _ _) rfl) ?_
      refine tl_y rfl (y_move (v := .pointer _) rfl) ?_
      refine tl_y rfl (y_nilCheck rfl) ?_
      refine tl_y rfl (y_fieldAddr rfl) ?_
      refine tl_y rfl (y_fieldAddr rfl) ?_
      refine tl_y rfl (y_load rfl rfl (.own inferInstance inferInstance)) ?_
      refine tl_y rfl (y_len rfl) ?_
      refine tl_y rfl (y_lss rfl rfl) ?_
      refine tl_nil (.then_normal ?_)
      refine .sub (F' := [(0, _), (2, _), (3, _), (35, _)]) (.cons rfl (.cons rfl (.cons rfl (.cons rfl .nil)))) ?_
      refine x_cond rfl (fun hc3 => ?_) (fun hc3 => ?_)
      ·
        have hkn : k < r.fn := by omega
        obtain ⟨g, o, hfa, hca⟩ := h.fail.addr (by omega)
        have hcell := fun L => hca L k (.int .i64 (S.fail.getD k 0)) (by simp [hfl, hkn])
        refine x_skip (.then_normal ?_)
        refine x_seq ?_
        refine x_block ?_
        refine x_seq ?_
        refine x_draw 13 hmix rfl ?_
        refine to_p 0 rfl (by kernel_rfl) rfl (y_move (v := .pointer _) rfl) ?_
        refine to_p 1 rfl (by kernel_rfl) rfl (y_nilCheck rfl) ?_
        refine to_p 2 rfl (by kernel_rfl) rfl (y_fieldAddr rfl) ?_
        refine to_p 3 rfl (by kernel_rfl) rfl (y_fieldAddr rfl) ?_
        refine to_y 4 rfl (by kernel_rfl) rfl (y_load rfl rfl (.own inferInstance inferInstance)) ?_
        refine to_p 5 rfl (by kernel_rfl) rfl (y_move (v := .int _ _) rfl) ?_
        refine to_p 6 rfl (by kernel_rfl) rfl (y_indexAddr (b := g) (o := o) (by rw [hfa]; rfl) rfl (by omega)) ?_
        refine to_y 7 rfl (by kernel_rfl) rfl (y_load rfl rfl (.at_ (hcell _) (by omega))) ?_
        refine to_p 8 rfl (by kernel_rfl) rfl (y_move (v := .pointer _) rfl) ?_
        refine to_p 9 rfl (by kernel_rfl) rfl (y_nilCheck rfl) ?_
        refine to_p 10 rfl (by kernel_rfl) rfl (y_fieldAddr rfl) ?_
        refine to_y 11 rfl (by kernel_rfl) rfl (y_load rfl rfl (.own inferInstance inferInstance)) ?_
        refine to_p 12 rfl (by kernel_rfl) rfl (y_eql rfl rfl) ?_
        refine to_nil (by kernel_rfl) (.then_normal ?_)
        refine .sub (F' := [(0, _), (2, _), (3, _), (50, _)]) (.cons rfl (.cons rfl (.cons rfl (.cons rfl .nil)))) ?_
        refine x_cond rfl (fun hc4 => ?_) (fun hc4 => ?_)
        ·
          refine x_seq (x_region ?_)
          refine tl_y rfl (y_assign rfl) ?_
          refine tl_nil (.then_normal ?_)
          refine x_ret (.block_ret (.then_ret (.loop_ret (.block_ret (.then_ret (ret1 rfl rfl (Le.refl _) (by
  have hm : S.count + 1 ∈ S.fail := by
    have e : S.fail.getD k 0 = S.count + 1 := hc4
    rw [← e]; exact getD_mem _ _ _ (by omega)
  rw [show doingRes S { S with count := S.count + 1 } = ({ S with count := S.count + 1 }, 7) by simp [doingRes, hc1, hc2, hm]]
  exact ⟨rfl, rfl, ⟨h.s, h.w, h.h, h.sure, h.what, h.fail, h.sl, h.pl, h.sz⟩, rfl⟩)))))))
        ·
          refine x_skip (.block_normal (.then_normal ?_))
          refine x_region ?_
          refine tl_y rfl (y_move (v := .int _ _) rfl) ?_
          refine tl_y rfl (y_addI rfl rfl (by omega)) ?_
          refine tl_y rfl (y_assign (v := .int _ _) rfl) ?_
          refine tl_nil (.loop_next (m' := r.fn - (k + 1)) (by omega) (F' := [(0, _), (2, _), (3, _)]) (.cons rfl (.cons rfl (.cons rfl .nil))) ?_)
          exact ⟨k + 1, rfl, by omega, noneOf_succ hno (Ne.symm hc4), rfl, rfl, rfl, rfl⟩
      ·
        refine x_exit (.then_exit (.loop_exit (.block_exit (.then_normal ?_))))
        refine .sub (F' := []) .nil ?_
        refine x_seq (x_region ?_)
        refine tl_y rfl (y_assign rfl) ?_
        refine tl_nil (.then_normal ?_)
        refine x_ret (ret1 rfl rfl (Le.refl _) (by
  have hm : ¬ S.count + 1 ∈ S.fail := fun hm => by
    obtain ⟨j, hj, he⟩ := List.getElem_of_mem hm
    exact hno j (by omega) (by rw [List.getD_eq_getElem?_getD, List.getElem?_eq_getElem hj]; simpa using he)
  rw [show doingRes S { S with count := S.count + 1 } = ({ S with count := S.count + 1 }, 0) by simp [doingRes, hc1, hc2, hm]]
  exact ⟨rfl, rfl, ⟨h.s, h.w, h.h, h.sure, h.what, h.fail, h.sl, h.pl, h.sz⟩, rfl⟩))
theorem doing_ok {S S1 S2 : DS} (h : (doingRes S S1).2 = 0) : doingRes S S1 = (S1, 0) ∧ doingRes S S2 = (S2, 0) := by
  unfold doingRes at h ⊢
  split at h
  · simp at h
  · split at h
    · simp at h
    · split at h
      · simp at h
      · simp_all
theorem doing_bad {S S1 S2 : DS} (h : ¬ (doingRes S S1).2 = 0) : doingRes S S2 = doingRes S S1 := by
  unfold doingRes at h ⊢
  split
  · rfl
  · split
    · rfl
    · split
      · rfl
      · simp_all
theorem RWrite_spec (h : IsRef M r S) (hc : -4611686018427387904 ≤ S.count ∧ S.count ≤ 4611686018427387904) (hp : S.pend.length ≤ 549755813888) {i : Int} {A : Option Addr} {n c : Nat} {bs : List UInt8} (hb : Bytes M A n c bs) :
    Con Tryd.prog 43 #[.pointer (some ⟨q, 0, none⟩), .int .i64 i, .slice A n c] G M (rL q r S R) (fun v M' L' => RK q r.la r.ln r.lc (writeRes S i bs).1 R M' L' ∧ v = .int .i64 (writeRes S i bs).2) noPanic := by
  have hbn := hb.size
  have hsn := h.sn
  have hwn := h.wn
  have hhn := h.hn
  refine enter (args := [_, _, _]) (fn := Tryd.f43) ⟨Tryd.func43, rfl, by kernel_rfl, by kernel_rfl⟩ 55 rfl ?_
  refine x_seq (x_region ?_)
  refine tl_y rfl (y_assign rfl) ?_
  refine tl_nil (.then_normal ?_)
  refine x_seq (x_seq (x_region ?_))
  refine tl_y rfl (y_move (v := .pointer _) rfl) ?_
  refine tl_y rfl (y_nilCheck rfl) ?_
  refine tl_y rfl (y_fieldAddr rfl) ?_
  refine tl_y rfl (y_load rfl rfl (.own inferInstance inferInstance)) ?_
  refine tl_nil (.then_normal ?_)
  refine .sub (F' := [(0, _), (1, _), (2, _), (11, _)]) (.cons rfl (.cons rfl (.cons rfl (.cons rfl .nil)))) ?_
  refine x_condb rfl (fun hc1 => ?_) (fun hc1 => ?_)
  ·
    refine x_seq (x_region ?_)
    refine tl_y rfl (y_assign rfl) ?_
    refine tl_nil (.then_normal ?_)
    refine .sub (F' := [(6, _)]) (.cons rfl .nil) ?_
    refine x_ret (.then_ret (ret1 rfl rfl (Le.refl _) (by rw [show writeRes S i bs = (S, 6) by simp [writeRes, doingRes, hc1]]; exact ⟨⟨r, h, rfl⟩, rfl⟩)))
  ·
    refine x_skip (.then_normal ?_)
    refine x_seq (x_seq (x_region ?_))
    refine tl_y rfl (y_move (v := .int _ _) rfl) ?_
    refine tl_y rfl (y_lss rfl rfl) ?_
    refine tl_y rfl (y_move (v := .bool _) rfl) ?_
    refine tl_cases (s := 14) rfl (fun hk1 => ?_) (fun hk1 => ?_)
    ·
      refine tl_skip rfl ?_
      refine tl_skip rfl ?_
      refine tl_skip rfl ?_
      refine tl_skip rfl ?_
      refine tl_skip rfl ?_
      refine tl_skip rfl ?_
      refine tl_skip rfl ?_
      refine tl_y rfl (y_pickT rfl rfl) ?_
      refine tl_y rfl (y_move (v := .bool _) rfl) ?_
      refine tl_skip rfl ?_
      refine tl_skip rfl ?_
      refine tl_skip rfl ?_
      refine tl_y rfl (y_pickT rfl rfl) ?_
      refine tl_nil (.then_normal ?_)
      refine .sub (F' := [(0, _), (1, _), (2, _), (27, _)]) (.cons rfl (.cons rfl (.cons rfl (.cons rfl .nil)))) ?_
      refine x_true rfl rfl ?_
      refine x_seq (x_region ?_)
      refine tl_y rfl (y_assign rfl) ?_
      refine tl_nil (.then_normal ?_)
      refine .sub (F' := [(6, _)]) (.cons rfl .nil) ?_
      refine x_ret (.then_ret (ret1 rfl rfl (Le.refl _) (by rw [show writeRes S i bs = (S, 1) from if_pos ⟨hc1, .inl (by omega)⟩]; exact ⟨⟨r, h, rfl⟩, rfl⟩)))
    ·
      refine tl_y rfl (y_move (v := .int _ _) rfl) ?_
      refine tl_y rfl (y_move (v := .pointer _) rfl) ?_
      refine tl_y rfl (y_nilCheck rfl) ?_
      refine tl_y rfl (y_fieldAddr rfl) ?_
      refine tl_y rfl (y_load rfl rfl (.own inferInstance inferInstance)) ?_
      refine tl_y rfl (y_len rfl) ?_
      refine tl_y rfl (y_geq rfl rfl) ?_
      refine tl_y rfl (y_pickF rfl rfl) ?_
      refine tl_y rfl (y_move (v := .bool _) rfl) ?_
      refine tl_cases (s := 23) rfl (fun hk2 => ?_) (fun hk2 => ?_)
      ·
        refine tl_skip rfl ?_
        refine tl_skip rfl ?_
        refine tl_skip rfl ?_
        refine tl_y rfl (y_pickT rfl rfl) ?_
        refine tl_nil (.then_normal ?_)
        refine .sub (F' := [(0, _), (1, _), (2, _), (27, _)]) (.cons rfl (.cons rfl (.cons rfl (.cons rfl .nil)))) ?_
        refine x_true rfl rfl ?_
        refine x_seq (x_region ?_)
        refine tl_y rfl (y_assign rfl) ?_
        refine tl_nil (.then_normal ?_)
        refine .sub (F' := [(6, _)]) (.cons rfl .nil) ?_
        refine x_ret (.then_ret (ret1 rfl rfl (Le.refl _) (by rw [show writeRes S i bs = (S, 1) from if_pos ⟨hc1, .inl (by omega)⟩]; exact ⟨⟨r, h, rfl⟩, rfl⟩)))
      ·
        refine tl_y rfl (y_move (v := .slice _ _ _) rfl) ?_
        refine tl_y rfl (y_len rfl) ?_
        refine tl_y rfl (y_neq rfl rfl) ?_
        refine tl_y rfl (y_pickF rfl rfl) ?_
        refine tl_nil (.then_normal ?_)
        refine .sub (F' := [(0, _), (1, _), (2, _), (27, _)]) (.cons rfl (.cons rfl (.cons rfl (.cons rfl .nil)))) ?_
        refine x_cond rfl (fun hc2 => ?_) (fun hc2 => ?_)
        ·
          refine x_seq (x_region ?_)
          refine tl_y rfl (y_assign rfl) ?_
          refine tl_nil (.then_normal ?_)
          refine .sub (F' := [(6, _)]) (.cons rfl .nil) ?_
          refine x_ret (.then_ret (ret1 rfl rfl (Le.refl _) (by rw [show writeRes S i bs = (S, 1) from if_pos ⟨hc1, .inr (by omega)⟩]; exact ⟨⟨r, h, rfl⟩, rfl⟩)))
        ·
          refine x_skip (.then_normal ?_)
          refine x_seq (x_region ?_)
          refine tl_y rfl (y_move (v := .pointer _) rfl) ?_
          have hw : writeRes S i bs = doingRes S (added { S with count := S.count + 1 } i bs) := if_neg (fun hh => by omega)
          refine tl_e rfl (e_call' rfl (counted_spec h hc) ?_)
          rintro _ M1 L1 hM1 ⟨rfl, rfl, h1, rfl⟩
          refine tl_y rfl (y_assign (v := .int _ _) rfl) ?_
          refine tl_nil (.then_normal ?_)
          refine x_seq (x_seq (x_region ?_))
          refine tl_y rfl (y_move (v := .int _ _) rfl) ?_
          refine tl_y rfl (y_eql rfl rfl) ?_
          refine tl_nil (.then_normal ?_)
          refine .sub (F' := [(0, _), (1, _), (2, _), (7, _), (31, _)]) (.cons rfl (.cons rfl (.cons rfl (.cons rfl (.cons rfl .nil))))) ?_
          refine x_cond rfl (fun hc3 => ?_) (fun hc3 => ?_)
          ·
            obtain ⟨d1, d2⟩ := doing_ok (S2 := added { S with count := S.count + 1 } i bs) hc3
            rw [d1] at h1 ⊢
            rw [d2] at hw
            refine x_seq (x_region ?_)
            refine tl_y rfl (y_move (v := .pointer _) rfl) ?_
            refine tl_y rfl (y_move (v := .pointer _) rfl) ?_
            refine tl_y rfl (y_nilCheck rfl) ?_
            refine tl_y rfl (y_fieldAddr rfl) ?_
            refine tl_y rfl (y_load rfl rfl (.own inferInstance inferInstance)) ?_
            refine tl_y rfl (y_move (v := .int _ _) rfl) ?_
            refine tl_e rfl (e_buildSlice rfl (by decide) (fun b1 => ?_))
            refine .bringE r.E2 inferInstance ?_
            refine tl_e rfl (e_append (E := r.E2) (by decide) rfl rfl h.w (.own inferInstance rfl) rfl (by omega) (by omega) (fun A2 cap2 E2 hE2 => ?_))
            refine tl_y rfl (y_nilCheck rfl) ?_
            refine tl_y rfl (y_fieldAddr rfl) ?_
            refine tl_e rfl (e_store rfl rfl (by rfl) (by rfl) inferInstance inferInstance inferInstance ?_)
            refine tl_nil (.then_normal ?_)
            refine .sub (F' := [(0, _), (2, _), (7, _)]) (.cons rfl (.cons rfl (.cons rfl .nil))) ?_
            refine x_draw0 12 ([(q, .cells (List.toArray [.slice r.la r.ln r.lc, .slice r.sa r.sn r.sc, .slice A2 (r.wn + 1) cap2, .slice r.ha r.hn r.hc, .slice r.fa r.fn r.fc, .int .i64 S.stop, .int .i64 (S.count + 1), .bool S.down]) 74 (0, 0))]) Keeps.mem hmix rfl ?_
            refine to_p 0 rfl (by kernel_rfl) rfl (y_move (v := .pointer _) rfl) ?_
            refine to_p 1 rfl (by kernel_rfl) rfl (y_move (v := .pointer _) rfl) ?_
            refine to_p 2 rfl (by kernel_rfl) rfl (y_nilCheck rfl) ?_
            refine to_p 3 rfl (by kernel_rfl) rfl (y_fieldAddr rfl) ?_
            refine to_y 4 rfl (by kernel_rfl) rfl (y_load rfl rfl (.own inferInstance inferInstance)) ?_
            refine to_p 6 rfl (by kernel_rfl) rfl (y_move (v := .slice _ _ _) rfl) ?_
            refine to_e 5 rfl (by kernel_rfl) rfl (e_buildSlice0 (fun b2 => ?_))
            refine ⟨⟨(by first | exact Le.refl _ | assumption), Keeps.mem⟩, ?_⟩
            refine to_e 7 rfl (by kernel_rfl) rfl (e_append1 (by decide) rfl rfl OwnRow.made00 (.row hb) (all_one_bv bs) (by omega) (by omega) (fun A3 cap3 E3 hE3 => ?_))
            refine ⟨⟨(by first | exact Le.refl _ | assumption), Keeps.mem⟩, ?_⟩
            refine .pubRow hE3 (fun M2 hM2 hr => ?_)
            rw [Nat.zero_add, List.nil_append] at hr
            rw [Nat.zero_add]
            refine to_e 8 rfl (by kernel_rfl) rfl (e_buildSlice rfl (by decide) (fun b3 => ?_))
            refine ⟨⟨(by first | exact Le.refl _ | assumption), Keeps.mem⟩, ?_⟩
            refine .bringE r.E3 inferInstance ?_
            refine to_e 9 rfl (by kernel_rfl) rfl (e_append (E := r.E3) (by decide) rfl rfl h1.h (.own inferInstance rfl) rfl (by omega) (by omega) (fun A4 cap4 E4 hE4 => ?_))
            refine ⟨⟨(by first | exact Le.refl _ | assumption), Keeps.mem⟩, ?_⟩
            refine to_p 10 rfl (by kernel_rfl) rfl (y_nilCheck rfl) ?_
            refine to_p 11 rfl (by kernel_rfl) rfl (y_fieldAddr rfl) ?_
            refine to_t 12 rfl (by kernel_rfl) (by kernel_rfl) rfl (e_store rfl rfl (by rfl) (by rfl) inferInstance inferInstance inferInstance ?_)
            refine to_nil (by kernel_rfl) (.then_normal ?_)
            refine .sub (F' := [(7, _)]) (.cons rfl .nil) ?_
            refine x_seq (x_region ?_)
            refine tl_y rfl (y_move (v := .int _ _) rfl) ?_
            refine tl_y rfl (y_assign (v := .int _ _) rfl) ?_
            refine tl_nil (.then_normal ?_)
            refine x_ret (.dropTo (rL q { r with wa := A2, wn := r.wn + 1, wc := cap2, E2 := E2, ha := A4, hn := r.hn + 1, hc := cap4, hv := r.hv ++ [.slice A3 n cap3], E3 := E4 } (added { S with count := S.count + 1 } i bs) R) inferInstance (ret1 rfl rfl hM2 (by
  rw [hw]
  exact ⟨⟨{ r with wa := A2, wn := r.wn + 1, wc := cap2, E2 := E2, ha := A4, hn := r.hn + 1, hc := cap4, hv := r.hv ++ [.slice A3 n cap3], E3 := E4 }, ⟨h1.s, by simpa [wheres] using hE2, hE4, h1.sure.mono hM2, by simpa using (h1.what.mono hM2).snoc hr, h1.fail.mono hM2, h1.sl, (by
    intro p hp
    rcases List.mem_append.1 hp with hp | hp
    · exact h1.pl p hp
    · rw [List.mem_singleton.1 hp]; exact ⟨by show bs.length = 64; omega, by show 0 ≤ i ∧ i < S.sure.length; omega⟩), h1.sz⟩, rfl⟩, rfl⟩)))
          ·
            refine x_skip (.then_normal ?_)
            refine .sub (F' := [(7, _)]) (.cons rfl .nil) ?_
            refine x_seq (x_region ?_)
            refine tl_y rfl (y_move (v := .int _ _) rfl) ?_
            refine tl_y rfl (y_assign (v := .int _ _) rfl) ?_
            refine tl_nil (.then_normal ?_)
            refine x_ret (ret1 rfl rfl (Le.refl _) (by
  rw [hw, doing_bad (S1 := { S with count := S.count + 1 }) hc3]
  exact ⟨⟨r, h1, rfl⟩, rfl⟩))
theorem wheres_get {ps : List (Int × List UInt8)} {k : Nat} (h : k < ps.length) : (wheres ps)[k]? = some (.int .i64 (ps.getD k default).1) := by
  rw [List.getElem?_map, List.getD_eq_getElem?_getD, List.getElem?_eq_getElem h]; rfl
theorem whats_getD {ps : List (Int × List UInt8)} {k : Nat} (h : k < ps.length) : (ps.map Prod.snd).getD k [] = (ps.getD k default).2 := by
  rw [List.getD_eq_getElem?_getD, List.getElem?_map, List.getD_eq_getElem?_getD, List.getElem?_eq_getElem h]; rfl
theorem RFlush_spec (h : IsRef M r S) (hc : -4611686018427387904 ≤ S.count ∧ S.count ≤ 4611686018427387904) :
    Con Tryd.prog 84 #[.pointer (some ⟨q, 0, none⟩)] G M (rL q r S R) (fun v M' L' => RK q r.la r.ln r.lc (flushRes S).1 R M' L' ∧ v = .int .i64 (flushRes S).2) noPanic := by
  have hsz := h.sz
  have hsn := h.sn
  have hwn := h.wn
  have hhn := h.hn
  have hwm := h.w.max
  have hwl := h.w.le
  have hhv := h.what.len
  refine enter (args := [_]) (fn := Tryd.f84) ⟨Tryd.func84, rfl, by kernel_rfl, by kernel_rfl⟩ 44 rfl ?_
  refine x_seq (x_region ?_)
  refine tl_y rfl (y_assign rfl) ?_
  refine tl_nil (.then_normal ?_)
  refine x_seq (x_region ?_)
  refine tl_y rfl (y_move (v := .pointer _) rfl) ?_
  refine tl_e rfl (e_call' rfl (counted_spec h hc) ?_)
  rintro _ M1 L1 hM1 ⟨rfl, rfl, h1, rfl⟩
  refine tl_y rfl (y_assign (v := .int _ _) rfl) ?_
  refine tl_nil (.then_normal ?_)
  refine x_seq (x_seq (x_region ?_))
  refine tl_y rfl (y_move (v := .int _ _) rfl) ?_
  refine tl_y rfl (y_neq rfl rfl) ?_
  refine tl_nil (.then_normal ?_)
  refine .sub (F' := [(0, _), (3, _), (8, _)]) (.cons rfl (.cons rfl (.cons rfl .nil))) ?_
  refine x_cond rfl (fun hc1 => ?_) (fun hc1 => ?_)
  ·
    refine x_seq (x_region ?_)
    refine tl_y rfl (y_move (v := .int _ _) rfl) ?_
    refine tl_y rfl (y_assign (v := .int _ _) rfl) ?_
    refine tl_nil (.then_normal ?_)
    refine .sub (F' := [(2, _)]) (.cons rfl .nil) ?_
    refine x_ret (.then_ret (ret1 rfl rfl (Le.refl _) (by
  rw [show flushRes S = doingRes S { S with count := S.count + 1 } from doing_bad hc1]
  exact ⟨⟨r, h1, rfl⟩, rfl⟩)))
  ·
    obtain ⟨d1, d2⟩ := doing_ok (S2 := flushed { S with count := S.count + 1 }) (Classical.not_not.1 hc1)
    rw [d1] at h1 ⊢
    replace h1 : IsRef M r { S with count := S.count + 1 } := h1
    refine x_skip (.then_normal ?_)
    refine x_seq (x_seq (x_region ?_))
    refine tl_y rfl (y_assign rfl) ?_
    refine tl_nil (.then_normal ?_)
    refine x_block ?_
    refine x_loop (I := fun m' F D M1 L1 => ∃ (k : Nat) (sv : List Value) (E : Own), m' = r.wn - k ∧ k ≤ r.wn ∧ M = M1 ∧ OwnRow 45 1 r.sa r.sn r.sc sv E ∧ BRows M sv (flushTo S.sure (S.pend.take k)) ∧ D = [] ∧ L1 = (q, .cells (List.toArray (rcells r { S with count := S.count + 1 })) 74 (0, 0)) :: (E ++ (r.E2 ++ (r.E3 ++ R))) ∧ F = [(0, .pointer (some ⟨q, 0, none⟩)), (4, .int .i64 k)]) (r.wn) (F0 := [(0, _), (4, _)]) ?_ (.cons rfl (.cons rfl .nil)) ?_  -- slots [0, 4], written [4]
    · exact ⟨0, r.sv, r.E1, rfl, by omega, rfl, h.s, h.sure, rfl, rfl, rfl⟩
    rintro m _ _ M1 L1 ⟨k, sv, E, rfl, hk, rfl, hE, hsv, rfl, rfl, rfl⟩
    refine x_seq (x_seq (x_region ?_))
    refine tl_y rfl (y_move (v := .int _ _) rfl) ?_
    refine tl_y rfl (y_move (v := .pointer _) rfl) ?_
    refine tl_y rfl (y_nilCheck rfl) ?_
    refine tl_y rfl (y_fieldAddr rfl) ?_
    refine tl_y rfl (y_load rfl rfl (.own inferInstance inferInstance)) ?_
    refine tl_y rfl (y_len rfl) ?_
    refine tl_y rfl (y_lss rfl rfl) ?_
    refine tl_nil (.then_normal ?_)
    refine .sub (F' := [(0, _), (4, _), (16, _)]) (.cons rfl (.cons rfl (.cons rfl .nil))) ?_
    refine x_cond rfl (fun hc2 => ?_) (fun hc2 => ?_)
    ·
      have hkn : k < r.wn := by omega
      have hq := h.pl (S.pend.getD k default) (getD_mem _ _ _ (by omega))
      obtain ⟨gs, pre, slack, hsa, hEe⟩ := hE.pos (by omega)
      subst hEe
      rw [hsa] at hE
      simp only [List.cons_append, List.nil_append]
      obtain ⟨g2, o2, hwa, hcw⟩ := h.w.cellIn (M := M) (L := (q, .cells (List.toArray (rcells r { S with count := S.count + 1 })) 74 (0, 0)) :: (gs, .cells (pre ++ (sv ++ slack)).toArray 45 (0, 0)) :: (r.E2 ++ (r.E3 ++ R))) inferInstance (by simp; omega)
      obtain ⟨g3, o3, hha, hch⟩ := h.h.cellIn (M := M) (L := (q, .cells (List.toArray (rcells r { S with count := S.count + 1 })) 74 (0, 0)) :: (gs, .cells (pre ++ (sv ++ slack)).toArray 45 (0, 0)) :: (r.E2 ++ (r.E3 ++ R))) inferInstance (by simp at hhv; omega)
      obtain ⟨A1, n1, c1, hv1, hb1⟩ := h.what.get k (by simp; omega)
      rw [whats_getD (by omega)] at hb1
      have hw1 := hcw k _ (wheres_get (by omega))
      have hh1 := hch k _ hv1
      generalize hqe : S.pend.getD k default = qq at hq hw1 hb1
      have hsl := hsv.len
      rw [flushTo_length] at hsl
      refine x_skip (.then_normal ?_)
      refine x_seq ?_
      refine x_block ?_
      refine x_draw 19 hmix rfl ?_
      refine to_p 0 rfl (by kernel_rfl) rfl (y_move (v := .pointer _) rfl) ?_
      refine to_p 1 rfl (by kernel_rfl) rfl (y_nilCheck rfl) ?_
      refine to_p 2 rfl (by kernel_rfl) rfl (y_fieldAddr rfl) ?_
      refine to_y 3 rfl (by kernel_rfl) rfl (y_load rfl rfl (.own inferInstance inferInstance)) ?_
      refine to_p 4 rfl (by kernel_rfl) rfl (y_move (v := .pointer _) rfl) ?_
      refine to_p 5 rfl (by kernel_rfl) rfl (y_nilCheck rfl) ?_
      refine to_p 6 rfl (by kernel_rfl) rfl (y_fieldAddr rfl) ?_
      refine to_y 7 rfl (by kernel_rfl) rfl (y_load rfl rfl (.own inferInstance inferInstance)) ?_
      refine to_p 8 rfl (by kernel_rfl) rfl (y_move (v := .int _ _) rfl) ?_
      refine to_p 9 rfl (by kernel_rfl) rfl (y_indexAddr (b := g2) (o := o2) (by rw [hwa]; rfl) rfl (by omega)) ?_
      refine to_y 10 rfl (by kernel_rfl) rfl (y_load rfl rfl (.at_ hw1 (by omega))) ?_
      refine to_p 11 rfl (by kernel_rfl) rfl (y_move (v := .pointer _) rfl) ?_
      refine to_p 12 rfl (by kernel_rfl) rfl (y_nilCheck rfl) ?_
      refine to_p 13 rfl (by kernel_rfl) rfl (y_fieldAddr rfl) ?_
      refine to_y 14 rfl (by kernel_rfl) rfl (y_load rfl rfl (.own inferInstance inferInstance)) ?_
      refine to_p 15 rfl (by kernel_rfl) rfl (y_move (v := .int _ _) rfl) ?_
      refine to_p 16 rfl (by kernel_rfl) rfl (y_indexAddr (b := g3) (o := o3) (by rw [hha]; rfl) rfl (by omega)) ?_
      refine to_y 17 rfl (by kernel_rfl) rfl (y_load rfl rfl (.at_ hh1 (by omega))) ?_
      refine to_p 18 rfl (by kernel_rfl) rfl (y_indexAddr (b := gs) (o := pre.length) (by rw [hsa]; rfl) rfl (by omega)) ?_
      refine to_t 19 rfl (by kernel_rfl) (by kernel_rfl) rfl (e_storeAt (c := pre ++ (sv ++ slack)) rfl rfl rfl inferInstance (by simp; omega) inferInstance ?_)
      refine to_nil (by kernel_rfl) (.block_normal (.then_normal ?_))
      refine .sub (F' := [(0, _), (4, _)]) (.cons rfl (.cons rfl .nil)) ?_
      refine x_region ?_
      refine tl_y rfl (y_move (v := .int _ _) rfl) ?_
      refine tl_y rfl (y_addI rfl rfl (by omega)) ?_
      refine tl_y rfl (y_assign (v := .int _ _) rfl) ?_
      refine tl_nil (.loop_next (m' := r.wn - (k + 1)) (by omega) (F' := [(0, _), (4, _)]) (.cons rfl (.cons rfl .nil)) ?_)
      exact ⟨k + 1, _, _, rfl, by omega, rfl, hsa ▸ hE.set (qq.1.toNat * 1) (.slice A1 n1 c1) (by omega), by
  rw [take_snoc _ _ default (by omega), flushTo_snoc, hqe, Nat.mul_one]; exact hsv.set hb1 _, rfl, rfl, rfl⟩
    ·
      refine x_exit (.then_exit (.loop_exit (.block_exit (.then_normal ?_))))
      refine x_seq (x_region ?_)
      refine tl_y rfl (y_move (v := .pointer _) rfl) ?_
      refine tl_y rfl (y_nilCheck rfl) ?_
      refine tl_y rfl (y_fieldAddr rfl) ?_
      refine tl_e rfl (e_store rfl rfl (by rfl) (by rfl) inferInstance inferInstance inferInstance ?_)
      refine tl_nil (.then_normal ?_)
      refine .sub (F' := [(0, _)]) (.cons rfl .nil) ?_
      refine x_seq (x_region ?_)
      refine tl_y rfl (y_move (v := .pointer _) rfl) ?_
      refine tl_y rfl (y_nilCheck rfl) ?_
      refine tl_y rfl (y_fieldAddr rfl) ?_
      refine tl_e rfl (e_store rfl rfl (by rfl) (by rfl) inferInstance inferInstance inferInstance ?_)
      refine tl_nil (.then_normal ?_)
      refine .sub (F' := []) .nil ?_
      refine x_seq (x_region ?_)
      refine tl_y rfl (y_assign rfl) ?_
      refine tl_nil (.then_normal ?_)
      refine x_ret (.dropTo ((q, .cells (List.toArray [.slice r.la r.ln r.lc, .slice r.sa r.sn r.sc, .slice none 0 0, .slice none 0 0, .slice r.fa r.fn r.fc, .int .i64 S.stop, .int .i64 (S.count + 1), .bool S.down]) 74 (0, 0)) :: (E ++ R)) inferInstance (ret1 rfl rfl (Le.refl _) (by
  have hkn : k = S.pend.length := by omega
  rw [hkn, List.take_length] at hsv
  rw [show flushRes S = (flushed { S with count := S.count + 1 }, 0) from d2]
  exact ⟨⟨{ r with sv := sv, E1 := E, wa := none, wn := 0, wc := 0, E2 := [], ha := none, hn := 0, hc := 0, hv := [], E3 := [] }, ⟨hE, .nil, .nil, hsv, .nil, h.fail, (fun b hb => by
    rcases flushTo_mem _ _ _ hb with hb | ⟨p, hp, rfl⟩
    · exact h.sl b hb
    · exact (h.pl p hp).1), (fun p hp => by cases hp), by show (flushTo _ _).length ≤ 256; rw [flushTo_length]; exact hsz⟩, rfl⟩, rfl⟩)))
theorem lastW_snoc (i : Int) (p : Int × List UInt8) : ∀ (ps : List (Int × List UInt8)), lastW i (ps ++ [p]) = if p.1 = i then some p.2 else lastW i ps
  | [] => by simp [lastW]
  | a :: ps => by
    simp only [List.cons_append, lastW, lastW_snoc i p ps]
    by_cases hp : p.1 = i <;> simp [hp]
theorem RRead_spec (h : IsRef M r S) (i : Int) :
    Con Tryd.prog 85 #[.pointer (some ⟨q, 0, none⟩), .int .i64 i] G M (rL q r S R) (fun v M' L' => L' = rL q r S R ∧ ∃ A n c, v = .tuple #[.slice A n c, .int .i64 (readRes S i).2] ∧ Bytes M' A n c (readRes S i).1) noPanic := by
  have hsn := h.sn
  have hwn := h.wn
  have hhn := h.hn
  have hwm := h.w.max
  have hwl := h.w.le
  have hhv := h.what.len
  have hsv := h.sure.len
  refine enter (args := [_, _]) (fn := Tryd.f85) ⟨Tryd.func85, rfl, by kernel_rfl, by kernel_rfl⟩ 58 rfl ?_
  refine x_seq (x_region ?_)
  refine tl_y rfl (y_assign rfl) ?_
  refine tl_y rfl (y_assign rfl) ?_
  refine tl_nil (.then_normal ?_)
  refine x_seq (x_seq (x_region ?_))
  refine tl_y rfl (y_move (v := .pointer _) rfl) ?_
  refine tl_y rfl (y_nilCheck rfl) ?_
  refine tl_y rfl (y_fieldAddr rfl) ?_
  refine tl_y rfl (y_load rfl rfl (.own inferInstance inferInstance)) ?_
  refine tl_nil (.then_normal ?_)
  refine .sub (F' := [(0, _), (1, _), (11, _)]) (.cons rfl (.cons rfl (.cons rfl .nil))) ?_
  refine x_condb rfl (fun hc1 => ?_) (fun hc1 => ?_)
  ·
    refine x_seq (x_region ?_)
    refine tl_y rfl (y_assign rfl) ?_
    refine tl_y rfl (y_assign rfl) ?_
    refine tl_nil (.then_normal ?_)
    refine x_ret (.then_ret (ret2 rfl rfl rfl (Le.refl _) (by
  rw [show readRes S i = ([], 6) by simp [readRes, hc1]]
  exact ⟨rfl, _, _, _, rfl, Row.nil _ _⟩)))
  ·
    refine x_skip (.then_normal ?_)
    refine x_seq (x_seq (x_region ?_))
    refine tl_y rfl (y_move (v := .int _ _) rfl) ?_
    refine tl_y rfl (y_lss rfl rfl) ?_
    refine tl_y rfl (y_move (v := .bool _) rfl) ?_
    refine tl_cases (s := 14) rfl (fun hk1 => ?_) (fun hk1 => ?_)
    ·
      refine tl_skip rfl ?_
      refine tl_skip rfl ?_
      refine tl_skip rfl ?_
      refine tl_skip rfl ?_
      refine tl_skip rfl ?_
      refine tl_skip rfl ?_
      refine tl_skip rfl ?_
      refine tl_y rfl (y_pickT rfl rfl) ?_
      refine tl_nil (.then_normal ?_)
      refine .sub (F' := [(0, _), (1, _), (22, _)]) (.cons rfl (.cons rfl (.cons rfl .nil))) ?_
      refine x_true rfl rfl ?_
      refine x_seq (x_region ?_)
      refine tl_y rfl (y_assign rfl) ?_
      refine tl_y rfl (y_assign rfl) ?_
      refine tl_nil (.then_normal ?_)
      refine x_ret (.then_ret (ret2 rfl rfl rfl (Le.refl _) (by
  rw [show readRes S i = ([], 1) by rw [readRes, if_neg (by simp [hc1]), if_neg (by omega)]]
  exact ⟨rfl, _, _, _, rfl, Row.nil _ _⟩)))
    ·
      refine tl_y rfl (y_move (v := .int _ _) rfl) ?_
      refine tl_y rfl (y_move (v := .pointer _) rfl) ?_
      refine tl_y rfl (y_nilCheck rfl) ?_
      refine tl_y rfl (y_fieldAddr rfl) ?_
      refine tl_y rfl (y_load rfl rfl (.own inferInstance inferInstance)) ?_
      refine tl_y rfl (y_len rfl) ?_
      refine tl_y rfl (y_geq rfl rfl) ?_
      refine tl_y rfl (y_pickF rfl rfl) ?_
      refine tl_nil (.then_normal ?_)
      refine .sub (F' := [(0, _), (1, _), (22, _)]) (.cons rfl (.cons rfl (.cons rfl .nil))) ?_
      refine x_cond rfl (fun hc2 => ?_) (fun hc2 => ?_)
      ·
        refine x_seq (x_region ?_)
        refine tl_y rfl (y_assign rfl) ?_
        refine tl_y rfl (y_assign rfl) ?_
        refine tl_nil (.then_normal ?_)
        refine x_ret (.then_ret (ret2 rfl rfl rfl (Le.refl _) (by
  rw [show readRes S i = ([], 1) by rw [readRes, if_neg (by simp [hc1]), if_neg (by omega)]]
  exact ⟨rfl, _, _, _, rfl, Row.nil _ _⟩)))
      ·
        have hin : 0 ≤ i ∧ i < S.sure.length := by omega
        obtain ⟨g, o, hsa, hcs⟩ := h.s.cellIn (M := M) (L := rL q r S R) inferInstance (by omega)
        obtain ⟨A1, n1, c1, hv1, hb1⟩ := h.sure.get i.toNat (by omega)
        have hc1' := hcs i.toNat _ hv1
        refine x_skip (.then_normal ?_)
        refine x_seq (x_region ?_)
        refine tl_y rfl (y_move (v := .pointer _) rfl) ?_
        refine tl_y rfl (y_nilCheck rfl) ?_
        refine tl_y rfl (y_fieldAddr rfl) ?_
        refine tl_y rfl (y_load rfl rfl (.own inferInstance inferInstance)) ?_
        refine tl_y rfl (y_move (v := .int _ _) rfl) ?_
        refine tl_y rfl (y_indexAddr (b := g) (o := o) (by rw [hsa]; rfl) rfl (by omega)) ?_
        refine tl_y rfl (y_load rfl rfl (.at_ hc1' (by omega))) ?_
        refine tl_y rfl (y_assign (v := .slice _ _ _) rfl) ?_
        refine tl_nil (.then_normal ?_)
        refine .sub (F' := [(0, _), (1, _), (6, _)]) (.cons rfl (.cons rfl (.cons rfl .nil))) ?_
        refine x_seq (x_seq (x_region ?_))
        refine tl_y rfl (y_assign rfl) ?_
        refine tl_nil (.then_normal ?_)
        refine x_block ?_
        refine x_loop (I := fun m' F D M1 L1 => ∃ (k : Nat) (A6 : Option Addr) (n6 c6 : Nat), m' = r.wn - k ∧ k ≤ r.wn ∧ M = M1 ∧ Bytes M A6 n6 c6 ((lastW i (S.pend.take k)).getD (S.sure.getD i.toNat [])) ∧ D = [] ∧ L1 = rL q r S R ∧ F = [(0, .pointer (some ⟨q, 0, none⟩)), (1, .int .i64 i), (6, .slice A6 n6 c6), (7, .int .i64 k)]) (r.wn) (F0 := [(0, _), (1, _), (6, _), (7, _)]) ?_ (.cons rfl (.cons rfl (.cons rfl (.cons rfl .nil)))) ?_  -- slots [0, 1, 6, 7], written [6, 7]
        · exact ⟨0, A1, n1, c1, rfl, by omega, rfl, by simpa [lastW] using hb1, rfl, rfl, rfl⟩
        rintro m _ _ M1 L1 ⟨k, A6, n6, c6, rfl, hk, rfl, hb6, rfl, rfl, rfl⟩
        refine x_seq (x_seq (x_region ?_))
        refine tl_y rfl (y_move (v := .int _ _) rfl) ?_
        refine tl_y rfl (y_move (v := .pointer _) rfl) ?_
        refine tl_y rfl (y_nilCheck rfl) ?_
        refine tl_y rfl (y_fieldAddr rfl) ?_
        refine tl_y rfl (y_load rfl rfl (.own inferInstance inferInstance)) ?_
        refine tl_y rfl (y_len rfl) ?_
        refine tl_y rfl (y_lss rfl rfl) ?_
        refine tl_nil (.then_normal ?_)
        refine .sub (F' := [(0, _), (1, _), (6, _), (7, _), (36, _)]) (.cons rfl (.cons rfl (.cons rfl (.cons rfl (.cons rfl .nil))))) ?_
        refine x_cond rfl (fun hc3 => ?_) (fun hc3 => ?_)
        ·
          have hkn : k < r.wn := by omega
          obtain ⟨g2, o2, hwa, hcw⟩ := h.w.cellIn (M := M) (L := rL q r S R) inferInstance (by simp; omega)
          obtain ⟨g3, o3, hha, hch⟩ := h.h.cellIn (M := M) (L := rL q r S R) inferInstance (by simp at hhv; omega)
          obtain ⟨A2, n2, c2, hv2, hb2⟩ := h.what.get k (by simp; omega)
          rw [whats_getD (by omega)] at hb2
          have hw1 := hcw k _ (wheres_get (by omega))
          have hh1 := hch k _ hv2
          have hls := lastW_snoc i (S.pend.getD k default) (S.pend.take k)
          rw [← take_snoc _ _ default (by omega)] at hls
          refine x_skip (.then_normal ?_)
          refine x_seq ?_
          refine x_block ?_
          refine x_seq (x_region ?_)
          refine tl_y rfl (y_move (v := .pointer _) rfl) ?_
          refine tl_y rfl (y_nilCheck rfl) ?_
          refine tl_y rfl (y_fieldAddr rfl) ?_
          refine tl_y rfl (y_load rfl rfl (.own inferInstance inferInstance)) ?_
          refine tl_y rfl (y_move (v := .int _ _) rfl) ?_
          refine tl_y rfl (y_indexAddr (b := g2) (o := o2) (by rw [hwa]; rfl) rfl (by omega)) ?_
          refine tl_y rfl (y_load rfl rfl (.at_ hw1 (by omega))) ?_
          refine tl_y rfl (y_move (v := .int _ _) rfl) ?_
          refine tl_y rfl (y_eql rfl rfl) ?_
          refine tl_nil (.then_normal ?_)
          refine .sub (F' := [(0, _), (1, _), (6, _), (7, _), (47, _)]) (.cons rfl (.cons rfl (.cons rfl (.cons rfl (.cons rfl .nil))))) ?_
          refine x_cond rfl (fun hc4 => ?_) (fun hc4 => ?_)
          ·
            refine x_region ?_
            refine tl_y rfl (y_move (v := .pointer _) rfl) ?_
            refine tl_y rfl (y_nilCheck rfl) ?_
            refine tl_y rfl (y_fieldAddr rfl) ?_
            refine tl_y rfl (y_load rfl rfl (.own inferInstance inferInstance)) ?_
            refine tl_y rfl (y_move (v := .int _ _) rfl) ?_
            refine tl_y rfl (y_indexAddr (b := g3) (o := o3) (by rw [hha]; rfl) rfl (by omega)) ?_
            refine tl_y rfl (y_load rfl rfl (.at_ hh1 (by omega))) ?_
            refine tl_y rfl (y_assign (v := .slice _ _ _) rfl) ?_
            refine tl_nil (.block_normal (.then_normal ?_))
            refine .sub (F' := [(0, _), (1, _), (6, _), (7, _)]) (.cons rfl (.cons rfl (.cons rfl (.cons rfl .nil)))) ?_
            refine x_region ?_
            refine tl_y rfl (y_move (v := .int _ _) rfl) ?_
            refine tl_y rfl (y_addI rfl rfl (by omega)) ?_
            refine tl_y rfl (y_assign (v := .int _ _) rfl) ?_
            refine tl_nil (.loop_next (m' := r.wn - (k + 1)) (by omega) (F' := [(0, _), (1, _), (6, _), (7, _)]) (.cons rfl (.cons rfl (.cons rfl (.cons rfl .nil)))) ?_)
            exact ⟨k + 1, A2, n2, c2, rfl, by omega, rfl, by rw [hls, if_pos hc4]; exact hb2, rfl, rfl, rfl⟩
          ·
            refine x_skip (.block_normal (.then_normal ?_))
            refine x_region ?_
            refine tl_y rfl (y_move (v := .int _ _) rfl) ?_
            refine tl_y rfl (y_addI rfl rfl (by omega)) ?_
            refine tl_y rfl (y_assign (v := .int _ _) rfl) ?_
            refine tl_nil (.loop_next (m' := r.wn - (k + 1)) (by omega) (F' := [(0, _), (1, _), (6, _), (7, _)]) (.cons rfl (.cons rfl (.cons rfl (.cons rfl .nil)))) ?_)
            exact ⟨k + 1, A6, n6, c6, rfl, by omega, rfl, by rw [hls, if_neg hc4]; exact hb6, rfl, rfl, rfl⟩
        ·
          have hkn : k = S.pend.length := by omega
          rw [hkn, List.take_length] at hb6
          have hn6 : n6 = 64 := by
            have h1 := hb6.size
            rw [← h1]
            cases hl : lastW i S.pend with
            | none => exact h.sl _ (getD_mem _ _ _ (by omega))
            | some b =>
              have hmem : ∀ ps : List (Int × List UInt8), lastW i ps = some b → ∃ p ∈ ps, p.2 = b := fun ps => by
                induction ps with
                | nil => intro h; cases h
                | cons a ps ih =>
                  intro hh
                  simp only [lastW] at hh
                  cases hx : lastW i ps with
                  | some b' =>
                    rw [hx] at hh
                    obtain ⟨p, hp, e⟩ := ih (by rw [hx]; exact hh)
                    exact ⟨p, List.mem_cons_of_mem _ hp, e⟩
                  | none =>
                    rw [hx] at hh
                    simp only at hh
                    split at hh
                    · cases hh; exact ⟨a, List.mem_cons_self, rfl⟩
                    · cases hh
              obtain ⟨p, hp, e⟩ := hmem _ hl
              show b.length = 64
              rw [← e]
              exact (h.pl p hp).1
          refine x_exit (.then_exit (.loop_exit (.block_exit (.then_normal ?_))))
          refine .sub (F' := [(6, _)]) (.cons rfl .nil) ?_
          refine x_seq (x_region ?_)
          refine tl_e rfl (e_buildSlice0 (fun b1 => ?_))
          refine tl_y rfl (y_move (v := .slice _ _ _) rfl) ?_
          refine tl_e rfl (e_append1 (by decide) rfl rfl OwnRow.made00 (.row hb6) (all_one_bv _) (by omega) (by omega) (fun A' cap' E hE => ?_))
          rw [Nat.zero_add, List.nil_append] at hE; rw [Nat.zero_add]
          refine tl_y rfl (y_assign (v := .slice _ _ _) rfl) ?_
          refine tl_y rfl (y_assign rfl) ?_
          refine tl_nil (.then_normal ?_)
          refine .sub (F' := [(4, _), (5, _)]) (.cons rfl (.cons rfl .nil)) ?_
          refine x_ret (.pubRow hE fun M' hle hr => ret2 rfl rfl rfl hle ?_)
          rw [show readRes S i = ((lastW i S.pend).getD (S.sure.getD i.toNat []), 0) by rw [readRes, if_neg (by simp [hc1]), if_pos hin]]
          exact ⟨rfl, _, _, _, rfl, hr⟩
end
end Go.Proofs.YtbgdjdhbejbhkaaDoor
