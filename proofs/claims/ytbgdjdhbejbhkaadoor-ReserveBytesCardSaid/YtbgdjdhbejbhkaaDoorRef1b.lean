/-
Contracts of functions, each proved by a walk through its code.
-/
import Derived.Test.YtbgdjdhbejbhkaaDoorRef1
import Derived.Test.YtbgdjdhbejbhkaaDoorOct
import Derived.Test.YtbgdjdhbejbhkaaDoorEngX
set_option linter.unusedVariables false
set_option linter.unusedSimpArgs false
namespace Go.Proofs.YtbgdjdhbejbhkaaDoor
open Go Go.Eng
section
variable {G : World} {M : Mem} {L : Own}
theorem RGet_spec {A : Option Addr} {n c : Nat} {bs : List UInt8} (h : Bytes M A n c bs) (hn : n ≤ 8) :
    Con Tryd.prog 28 #[.slice A n c] G M L (fun r M' L' => M = M' ∧ L = L' ∧ ∃ x : UInt64, x.toNat = getB bs ∧ r = .tuple #[.int .u64 (x.toNat : Int), .bool true]) noPanic := by
  have hs := h.size
  refine enter (args := [_]) (fn := Tryd.f28) ⟨Tryd.func28, rfl, by kernel_rfl, by kernel_rfl⟩ 24 rfl ?_
  refine x_seq (x_region ?_)
  refine tl_y rfl (y_assign rfl) ?_
  refine tl_y rfl (y_assign rfl) ?_
  refine tl_nil (.then_normal ?_)
  refine x_seq (x_seq (x_region ?_))
  refine tl_y rfl (y_move (v := .slice _ _ _) rfl) ?_
  refine tl_y rfl (y_len rfl) ?_
  refine tl_y rfl (y_gtr rfl rfl) ?_
  refine tl_nil (.then_normal ?_)
  refine .sub (F' := [(0, _), (8, _)]) (.cons rfl (.cons rfl .nil)) ?_
  refine x_false rfl (by rw [decide_eq_false]; omega) ?_
  refine x_skip (.then_normal ?_)
  refine x_seq (x_region ?_)
  refine tl_y rfl (y_assign rfl) ?_
  refine tl_nil (.then_normal ?_)
  refine x_seq (x_seq (x_region ?_))
  refine tl_y rfl (y_assign rfl) ?_
  refine tl_nil (.then_normal ?_)
  refine x_block ?_
  refine x_loop (I := fun m' F D M1 L1 => ∃ (k : Nat) (x : UInt64), m' = n - k ∧ k ≤ n ∧ x.toNat = getB (bs.take k) ∧ D = [] ∧ M = M1 ∧ L = L1 ∧ F = [(0, .slice A n c), (4, .int .u64 (x.toNat : Int)), (5, .int .i64 k)]) (n) (F0 := [(0, _), (4, _), (5, _)]) ?_ (.cons rfl (.cons rfl (.cons rfl .nil))) ?_  -- slots [0, 4, 5], written [4, 5]
  · exact ⟨0, 0, rfl, by omega, rfl, rfl, rfl, rfl, rfl⟩
  rintro m _ _ M1 L1 ⟨k, x, rfl, hk, hx, rfl, rfl, rfl, rfl⟩
  refine x_seq (x_seq (x_region ?_))
  refine tl_y rfl (y_move (v := .int _ _) rfl) ?_
  refine tl_y rfl (y_move (v := .slice _ _ _) rfl) ?_
  refine tl_y rfl (y_len rfl) ?_
  refine tl_y rfl (y_lss rfl rfl) ?_
  refine tl_nil (.then_normal ?_)
  refine x_cond rfl (fun hc2 => ?_) (fun hc2 => ?_)
  ·
    have hkn : k < n := by omega
    obtain ⟨g, o, rfl, hca⟩ := h.byte (by omega)
    have hlt : x.toNat < 72057594037927936 := by
      have h1 := getB_lt (bs.take k)
      have h2 : (bs.take k).length = k := by rw [List.length_take]; omega
      have h3 : 256 ^ k ≤ 256 ^ 7 := Nat.pow_le_pow_right (by omega) (by omega)
      rw [h2] at h1
      omega
    refine x_skip (.then_normal ?_)
    refine .sub (F' := [(0, _), (4, _), (5, _)]) (.cons rfl (.cons rfl (.cons rfl .nil))) ?_
    refine x_seq ?_
    refine x_block ?_
    refine x_region ?_
    refine tl_y rfl (y_move (v := .int _ _) rfl) ?_
    refine tl_y rfl (y_mul64 (b := 256) rfl rfl) ?_
    refine tl_y rfl (y_move (v := .slice _ _ _) rfl) ?_
    refine tl_y rfl (y_move (v := .int _ _) rfl) ?_
    refine tl_y rfl (y_indexAddr rfl rfl (by omega)) ?_
    refine tl_y rfl (y_load rfl rfl (.at_ (hca _ k hkn) (by omega))) ?_
    refine tl_y rfl (y_u8u64 rfl) ?_
    refine tl_y rfl (y_add64 rfl rfl) ?_
    refine tl_y rfl (y_assign (v := .int _ _) rfl) ?_
    refine tl_nil (.block_normal (.then_normal ?_))
    refine .sub (F' := [(0, _), (4, _), (5, _)]) (.cons rfl (.cons rfl (.cons rfl .nil))) ?_
    refine x_region ?_
    refine tl_y rfl (y_move (v := .int _ _) rfl) ?_
    refine tl_y rfl (y_addI rfl rfl (by omega)) ?_
    refine tl_y rfl (y_assign (v := .int _ _) rfl) ?_
    refine tl_nil (.loop_next (m' := n - (k + 1)) (by omega) (F' := [(0, _), (4, _), (5, _)]) (.cons rfl (.cons rfl (.cons rfl .nil))) ?_)
    exact ⟨k + 1, _, rfl, by omega, by
  have hc := (bs.getD k 0).toNat_lt
  rw [UInt64.toNat_add, UInt64.toNat_mul, UInt8.toNat_toUInt64, show (256 : UInt64).toNat = 256 from rfl, take_snoc bs k 0 (by omega), getB_snoc, hx]
  rw [hx] at hlt
  omega, rfl, rfl, rfl, rfl⟩
  ·
    refine x_exit (.then_exit (.loop_exit (.block_exit (.then_normal ?_))))
    refine .sub (F' := [(4, _)]) (.cons rfl .nil) ?_
    refine x_seq (x_region ?_)
    refine tl_y rfl (y_move (v := .int _ _) rfl) ?_
    refine tl_y rfl (y_assign (v := .int _ _) rfl) ?_
    refine tl_y rfl (y_assign rfl) ?_
    refine tl_nil (.then_normal ?_)
    refine x_ret (ret2 rfl rfl rfl (Le.refl _) ⟨rfl, rfl, x, by rw [hx, List.take_of_length_le (by omega)], rfl⟩)
theorem RFill_spec (c : UInt8) (n : Nat) (hn : n ≤ 65536) :
    Con Tryd.prog 33 #[.int .u8 (c.toNat : Int), .int .i64 n] G M L (fun r M' L' => L = L' ∧ ∃ A cc, r = .slice A n cc ∧ Bytes M' A n cc (List.replicate n c)) noPanic := by
  refine enter (args := [_, _]) (fn := Tryd.f33) ⟨Tryd.func33, rfl, by kernel_rfl, by kernel_rfl⟩ 21 rfl ?_
  refine x_seq (x_region ?_)
  refine tl_y rfl (y_assign rfl) ?_
  refine tl_nil (.then_normal ?_)
  refine x_seq (x_region ?_)
  refine tl_y rfl (y_assign rfl) ?_
  refine tl_nil (.then_normal ?_)
  refine x_seq (x_seq (x_region ?_))
  refine tl_y rfl (y_assign rfl) ?_
  refine tl_nil (.then_normal ?_)
  refine x_block ?_
  refine x_loop (I := fun m' F D M1 L1 => ∃ (k : Nat) (A : Option Addr) (cc : Nat) (E : Own), m' = n - k ∧ k ≤ n ∧ OwnRow 5 1 A k cc ((List.replicate k c).map bv) E ∧ D = [] ∧ M = M1 ∧ L1 = E ++ L ∧ F = [(0, .int .u8 (c.toNat : Int)), (1, .int .i64 n), (5, .slice A k cc), (6, .int .i64 k)]) (n) (F0 := [(0, _), (1, _), (5, _), (6, _)]) ?_ (.cons rfl (.cons rfl (.cons rfl (.cons rfl .nil)))) ?_  -- slots [0, 1, 5, 6], written [5, 6]
  · exact ⟨0, none, 0, [], rfl, by omega, .nil, rfl, rfl, rfl, rfl⟩
  rintro m _ _ M1 L1 ⟨k, A, cc, E, rfl, hk, hE, rfl, rfl, rfl, rfl⟩
  refine x_seq (x_seq (x_region ?_))
  refine tl_y rfl (y_move (v := .int _ _) rfl) ?_
  refine tl_y rfl (y_move (v := .int _ _) rfl) ?_
  refine tl_y rfl (y_lss rfl rfl) ?_
  refine tl_y rfl (y_move (v := .bool _) rfl) ?_
  refine tl_cases (s := 10) rfl (fun hk1 => ?_) (fun hk1 => ?_)
  ·
    refine tl_y rfl (y_move (v := .int _ _) rfl) ?_
    refine tl_y rfl (y_leq rfl rfl) ?_
    refine tl_y rfl (y_pickT rfl rfl) ?_
    refine tl_nil (.then_normal ?_)
    refine .sub (F' := [(0, _), (1, _), (5, _), (6, _), (13, _)]) (.cons rfl (.cons rfl (.cons rfl (.cons rfl (.cons rfl .nil))))) ?_
    refine x_cond rfl (fun hc1 => ?_) (fun hc1 => ?_)
    ·
      refine x_skip (.then_normal ?_)
      refine x_seq ?_
      refine x_block ?_
      refine x_region ?_
      refine tl_y rfl (y_move (v := .slice _ _ _) rfl) ?_
      refine tl_y rfl (y_move (v := .int _ _) rfl) ?_
      refine tl_e rfl (e_buildSlice rfl (by decide) (fun b1 => ?_))
      refine .bringE E inferInstance ?_
      refine tl_e rfl (e_append (E := E) (by decide) rfl rfl hE (.own inferInstance rfl) rfl (by omega) (by omega) (fun A3 cap3 E3 hE3 => ?_))
      rw [show (List.replicate k c).map bv ++ [Value.int .u8 (c.toNat : Int)] = (List.replicate (k + 1) c).map bv by rw [List.replicate_succ']; simp [bv]] at hE3
      refine tl_y rfl (y_assign (v := .slice _ _ _) rfl) ?_
      refine tl_nil (.block_normal (.then_normal ?_))
      refine .sub (F' := [(0, _), (1, _), (5, _), (6, _)]) (.cons rfl (.cons rfl (.cons rfl (.cons rfl .nil)))) ?_
      refine x_region ?_
      refine tl_y rfl (y_move (v := .int _ _) rfl) ?_
      refine tl_y rfl (y_addI rfl rfl (by omega)) ?_
      refine tl_y rfl (y_assign (v := .int _ _) rfl) ?_
      refine .dropTo (E3 ++ L) inferInstance ?_
      refine tl_nil (.loop_next (m' := n - (k + 1)) (by omega) (F' := [(0, _), (1, _), (5, _), (6, _)]) (.cons rfl (.cons rfl (.cons rfl (.cons rfl .nil)))) ?_)
      exact ⟨k + 1, A3, cap3, E3, rfl, by omega, hE3, rfl, rfl, rfl, rfl⟩
    ·
      omega
  ·
    refine tl_skip rfl ?_
    refine tl_skip rfl ?_
    refine tl_y rfl (y_pickF rfl rfl) ?_
    refine tl_nil (.then_normal ?_)
    refine .sub (F' := [(0, _), (1, _), (5, _), (6, _), (13, _)]) (.cons rfl (.cons rfl (.cons rfl (.cons rfl (.cons rfl .nil))))) ?_
    refine x_false rfl rfl ?_
    refine x_exit (.then_exit (.loop_exit (.block_exit (.then_normal ?_))))
    refine .sub (F' := [(5, _)]) (.cons rfl .nil) ?_
    refine x_seq (x_region ?_)
    refine tl_y rfl (y_move (v := .slice _ _ _) rfl) ?_
    refine tl_y rfl (y_assign (v := .slice _ _ _) rfl) ?_
    refine tl_nil (.then_normal ?_)
    obtain rfl : k = n := by omega
    refine x_ret (.pubRow hE fun M' hle hr => ret1 rfl rfl hle ⟨rfl, _, _, rfl, hr⟩)
end
end Go.Proofs.YtbgdjdhbejbhkaaDoor
