/-
Contracts of functions, each proved by a walk through its code.
-/
import Derived.Test.YtiimjodbaogjbaaGreatDoorSetsEtc
import Derived.Test.YtiimjodbaogjbaaGreatDoorChain3Etc
import Derived.Test.YtiimjodbaogjbaaGreatDoorRef2Etc
import Derived.Test.YtiimjodbaogjbaaGreatDoorRef4Etc
set_option linter.unusedVariables false
set_option linter.unusedSimpArgs false
set_option linter.constructorNameAsVariable false
namespace Go.Proofs.YtiimjodbaogjbaaGreatDoor
open Go Go.Eng
def shR (n w j : Nat) : Nat := shX n w / (2 ^ w) ^ j
theorem shR_succ (n w j : Nat) : ((shR n w j : Nat) : Int) / ((pw2 w : Nat) : Int) = ((shR n w (j + 1) : Nat) : Int) := by
  rw [shR, shR, pw2, Nat.pow_succ (2 ^ w), ← Nat.div_div_eq_div_mul]; simp
theorem shR_zero (n w : Nat) : shR n w 0 = shX n w := by rw [shR, Nat.pow_zero, Nat.div_one]
theorem shR_le (n w j : Nat) : shR n w j ≤ shX n w := Nat.div_le_self _ _
section
variable {G : World} {M : Mem} {L : Own}
theorem RdMay_spec {w : Nat} (hw : isW w) :
    Con Tryz.prog 172 #[.int .i64 (w : Int)] G M L (fun v M' L' => M = M' ∧ L = L' ∧ v = .bool true) noPanic := by
  refine enter (args := [_]) (fn := Tryz.f172) ⟨Tryz.func172, rfl, by kernel_rfl, by kernel_rfl⟩ 17 rfl ?_
  refine x_seq (x_region ?_)
  refine tl_y rfl (y_assign rfl) ?_
  refine tl_nil (.then_normal ?_)
  refine x_seq (x_region ?_)
  refine tl_y rfl (y_move (v := .int _ _) rfl) ?_
  refine tl_y rfl (y_eql rfl rfl) ?_
  refine tl_y rfl (y_move (v := .bool _) rfl) ?_
  refine tl_cases (s := 5) rfl (fun hk1 => ?_) (fun hk1 => ?_)
  ·
    refine tl_skip rfl ?_
    refine tl_skip rfl ?_
    refine tl_y rfl (y_pickT rfl rfl) ?_
    refine tl_y rfl (y_move (v := .bool _) rfl) ?_
    refine tl_skip rfl ?_
    refine tl_skip rfl ?_
    refine tl_y rfl (y_pickT rfl rfl) ?_
    refine tl_y rfl (y_move (v := .bool _) rfl) ?_
    refine tl_skip rfl ?_
    refine tl_skip rfl ?_
    refine tl_y rfl (y_pickT rfl rfl) ?_
    refine tl_y rfl (y_assign (v := .bool _) rfl) ?_
    refine tl_nil (.then_normal ?_)
    refine .sub (F' := [(2, _)]) (.cons rfl .nil) ?_
    refine x_ret (ret1 rfl rfl (Le.refl _) ⟨rfl, rfl, rfl⟩)
  ·
    refine tl_y rfl (y_move (v := .int _ _) rfl) ?_
    refine tl_y rfl (y_eql rfl rfl) ?_
    refine tl_y rfl (y_pickF rfl rfl) ?_
    refine tl_y rfl (y_move (v := .bool _) rfl) ?_
    refine tl_cases (s := 9) rfl (fun hk2 => ?_) (fun hk2 => ?_)
    ·
      refine tl_skip rfl ?_
      refine tl_skip rfl ?_
      refine tl_y rfl (y_pickT rfl rfl) ?_
      refine tl_y rfl (y_move (v := .bool _) rfl) ?_
      refine tl_skip rfl ?_
      refine tl_skip rfl ?_
      refine tl_y rfl (y_pickT rfl rfl) ?_
      refine tl_y rfl (y_assign (v := .bool _) rfl) ?_
      refine tl_nil (.then_normal ?_)
      refine .sub (F' := [(2, _)]) (.cons rfl .nil) ?_
      refine x_ret (ret1 rfl rfl (Le.refl _) ⟨rfl, rfl, rfl⟩)
    ·
      refine tl_y rfl (y_move (v := .int _ _) rfl) ?_
      refine tl_y rfl (y_eql rfl rfl) ?_
      refine tl_y rfl (y_pickF rfl rfl) ?_
      refine tl_y rfl (y_move (v := .bool _) rfl) ?_
      refine tl_cases (s := 13) rfl (fun hk3 => ?_) (fun hk3 => ?_)
      ·
        refine tl_skip rfl ?_
        refine tl_skip rfl ?_
        refine tl_y rfl (y_pickT rfl rfl) ?_
        refine tl_y rfl (y_assign (v := .bool _) rfl) ?_
        refine tl_nil (.then_normal ?_)
        refine .sub (F' := [(2, _)]) (.cons rfl .nil) ?_
        refine x_ret (ret1 rfl rfl (Le.refl _) ⟨rfl, rfl, rfl⟩)
      ·
        refine tl_y rfl (y_move (v := .int _ _) rfl) ?_
        refine tl_y rfl (y_eql rfl rfl) ?_
        refine tl_y rfl (y_pickF rfl rfl) ?_
        refine tl_y rfl (y_assign (v := .bool _) rfl) ?_
        refine tl_nil (.then_normal ?_)
        refine .sub (F' := [(2, _)]) (.cons rfl .nil) ?_
        refine x_ret (ret1 rfl rfl (Le.refl _) ⟨rfl, rfl, by
          rcases hw with rfl | rfl | rfl | rfl
          · exact absurd rfl hk1
          · exact absurd rfl hk2
          · exact absurd rfl hk3
          · rfl⟩)
theorem RShape_spec {n w : Nat} (hn : isN n) (hw : isW w) :
    Con Tryz.prog 123 #[.int .i64 (n : Int), .int .i64 (w : Int)] G M L (fun v M' L' => M = M' ∧ L = L' ∧ v = .tuple #[.int .i64 (shU n w : Nat), .int .i64 (shV n w : Nat), .int .i64 (shS n w : Nat)]) noPanic := by
  have hfact := shape_fact hn hw
  have hnb : 24 ≤ n ∧ n ≤ 32 := by rcases hn with rfl | rfl <;> omega
  have hlp : ∀ k, k ≤ shV n w → (0 < shR n w k ↔ k < shV n w) := fun k hk => shape_loop hn hw ⟨k, by omega⟩ hk
  change _ ∧ _ ∧ _ ∧ _ ∧ _ ∧ _ ∧ _ ∧ _ ∧ pw2 w ≤ 256 ∧ 2 ≤ pw2 w at hfact
  obtain ⟨h1, h2, h3, h4, h5, h6, h7, h8, h9, h10⟩ := hfact
  have hu : (8 * (n : Int)) / (w : Int) = ((shU n w : Nat) : Int) := by rw [shU]; simp
  have hx : (((pw2 w : Nat) : Int) - 1) * ((shU n w : Nat) : Int) = ((shX n w : Nat) : Int) := by
    rw [show ((pw2 w : Nat) : Int) - 1 = ((pw2 w - 1 : Nat) : Int) by omega, shX, pw2]; simp
  have hs : ((shV n w : Nat) : Int) * (w : Int) = ((shV n w * w : Nat) : Int) := by simp
  refine enter (args := [_, _]) (fn := Tryz.f123) ⟨Tryz.func123, rfl, by kernel_rfl, by kernel_rfl⟩ 51 rfl ?_
  refine x_seq (x_region ?_)
  refine tl_y rfl (y_assign rfl) ?_
  refine tl_y rfl (y_assign rfl) ?_
  refine tl_y rfl (y_assign rfl) ?_
  refine tl_nil (.then_normal ?_)
  refine x_seq (x_seq (x_region ?_))
  refine tl_y rfl (y_move (v := .int _ _) rfl) ?_
  refine tl_y rfl (y_lss rfl rfl) ?_
  refine tl_y rfl (y_move (v := .bool _) rfl) ?_
  refine tl_set (s := 14) (u := .bool false) rfl (by rw [decide_eq_false]; omega) ?_
  refine tl_y rfl (y_move (v := .int _ _) rfl) ?_
  refine tl_y rfl (y_gtr rfl rfl) ?_
  refine tl_y rfl (y_pickF rfl rfl) ?_
  refine tl_y rfl (y_move (v := .bool _) rfl) ?_
  refine tl_set (s := 18) (u := .bool false) rfl (by rw [decide_eq_false]; omega) ?_
  refine tl_y rfl (y_move (v := .int _ _) rfl) ?_
  refine tl_e rfl (e_call' rfl (RdMay_spec hw) ?_)
  rintro _ _ _ _ ⟨rfl, rfl, rfl⟩
  refine tl_y rfl (y_not rfl) ?_
  refine tl_y rfl (y_pickF rfl rfl) ?_
  refine tl_nil (.then_normal ?_)
  refine .sub (F' := [(0, _), (1, _), (22, _)]) (.cons rfl (.cons rfl (.cons rfl .nil))) ?_
  refine x_false rfl (rfl) ?_
  refine x_skip (.then_normal ?_)
  refine x_seq (x_region ?_)
  refine tl_y rfl (y_assign rfl) ?_
  refine tl_nil (.then_normal ?_)
  refine x_seq (x_seq (x_region ?_))
  refine tl_y rfl (y_assign rfl) ?_
  refine tl_nil (.then_normal ?_)
  refine x_block ?_
  refine x_loop (I := fun m' F D M2 L1 => ∃ k : Nat, m' = w - k ∧ k ≤ w ∧ D = [] ∧ M = M2 ∧ L = L1 ∧ F = [(0, .int .i64 n), (1, .int .i64 w), (7, .int .i64 (pw2 k : Nat)), (8, .int .i64 k)]) (w) (F0 := [(0, _), (1, _), (7, _), (8, _)]) ?_ (.cons rfl (.cons rfl (.cons rfl (.cons rfl .nil)))) ?_  -- slots [0, 1, 7, 8], written [7, 8]
  · exact ⟨0, rfl, by omega, rfl, rfl, rfl, rfl⟩
  rintro m _ _ M2 L1 ⟨k, rfl, hk, rfl, rfl, rfl, rfl⟩
  refine x_seq (x_seq (x_region ?_))
  refine tl_y rfl (y_move (v := .int _ _) rfl) ?_
  refine tl_y rfl (y_move (v := .int _ _) rfl) ?_
  refine tl_y rfl (y_lss rfl rfl) ?_
  refine tl_nil (.then_normal ?_)
  refine x_cond rfl (fun hc2 => ?_) (fun hc2 => ?_)
  ·
    have hp := pw2_le hk
    refine x_skip (.then_normal ?_)
    refine x_seq ?_
    refine x_block ?_
    refine x_region ?_
    refine tl_y rfl (y_move (v := .int _ _) rfl) ?_
    refine tl_y rfl (y_mulI rfl rfl (by omega)) ?_
    rw [pw2_succ]
    refine tl_y rfl (y_assign (v := .int _ _) rfl) ?_
    refine tl_nil (.block_normal (.then_normal ?_))
    refine .sub (F' := [(0, _), (1, _), (7, _), (8, _)]) (.cons rfl (.cons rfl (.cons rfl (.cons rfl .nil)))) ?_
    refine x_region ?_
    refine tl_y rfl (y_move (v := .int _ _) rfl) ?_
    refine tl_y rfl (y_addI rfl rfl (by omega)) ?_
    refine tl_y rfl (y_assign (v := .int _ _) rfl) ?_
    refine tl_nil (.loop_next (m' := w - (k + 1)) (by omega) (F' := [(0, _), (1, _), (7, _), (8, _)]) (.cons rfl (.cons rfl (.cons rfl (.cons rfl .nil)))) ?_)
    exact ⟨k + 1, rfl, by omega, rfl, rfl, rfl, rfl⟩
  ·
    obtain rfl : k = w := by omega
    refine x_exit (.then_exit (.loop_exit (.block_exit (.then_normal ?_))))
    refine .sub (F' := [(0, _), (1, _), (7, _)]) (.cons rfl (.cons rfl (.cons rfl .nil))) ?_
    refine x_seq (x_region ?_)
    refine tl_y rfl (y_move (v := .int _ _) rfl) ?_
    refine tl_y rfl (y_mulI rfl rfl (by omega)) ?_
    refine tl_y rfl (y_move (v := .int _ _) rfl) ?_
    refine tl_y rfl (y_quoI rfl rfl (by omega)) ?_
    rw [hu]
    refine tl_y rfl (y_assign (v := .int _ _) rfl) ?_
    refine tl_nil (.then_normal ?_)
    refine .sub (F' := [(1, _), (7, _), (9, _)]) (.cons rfl (.cons rfl (.cons rfl .nil))) ?_
    refine x_seq (x_region ?_)
    refine tl_y rfl (y_assign rfl) ?_
    refine tl_nil (.then_normal ?_)
    refine x_seq (x_seq (x_region ?_))
    refine tl_y rfl (y_move (v := .int _ _) rfl) ?_
    refine tl_y rfl (y_subI rfl rfl (by omega)) ?_
    refine tl_y rfl (y_move (v := .int _ _) rfl) ?_
    refine tl_y rfl (y_mulI rfl rfl (by rw [hx]; omega)) ?_
    rw [hx]
    refine tl_y rfl (y_assign (v := .int _ _) rfl) ?_
    refine tl_nil (.then_normal ?_)
    refine .sub (F' := [(1, _), (7, _), (9, _), (10, _), (11, _)]) (.cons rfl (.cons rfl (.cons rfl (.cons rfl (.cons rfl .nil))))) ?_
    refine x_block ?_
    refine x_loop (I := fun m' F D M2 L1 => ∃ j : Nat, m' = shV n k - j ∧ j ≤ shV n k ∧ D = [] ∧ M = M2 ∧ L = L1 ∧ F = [(1, .int .i64 k), (7, .int .i64 (pw2 k : Nat)), (9, .int .i64 (shU n k : Nat)), (10, .int .i64 j), (11, .int .i64 (shR n k j : Nat))]) (shV n k) (F0 := [(1, _), (7, _), (9, _), (10, _), (11, _)]) ?_ (.cons rfl (.cons rfl (.cons rfl (.cons rfl (.cons rfl .nil))))) ?_  -- slots [1, 7, 9, 10, 11], written [10, 11]
    · exact ⟨0, rfl, by omega, rfl, rfl, rfl, by rw [shR_zero]; rfl⟩
    rintro m _ _ M2 L1 ⟨j, rfl, hj, rfl, rfl, rfl, rfl⟩
    refine x_seq (x_seq (x_region ?_))
    refine tl_y rfl (y_move (v := .int _ _) rfl) ?_
    refine tl_y rfl (y_gtr rfl rfl) ?_
    refine tl_nil (.then_normal ?_)
    refine x_cond rfl (fun hc3 => ?_) (fun hc3 => ?_)
    ·
      have hjv : j < shV n k := (hlp j hj).1 (by omega)
      have hdl := shR_le n k j
      refine x_skip (.then_normal ?_)
      refine x_seq ?_
      refine x_block ?_
      refine x_region ?_
      refine tl_y rfl (y_move (v := .int _ _) rfl) ?_
      refine tl_y rfl (y_addI rfl rfl (by omega)) ?_
      refine tl_y rfl (y_assign (v := .int _ _) rfl) ?_
      refine tl_nil (.block_normal (.then_normal ?_))
      refine .sub (F' := [(1, _), (7, _), (9, _), (10, _), (11, _)]) (.cons rfl (.cons rfl (.cons rfl (.cons rfl (.cons rfl .nil))))) ?_
      refine x_region ?_
      refine tl_y rfl (y_move (v := .int _ _) rfl) ?_
      refine tl_y rfl (y_move (v := .int _ _) rfl) ?_
      refine tl_y rfl (y_quoI rfl rfl (by omega)) ?_
      rw [shR_succ]
      refine tl_y rfl (y_assign (v := .int _ _) rfl) ?_
      refine tl_nil (.loop_next (m' := shV n k - (j + 1)) (by omega) (F' := [(1, _), (7, _), (9, _), (10, _), (11, _)]) (.cons rfl (.cons rfl (.cons rfl (.cons rfl (.cons rfl .nil))))) ?_)
      exact ⟨j + 1, rfl, by omega, rfl, rfl, rfl, rfl⟩
    ·
      have hjv : ¬ j < shV n k := fun h => hc3 (by have := (hlp j hj).2 h; omega)
      obtain rfl : j = shV n k := by omega
      refine x_exit (.then_exit (.loop_exit (.block_exit (.then_normal ?_))))
      refine .sub (F' := [(1, _), (9, _), (10, _)]) (.cons rfl (.cons rfl (.cons rfl .nil))) ?_
      refine x_seq (x_region ?_)
      refine tl_y rfl (y_move (v := .int _ _) rfl) ?_
      refine tl_y rfl (y_move (v := .int _ _) rfl) ?_
      refine tl_y rfl (y_move (v := .int _ _) rfl) ?_
      refine tl_y rfl (y_move (v := .int _ _) rfl) ?_
      refine tl_y rfl (y_mulI rfl rfl (by rw [hs]; omega)) ?_
      rw [hs]
      refine tl_y rfl (y_subI rfl rfl (by omega)) ?_
      rw [show (16 : Int) - ((shV n k * k : Nat) : Int) = ((shS n k : Nat) : Int) by rw [shS]; omega]
      refine tl_y rfl (y_assign (v := .int _ _) rfl) ?_
      refine tl_y rfl (y_assign (v := .int _ _) rfl) ?_
      refine tl_y rfl (y_assign (v := .int _ _) rfl) ?_
      refine tl_nil (.then_normal ?_)
      refine .sub (F' := [(4, _), (5, _), (6, _)]) (.cons rfl (.cons rfl (.cons rfl .nil))) ?_
      refine x_ret (ret3 rfl rfl rfl rfl (Le.refl _) ⟨rfl, rfl, rfl⟩)
theorem Rsize_spec (i : Nat) (hi : i ≤ 1000) :
    Con Tryz.prog 122 #[.int .i64 (i : Int)] G M L (fun v M' L' => M = M' ∧ L = L' ∧ v = .tuple #[.int .i64 ((i / 2 : Nat) : Int), .int .i64 ((szN i : Nat) : Int)]) noPanic := by
  refine enter (args := [_]) (fn := Tryz.f122) ⟨Tryz.func122, rfl, by kernel_rfl, by kernel_rfl⟩ 11 rfl ?_
  refine x_seq (x_region ?_)
  refine tl_y rfl (y_assign rfl) ?_
  refine tl_y rfl (y_assign rfl) ?_
  refine tl_nil (.then_normal ?_)
  refine x_seq (x_region ?_)
  refine tl_y rfl (y_assign rfl) ?_
  refine tl_nil (.then_normal ?_)
  refine x_seq (x_seq (x_region ?_))
  refine tl_y rfl (y_move (v := .int _ _) rfl) ?_
  refine tl_y rfl (y_remI rfl rfl (by omega)) ?_
  refine tl_y rfl (y_eql rfl rfl) ?_
  refine tl_nil (.then_normal ?_)
  refine .sub (F' := [(0, _), (4, _), (7, _)]) (.cons rfl (.cons rfl (.cons rfl .nil))) ?_
  refine x_cond rfl (fun hc1 => ?_) (fun hc1 => ?_)
  ·
    refine x_region ?_
    refine tl_y rfl (y_assign rfl) ?_
    refine tl_nil (.then_normal ?_)
    refine x_seq (x_region ?_)
    refine tl_y rfl (y_move (v := .int _ _) rfl) ?_
    refine tl_y rfl (y_quoI rfl rfl (by omega)) ?_
    refine tl_y rfl (y_move (v := .int _ _) rfl) ?_
    refine tl_y rfl (y_assign (v := .int _ _) rfl) ?_
    refine tl_y rfl (y_assign (v := .int _ _) rfl) ?_
    refine tl_nil (.then_normal ?_)
    refine .sub (F' := [(2, _), (3, _)]) (.cons rfl (.cons rfl .nil)) ?_
    refine x_ret (ret2 rfl rfl rfl (Le.refl _) ⟨rfl, rfl, by rw [szN, if_pos (by omega)]; rfl⟩)
  ·
    refine x_skip (.then_normal ?_)
    refine x_seq (x_region ?_)
    refine tl_y rfl (y_move (v := .int _ _) rfl) ?_
    refine tl_y rfl (y_quoI rfl rfl (by omega)) ?_
    refine tl_y rfl (y_move (v := .int _ _) rfl) ?_
    refine tl_y rfl (y_assign (v := .int _ _) rfl) ?_
    refine tl_y rfl (y_assign (v := .int _ _) rfl) ?_
    refine tl_nil (.then_normal ?_)
    refine .sub (F' := [(2, _), (3, _)]) (.cons rfl (.cons rfl .nil)) ?_
    refine x_ret (ret2 rfl rfl rfl (Le.refl _) ⟨rfl, rfl, by rw [szN, if_neg (by omega)]; rfl⟩)
theorem ROts_spec (code : UInt32) :
    Con Tryz.prog 54 #[.int .u32 (code.toNat : Int)] G M L (fun v M' L' => M = M' ∧ L = L' ∧ v = .tuple #[.agg (List.toArray (otsV code).cells), .int .i64 (otsE code)]) noPanic := by
  have hc := code.toNat_lt
  refine enter (args := [_]) (fn := Tryz.f54) ⟨Tryz.func54, rfl, by kernel_rfl, by kernel_rfl⟩ 47 rfl ?_
  refine x_seq (x_region ?_)
  refine tl_e rfl (e_alloc (fun b1 => ?_))
  refine tl_y rfl (y_assign rfl) ?_
  refine tl_nil (.then_normal ?_)
  refine x_seq (x_seq (x_region ?_))
  refine tl_y rfl (y_move (v := .int _ _) rfl) ?_
  refine tl_y rfl (y_lss rfl rfl) ?_
  refine tl_y rfl (y_move (v := .bool _) rfl) ?_
  refine tl_cases (s := 12) rfl (fun hk1 => ?_) (fun hk1 => ?_)
  ·
    have ho : otsOf code = none := by rw [otsOf, if_neg (by omega)]
    refine tl_skip rfl ?_
    refine tl_skip rfl ?_
    refine tl_y rfl (y_pickT rfl rfl) ?_
    refine tl_nil (.then_normal ?_)
    refine .sub (F' := [(0, _), (2, _), (15, _)]) (.cons rfl (.cons rfl (.cons rfl .nil))) ?_
    refine x_true rfl rfl ?_
    refine x_seq (x_region ?_)
    refine tl_y rfl (y_build rfl) ?_
    refine tl_e rfl (e_store rfl rfl (by rfl) (by rfl) inferInstance inferInstance inferInstance ?_)
    refine tl_y rfl (y_assign rfl) ?_
    refine tl_nil (.then_normal ?_)
    refine x_ret (.then_ret (retRV (L' := L) (rv2 rfl (rc_cellAgg (by rfl) rfl (.own inferInstance inferInstance)) (rc_tmp (by rfl))) inferInstance (Le.refl _) ⟨rfl, rfl, by rw [otsV, otsE, ho]; rfl⟩))
  ·
    refine tl_y rfl (y_move (v := .int _ _) rfl) ?_
    refine tl_y rfl (y_gtr rfl rfl) ?_
    refine tl_y rfl (y_pickF rfl rfl) ?_
    refine tl_nil (.then_normal ?_)
    refine .sub (F' := [(0, _), (2, _), (15, _)]) (.cons rfl (.cons rfl (.cons rfl .nil))) ?_
    refine x_cond rfl (fun hc1 => ?_) (fun hc1 => ?_)
    ·
      have ho : otsOf code = none := by rw [otsOf, if_neg (by omega)]
      refine x_seq (x_region ?_)
      refine tl_y rfl (y_build rfl) ?_
      refine tl_e rfl (e_store rfl rfl (by rfl) (by rfl) inferInstance inferInstance inferInstance ?_)
      refine tl_y rfl (y_assign rfl) ?_
      refine tl_nil (.then_normal ?_)
      refine x_ret (.then_ret (retRV (L' := L) (rv2 rfl (rc_cellAgg (by rfl) rfl (.own inferInstance inferInstance)) (rc_tmp (by rfl))) inferInstance (Le.refl _) ⟨rfl, rfl, by rw [otsV, otsE, ho]; rfl⟩))
    ·
      obtain ⟨i, hi⟩ : ∃ i, i = code.toNat - 1 := ⟨_, rfl⟩
      have hi4 : i % 4 < 4 := Nat.mod_lt _ (by omega)
      have hi16 : i < 16 := by omega
      obtain ⟨s1, s2, s3, s4, s5, s6, s7, s8, s9, s10⟩ := shape_fact (szN_is (i / 4)) (w_is i)
      refine x_skip (.then_normal ?_)
      refine x_seq (x_region ?_)
      refine tl_y rfl (y_move (v := .int _ _) rfl) ?_
      refine tl_y rfl (y_subN32 rfl rfl (by omega)) ?_
      refine tl_y rfl (y_convI rfl (by omega)) ?_
      rw [show (code.toNat : Int) - 1 = (i : Int) by omega]
      refine tl_y rfl (y_quoI rfl rfl (by omega)) ?_
      rw [show (i : Int) / 4 = ((i / 4 : Nat) : Int) by omega]
      refine tl_e rfl (e_call' rfl (Rsize_spec (i / 4) (by omega)) ?_)
      rintro _ _ _ _ ⟨rfl, rfl, rfl⟩
      refine tl_y rfl (y_move (v := .tuple _) rfl) ?_
      refine tl_y rfl (y_extract rfl) ?_
      refine tl_y rfl (y_extract rfl) ?_
      refine tl_y rfl (y_assign (v := .int _ _) rfl) ?_
      refine tl_y rfl (y_assign (v := .int _ _) rfl) ?_
      refine tl_nil (.then_normal ?_)
      refine .sub (F' := [(0, _), (2, _), (4, _), (5, _)]) (.cons rfl (.cons rfl (.cons rfl (.cons rfl .nil)))) ?_
      refine x_seq (x_region ?_)
      refine tl_e rfl (e_buildSlice rfl (by decide) (fun b2 => ?_))
      refine tl_y rfl (y_move (v := .int _ _) rfl) ?_
      refine tl_y rfl (y_subN32 rfl rfl (by omega)) ?_
      refine tl_y rfl (y_remI rfl rfl (by omega)) ?_
      rw [show ((code.toNat : Int) - 1) % 4 = ((i % 4 : Nat) : Int) by omega]
      refine tl_y rfl (y_indexAddr rfl rfl (by omega)) ?_
      refine tl_y rfl (y_load rfl rfl (.at_ (.ownAt (i := i % 4) (c := [Value.int .i64 1, .int .i64 2, .int .i64 4, .int .i64 8]) inferInstance (widths_get _ hi4)) (by omega))) ?_
      refine tl_y rfl (y_assign (v := .int _ _) rfl) ?_
      refine tl_nil (.then_normal ?_)
      refine .sub (F' := [(0, _), (2, _), (4, _), (5, _), (6, _)]) (.cons rfl (.cons rfl (.cons rfl (.cons rfl (.cons rfl .nil))))) ?_
      refine x_seq (x_region ?_)
      refine tl_y rfl (y_move (v := .int _ _) rfl) ?_
      refine tl_y rfl (y_move (v := .int _ _) rfl) ?_
      refine tl_e rfl (e_call' rfl (RShape_spec (szN_is (i / 4)) (w_is i)) ?_)
      rintro _ _ _ _ ⟨rfl, rfl, rfl⟩
      refine tl_y rfl (y_move (v := .tuple _) rfl) ?_
      refine tl_y rfl (y_extract rfl) ?_
      refine tl_y rfl (y_extract rfl) ?_
      refine tl_y rfl (y_extract rfl) ?_
      refine tl_y rfl (y_assign (v := .int _ _) rfl) ?_
      refine tl_y rfl (y_assign (v := .int _ _) rfl) ?_
      refine tl_y rfl (y_assign (v := .int _ _) rfl) ?_
      refine tl_nil (.then_normal ?_)
      refine .sub (F' := [(0, _), (2, _), (4, _), (5, _), (6, _), (7, _), (8, _), (9, _)]) (.cons rfl (.cons rfl (.cons rfl (.cons rfl (.cons rfl (.cons rfl (.cons rfl (.cons rfl .nil)))))))) ?_
      refine x_seq (x_region ?_)
      refine tl_y rfl (y_move (v := .int _ _) rfl) ?_
      refine tl_y rfl (y_move (v := .int _ _) rfl) ?_
      refine tl_y rfl (y_move (v := .int _ _) rfl) ?_
      refine tl_y rfl (y_move (v := .int _ _) rfl) ?_
      refine tl_y rfl (y_move (v := .int _ _) rfl) ?_
      refine tl_y rfl (y_move (v := .int _ _) rfl) ?_
      refine tl_y rfl (y_addI rfl rfl (by omega)) ?_
      refine tl_y rfl (y_move (v := .int _ _) rfl) ?_
      refine tl_y rfl (y_build rfl) ?_
      refine tl_e rfl (e_store rfl rfl (by rfl) (by rfl) inferInstance inferInstance inferInstance ?_)
      refine tl_y rfl (y_assign rfl) ?_
      refine tl_nil (.then_normal ?_)
      refine .sub (F' := [(2, _), (3, _)]) (.cons rfl (.cons rfl .nil)) ?_
      refine x_ret (retRV (L' := L) (rv2 rfl (rc_cellAgg (by rfl) rfl (.own inferInstance inferInstance)) (rc_tmp (by rfl))) inferInstance (Le.refl _) ⟨rfl, rfl, by
        rw [otsV, otsE, show otsOf code = some (otsT i) by rw [otsOf, if_pos (by omega), hi]]
        rw [Option.getD_some, otsT]
        show _ = Value.tuple #[.agg (List.toArray [.int .u32 ((UInt32.ofNat (i + 1)).toNat : Int), _, _, _, _, _]), _]
        rw [show (UInt32.ofNat (i + 1)).toNat = code.toNat by rw [UInt32.toNat_ofNat']; omega, show i / 8 = i / 4 / 2 by omega]
        rfl⟩)
end
end Go.Proofs.YtiimjodbaogjbaaGreatDoor
set_option linter.unusedVariables false
set_option linter.unusedSimpArgs false
set_option linter.constructorNameAsVariable false
namespace Go.Proofs.YtiimjodbaogjbaaGreatDoor
open Go Go.Eng
section
variable {G : World} {M : Mem} {L : Own}
theorem bool_iff {t : Bool} {p : Prop} [Decidable p] (h : t = true ↔ p) : t = decide p := by
  rw [Bool.eq_iff_iff, h]; simp
theorem RSum_spec (kind n : Int) {A : Option Addr} {m c : Nat} {bs : List UInt8} (hb : RowIn M L 1 A m (bs.map bv)) (hm : m ≤ 1099511627776) :
    Con Tryz.prog 139 #[.int .i64 kind, .int .i64 n, .slice A m c] G M L (fun v M' L' => L = L' ∧ ∃ A' m' c', v = .slice A' m' c' ∧ Bytes M' A' m' c' (cSum kind n bs)) noPanic := by
  refine enter (args := [_, _, _]) (fn := Tryz.f139) ⟨Tryz.func139, rfl, by kernel_rfl, by kernel_rfl⟩ 24 rfl ?_
  refine x_seq (x_region ?_)
  refine tl_y rfl (y_assign rfl) ?_
  refine tl_nil (.then_normal ?_)
  refine x_seq ?_
  refine x_join (I := fun F D M1 L1 => ∃ t : Bool, (t = true ↔ (n ≠ 24 ∧ n ≠ 32)) ∧ D = [] ∧ M = M1 ∧ L = L1 ∧ F = [(0, .int .i64 kind), (1, .int .i64 n), (2, .slice A m c), (12, .bool t)]) ?_ (fun Jq1 => ?_)
  ·
    rintro _ _ _ _ ⟨t, ht, rfl, rfl, rfl, rfl⟩  -- slots [0, 1, 2, 12]
    refine x_condb rfl (fun hc1 => ?_) (fun hc1 => ?_)
    ·
      refine x_seq (x_region ?_)
      refine tl_y rfl (y_assign rfl) ?_
      refine tl_nil (.then_normal ?_)
      refine .sub (F' := [(6, _)]) (.cons rfl .nil) ?_
      refine x_ret (.then_ret (ret1 rfl rfl (Le.refl _) ⟨rfl, _, _, _, rfl, by rw [cSum, if_neg (by have := ht.1 hc1; unfold okC; omega)]; exact Row.nil _ _⟩))
    ·
      have hn : n = 24 ∨ n = 32 := by
        have : ¬ (n ≠ 24 ∧ n ≠ 32) := fun h => by rw [ht.2 h] at hc1; cases hc1
        omega
      obtain ⟨n', rfl⟩ : ∃ n' : Nat, n = n' := ⟨n.toNat, by omega⟩
      refine x_skip (.then_normal ?_)
      refine x_seq (x_seq (x_region ?_))
      refine tl_y rfl (y_move (v := .int _ _) rfl) ?_
      refine tl_y rfl (y_eql rfl rfl) ?_
      refine tl_nil (.then_normal ?_)
      refine x_cond rfl (fun hc2 => ?_) (fun hc2 => ?_)
      ·
        refine x_seq (x_region ?_)
        refine tl_y rfl (y_move (v := .slice _ _ _) rfl) ?_
        refine tl_e rfl (e_call' rfl (ROne_spec hb hm) ?_)
        rintro _ M1 _ hM1 ⟨rfl, A1, c1, rfl, hA1⟩
        have hle1 := hA1.le
        refine tl_y rfl (y_move (v := .int _ _) rfl) ?_
        refine tl_y rfl (y_sliceH rfl rfl (by omega) (by omega)) ?_
        refine tl_y rfl (y_assign (v := .slice _ _ _) rfl) ?_
        refine tl_nil (.then_normal ?_)
        refine .sub (F' := [(6, _)]) (.cons rfl .nil) ?_
        refine x_ret (.then_ret (ret1 rfl rfl hM1 ⟨rfl, _, _, _, rfl, by rw [cSum, if_pos ⟨.inl hc2, hn⟩, csum, if_pos hc2]; exact Bytes.take hA1 n' (by omega)⟩))
      ·
        refine x_skip (.then_normal ?_)
        refine x_seq (x_seq (x_region ?_))
        refine tl_y rfl (y_move (v := .int _ _) rfl) ?_
        refine tl_y rfl (y_eql rfl rfl) ?_
        refine tl_nil (.then_normal ?_)
        refine .sub (F' := [(1, _), (2, _), (20, _)]) (.cons rfl (.cons rfl (.cons rfl .nil))) ?_
        refine x_cond rfl (fun hc3 => ?_) (fun hc3 => ?_)
        ·
          refine x_seq (x_region ?_)
          refine tl_y rfl (y_move (v := .slice _ _ _) rfl) ?_
          refine tl_y rfl (y_move (v := .int _ _) rfl) ?_
          refine tl_e rfl (e_call' rfl (RShSum_spec hb hm n' (by omega)) ?_)
          rintro _ M1 L hM1 ⟨A1, c1, rfl, hA1, rfl⟩
          refine tl_y rfl (y_assign (v := .slice _ _ _) rfl) ?_
          refine tl_nil (.then_normal ?_)
          refine .sub (F' := [(6, _)]) (.cons rfl .nil) ?_
          refine x_ret (.then_ret (ret1 rfl rfl hM1 ⟨rfl, _, _, _, rfl, by rw [cSum, if_pos ⟨.inr hc3, hn⟩, csum, if_neg hc2]; exact hA1⟩))
        ·
          refine x_skip (.then_normal ?_)
          refine x_seq (x_region ?_)
          refine tl_y rfl (y_assign rfl) ?_
          refine tl_nil (.then_normal ?_)
          refine x_ret (ret1 rfl rfl (Le.refl _) ⟨rfl, _, _, _, rfl, by rw [cSum, if_neg (by unfold okC; omega)]; exact Row.nil _ _⟩)
  ·
    refine x_region ?_
    refine tl_y rfl (y_move (v := .int _ _) rfl) ?_
    refine tl_y rfl (y_neq rfl rfl) ?_
    refine tl_y rfl (y_move (v := .bool _) rfl) ?_
    refine tl_cases (s := 9) rfl (fun hk1 => ?_) (fun hk1 => ?_)
    ·
      refine tl_y rfl (y_move (v := .int _ _) rfl) ?_
      refine tl_y rfl (y_neq rfl rfl) ?_
      refine tl_y rfl (y_pickT rfl rfl) ?_
      refine tl_nil (.then_normal (.sub (F' := [(0, _), (1, _), (2, _), (12, _)]) (.cons rfl (.cons rfl (.cons rfl (.cons rfl .nil)))) (Jq1 _ _ _ _ ?_)))
      exact ⟨_, by first | (simp; done) | (simp; omega) | omega, rfl, rfl, rfl, rfl⟩
    ·
      refine tl_skip rfl ?_
      refine tl_skip rfl ?_
      refine tl_y rfl (y_pickF rfl rfl) ?_
      refine tl_nil (.then_normal (.sub (F' := [(0, _), (1, _), (2, _), (12, _)]) (.cons rfl (.cons rfl (.cons rfl (.cons rfl .nil)))) (Jq1 _ _ _ _ ?_)))
      exact ⟨_, by first | (simp; done) | (simp; omega) | omega, rfl, rfl, rfl, rfl⟩
theorem RPutV_spec (v n : Nat) (hv : v < 18446744073709551616) (hn : n ≤ 8) :
    Con Tryz.prog 19 #[.int .u64 (v : Int), .int .i64 (n : Int)] G M L (fun r M' L' => L = L' ∧ ∃ A c, r = .slice A n c ∧ Bytes M' A n c (putB v n)) noPanic := by
  have h := RPut_spec (G := G) (M := M) (L := L) (UInt64.ofNat v) n hn
  rw [UInt64.toNat_ofNat', Nat.mod_eq_of_lt hv] at h
  exact h
theorem RPart_spec (kind n : Int) {NA : Option Addr} {nl nc : Nat} {name : List UInt8} (hname : Bytes M NA nl nc name) (q : UInt32) (d : Nat) (hd : d ≤ 65535) {A : Option Addr} {m c : Nat} {text : List UInt8} (h : Bytes M A m c text) (hm : m ≤ 1000000000000) :
    Con Tryz.prog 162 #[.int .i64 kind, .int .i64 n, .slice NA nl nc, .int .u32 (q.toNat : Int), .int .u16 (d : Int), .slice A m c] G M L (fun v M' L' => L = L' ∧ ∃ A' m' c', v = .slice A' m' c' ∧ Bytes M' A' m' c' (cPart kind n name q.toNat d text)) noPanic := by
  have hnl := hname.size
  have hml := h.size
  have hq := q.toNat_lt
  refine enter (args := [_, _, _, _, _, _]) (fn := Tryz.f162) ⟨Tryz.func162, rfl, by kernel_rfl, by kernel_rfl⟩ 29 rfl ?_
  refine x_seq (x_region ?_)
  refine tl_y rfl (y_assign rfl) ?_
  refine tl_nil (.then_normal ?_)
  refine x_seq (x_seq (x_region ?_))
  refine tl_y rfl (y_move (v := .slice _ _ _) rfl) ?_
  refine tl_y rfl (y_len rfl) ?_
  refine tl_y rfl (y_neq rfl rfl) ?_
  refine tl_nil (.then_normal ?_)
  refine x_cond rfl (fun hc1 => ?_) (fun hc1 => ?_)
  ·
    refine x_seq (x_region ?_)
    refine tl_y rfl (y_assign rfl) ?_
    refine tl_nil (.then_normal ?_)
    refine .sub (F' := [(12, _)]) (.cons rfl .nil) ?_
    refine x_ret (.then_ret (ret1 rfl rfl (Le.refl _) ⟨rfl, _, _, _, rfl, by rw [cPart, if_neg (by omega)]; exact Row.nil _ _⟩))
  ·
    refine x_skip (.then_normal ?_)
    refine .sub (F' := [(0, _), (1, _), (2, _), (3, _), (4, _), (5, _)]) (.cons rfl (.cons rfl (.cons rfl (.cons rfl (.cons rfl (.cons rfl .nil)))))) ?_
    refine x_seq (x_region ?_)
    refine tl_y rfl (y_move (v := .int _ _) rfl) ?_
    refine tl_y rfl (y_move (v := .int _ _) rfl) ?_
    refine tl_y rfl (y_move (v := .slice _ _ _) rfl) ?_
    refine tl_y rfl (y_move (v := .int _ _) rfl) ?_
    refine tl_y rfl (y_convN64 rfl (by omega)) ?_
    refine tl_e rfl (e_call' rfl (RPutV_spec q.toNat 4 (by omega) (by omega)) ?_)
    rintro _ M1 _ hM1 ⟨rfl, A1, c1, rfl, hA1⟩
    refine tl_y rfl (y_move (v := .int _ _) rfl) ?_
    refine tl_y rfl (y_convN64 rfl (by omega)) ?_
    refine tl_e rfl (e_call' rfl (RPutV_spec d 2 (by omega) (by omega)) ?_)
    rintro _ M2 _ hM2 ⟨rfl, A2, c2, rfl, hA2⟩
    refine tl_y rfl (y_move (v := .slice _ _ _) rfl) ?_
    refine tl_e rfl (e_buildSlice rfl (by decide) (fun b1 => ?_))
    refine .pub b1 inferInstance (fun M3 hM3 hb1 => ?_)
    have hm3 := hM1.trans (hM2.trans hM3)
    have hfl : [name, putB q.toNat 4, putB d 2, text].flatten = name ++ (putB q.toNat 4 ++ (putB d 2 ++ text)) := by simp
    have hfll : (name ++ (putB q.toNat 4 ++ (putB d 2 ++ text))).length = nl + 6 + m := by rw [List.length_append, List.length_append, List.length_append, putB_length, putB_length, hnl, hml]; omega
    refine tl_e rfl (e_call' rfl (RCat_own (Row.whole hb1 rfl (by omega)) (.cons (hname.mono hm3) (.cons (hA1.mono (hM2.trans hM3)) (.cons (hA2.mono hM3) (.cons (h.mono hm3) .nil)))) (by rw [hfl, hfll]; omega)) ?_)
    rintro _ _ _ _ ⟨rfl, A4, c4, E4, rfl, hE4, rfl⟩
    rw [hfl, hfll] at hE4
    rw [hfl, hfll]
    refine tl_e rfl (e_call' rfl (RSum_spec kind n (hE4.in_ inferInstance (by omega)) (by omega)) ?_)
    rintro _ M5 _ hM5 ⟨rfl, A5, m5, c5, rfl, hA5⟩
    refine tl_y rfl (y_assign (v := .slice _ _ _) rfl) ?_
    refine tl_nil (.then_normal ?_)
    refine .sub (F' := [(12, _)]) (.cons rfl .nil) ?_
    refine x_ret (.dropTo L inferInstance (ret1 rfl rfl (hm3.trans hM5) ⟨rfl, _, _, _, rfl, by rw [cPart, if_pos (by omega)]; exact hA5⟩))
theorem RRight_spec (o : OtsV) {NA XA : Option Addr} {nl nc xl xc : Nat} (i : Int) :
    Con Tryz.prog 199 #[.agg (List.toArray o.cells), .slice NA nl nc, .int .i64 i, .slice XA xl xc] G M L (fun v M' L' => M = M' ∧ L = L' ∧ v = .bool (decide (okR o nl i xl))) noPanic := by
  refine enter (args := [_, _, _, _]) (fn := Tryz.f199) ⟨Tryz.func199, rfl, by kernel_rfl, by kernel_rfl⟩ 46 rfl ?_
  refine x_seq (x_region ?_)
  refine tl_e rfl (e_box rfl (fun b1 => ?_))
  refine tl_y rfl (y_assign rfl) ?_
  refine tl_nil (.then_normal ?_)
  refine x_seq (x_region ?_)
  refine tl_y rfl (y_fieldAddr rfl) ?_
  refine tl_y rfl (y_load rfl rfl (.own inferInstance inferInstance)) ?_
  refine tl_e rfl (e_call' rfl (ROts_spec o.code) ?_)
  rintro _ _ _ _ ⟨rfl, rfl, rfl⟩
  refine tl_y rfl (y_move (v := .tuple _) rfl) ?_
  refine tl_y rfl (y_extract rfl) ?_
  refine tl_y rfl (y_extract rfl) ?_
  refine tl_e rfl (e_alloc (fun b2 => ?_))
  refine tl_e rfl (e_store rfl rfl (by rfl) (by rfl) inferInstance inferInstance inferInstance ?_)
  refine tl_y rfl (y_assign (v := .int _ _) rfl) ?_
  refine tl_nil (.then_normal ?_)
  refine .sub (F' := [(1, _), (2, _), (3, _), (4, _), (9, _), (10, _)]) (.cons rfl (.cons rfl (.cons rfl (.cons rfl (.cons rfl (.cons rfl .nil)))))) ?_
  refine x_join (I := fun F D M1 L1 => ∃ t : Bool, (t = true ↔ okR o nl i xl) ∧ D = [] ∧ M = M1 ∧ DropTo L1 L ∧ F = [(8, .bool t)]) ?_ (fun Jq2 => ?_)
  ·
    rintro _ _ M1 L1 ⟨t, ht, rfl, rfl, hdr, rfl⟩  -- slots [8]
    refine x_ret (.dropTo L hdr (ret1 rfl rfl (Le.refl _) ⟨rfl, rfl, by rw [bool_iff ht]⟩))
  ·
    refine x_region ?_
    refine tl_y rfl (y_move (v := .int _ _) rfl) ?_
    refine tl_y rfl (y_eql rfl rfl) ?_
    refine tl_y rfl (y_move (v := .bool _) rfl) ?_
    refine tl_cases (s := 19) rfl (fun hk1 => ?_) (fun hk1 => ?_)
    ·
      refine tl_y rfl (y_loadAgg rfl rfl (.own inferInstance inferInstance)) ?_
      refine tl_y rfl (y_loadAgg rfl rfl (.own inferInstance inferInstance)) ?_
      refine tl_y rfl (y_eqlS rfl rfl eqs27) ?_
      refine tl_y rfl (y_pickT rfl rfl) ?_
      refine tl_y rfl (y_move (v := .bool _) rfl) ?_
      refine tl_cases (s := 24) rfl (fun hk2 => ?_) (fun hk2 => ?_)
      ·
        refine tl_y rfl (y_move (v := .slice _ _ _) rfl) ?_
        refine tl_y rfl (y_len rfl) ?_
        refine tl_y rfl (y_eql rfl rfl) ?_
        refine tl_y rfl (y_pickT rfl rfl) ?_
        refine tl_y rfl (y_move (v := .bool _) rfl) ?_
        refine tl_cases (s := 29) rfl (fun hk3 => ?_) (fun hk3 => ?_)
        ·
          refine tl_y rfl (y_move (v := .int _ _) rfl) ?_
          refine tl_y rfl (y_geq rfl rfl) ?_
          refine tl_y rfl (y_pickT rfl rfl) ?_
          refine tl_y rfl (y_move (v := .bool _) rfl) ?_
          refine tl_cases (s := 33) rfl (fun hk4 => ?_) (fun hk4 => ?_)
          ·
            refine tl_y rfl (y_move (v := .int _ _) rfl) ?_
            refine tl_y rfl (y_fieldAddr rfl) ?_
            refine tl_y rfl (y_load rfl rfl (.own inferInstance inferInstance)) ?_
            refine tl_y rfl (y_lss rfl rfl) ?_
            refine tl_y rfl (y_pickT rfl rfl) ?_
            refine tl_y rfl (y_move (v := .bool _) rfl) ?_
            refine tl_cases (s := 39) rfl (fun hk5 => ?_) (fun hk5 => ?_)
            ·
              refine tl_y rfl (y_move (v := .slice _ _ _) rfl) ?_
              refine tl_y rfl (y_len rfl) ?_
              refine tl_y rfl (y_fieldAddr rfl) ?_
              refine tl_y rfl (y_load rfl rfl (.own inferInstance inferInstance)) ?_
              refine tl_y rfl (y_eql rfl rfl) ?_
              refine tl_y rfl (y_pickT rfl rfl) ?_
              refine tl_y rfl (y_assign (v := .bool _) rfl) ?_
              refine tl_nil (.then_normal (.sub (F' := [(8, _)]) (.cons rfl .nil) (Jq2 _ _ _ _ ?_)))
              exact ⟨_, by
                constructor
                · intro ht
                  first | (cases ht; done) | (simp at ht; exact ⟨hk1, ots_eq hk2, by omega, by omega, by omega, by omega⟩)
                · rintro ⟨a1, a2, a3, a4, a5, a6⟩
                  first | exact absurd a1 hk1 | exact absurd (eq_ots a2) hk2 | (simp; omega) | omega, rfl, rfl, inferInstance, rfl⟩
            ·
              refine tl_skip rfl ?_
              refine tl_skip rfl ?_
              refine tl_skip rfl ?_
              refine tl_skip rfl ?_
              refine tl_skip rfl ?_
              refine tl_y rfl (y_pickF rfl rfl) ?_
              refine tl_y rfl (y_assign (v := .bool _) rfl) ?_
              refine tl_nil (.then_normal (.sub (F' := [(8, _)]) (.cons rfl .nil) (Jq2 _ _ _ _ ?_)))
              exact ⟨_, by
                constructor
                · intro ht
                  first | (cases ht; done) | (simp at ht; exact ⟨hk1, ots_eq hk2, by omega, by omega, by omega, by omega⟩)
                · rintro ⟨a1, a2, a3, a4, a5, a6⟩
                  first | exact absurd a1 hk1 | exact absurd (eq_ots a2) hk2 | (simp; omega) | omega, rfl, rfl, inferInstance, rfl⟩
          ·
            refine tl_skip rfl ?_
            refine tl_skip rfl ?_
            refine tl_skip rfl ?_
            refine tl_skip rfl ?_
            refine tl_y rfl (y_pickF rfl rfl) ?_
            refine tl_y rfl (y_move (v := .bool _) rfl) ?_
            refine tl_skip rfl ?_
            refine tl_skip rfl ?_
            refine tl_skip rfl ?_
            refine tl_skip rfl ?_
            refine tl_skip rfl ?_
            refine tl_y rfl (y_pickF rfl rfl) ?_
            refine tl_y rfl (y_assign (v := .bool _) rfl) ?_
            refine tl_nil (.then_normal (.sub (F' := [(8, _)]) (.cons rfl .nil) (Jq2 _ _ _ _ ?_)))
            exact ⟨_, by
              constructor
              · intro ht
                first | (cases ht; done) | (simp at ht; exact ⟨hk1, ots_eq hk2, by omega, by omega, by omega, by omega⟩)
              · rintro ⟨a1, a2, a3, a4, a5, a6⟩
                first | exact absurd a1 hk1 | exact absurd (eq_ots a2) hk2 | (simp; omega) | omega, rfl, rfl, inferInstance, rfl⟩
        ·
          refine tl_skip rfl ?_
          refine tl_skip rfl ?_
          refine tl_y rfl (y_pickF rfl rfl) ?_
          refine tl_y rfl (y_move (v := .bool _) rfl) ?_
          refine tl_skip rfl ?_
          refine tl_skip rfl ?_
          refine tl_skip rfl ?_
          refine tl_skip rfl ?_
          refine tl_y rfl (y_pickF rfl rfl) ?_
          refine tl_y rfl (y_move (v := .bool _) rfl) ?_
          refine tl_skip rfl ?_
          refine tl_skip rfl ?_
          refine tl_skip rfl ?_
          refine tl_skip rfl ?_
          refine tl_skip rfl ?_
          refine tl_y rfl (y_pickF rfl rfl) ?_
          refine tl_y rfl (y_assign (v := .bool _) rfl) ?_
          refine tl_nil (.then_normal (.sub (F' := [(8, _)]) (.cons rfl .nil) (Jq2 _ _ _ _ ?_)))
          exact ⟨_, by
            constructor
            · intro ht
              first | (cases ht; done) | (simp at ht; exact ⟨hk1, ots_eq hk2, by omega, by omega, by omega, by omega⟩)
            · rintro ⟨a1, a2, a3, a4, a5, a6⟩
              first | exact absurd a1 hk1 | exact absurd (eq_ots a2) hk2 | (simp; omega) | omega, rfl, rfl, inferInstance, rfl⟩
      ·
        refine tl_skip rfl ?_
        refine tl_skip rfl ?_
        refine tl_skip rfl ?_
        refine tl_y rfl (y_pickF rfl rfl) ?_
        refine tl_y rfl (y_move (v := .bool _) rfl) ?_
        refine tl_skip rfl ?_
        refine tl_skip rfl ?_
        refine tl_y rfl (y_pickF rfl rfl) ?_
        refine tl_y rfl (y_move (v := .bool _) rfl) ?_
        refine tl_skip rfl ?_
        refine tl_skip rfl ?_
        refine tl_skip rfl ?_
        refine tl_skip rfl ?_
        refine tl_y rfl (y_pickF rfl rfl) ?_
        refine tl_y rfl (y_move (v := .bool _) rfl) ?_
        refine tl_skip rfl ?_
        refine tl_skip rfl ?_
        refine tl_skip rfl ?_
        refine tl_skip rfl ?_
        refine tl_skip rfl ?_
        refine tl_y rfl (y_pickF rfl rfl) ?_
        refine tl_y rfl (y_assign (v := .bool _) rfl) ?_
        refine tl_nil (.then_normal (.sub (F' := [(8, _)]) (.cons rfl .nil) (Jq2 _ _ _ _ ?_)))
        exact ⟨_, by
          constructor
          · intro ht
            first | (cases ht; done) | (simp at ht; exact ⟨hk1, ots_eq hk2, by omega, by omega, by omega, by omega⟩)
          · rintro ⟨a1, a2, a3, a4, a5, a6⟩
            first | exact absurd a1 hk1 | exact absurd (eq_ots a2) hk2 | (simp; omega) | omega, rfl, rfl, inferInstance, rfl⟩
    ·
      refine tl_skip rfl ?_
      refine tl_skip rfl ?_
      refine tl_skip rfl ?_
      refine tl_y rfl (y_pickF rfl rfl) ?_
      refine tl_y rfl (y_move (v := .bool _) rfl) ?_
      refine tl_skip rfl ?_
      refine tl_skip rfl ?_
      refine tl_skip rfl ?_
      refine tl_y rfl (y_pickF rfl rfl) ?_
      refine tl_y rfl (y_move (v := .bool _) rfl) ?_
      refine tl_skip rfl ?_
      refine tl_skip rfl ?_
      refine tl_y rfl (y_pickF rfl rfl) ?_
      refine tl_y rfl (y_move (v := .bool _) rfl) ?_
      refine tl_skip rfl ?_
      refine tl_skip rfl ?_
      refine tl_skip rfl ?_
      refine tl_skip rfl ?_
      refine tl_y rfl (y_pickF rfl rfl) ?_
      refine tl_y rfl (y_move (v := .bool _) rfl) ?_
      refine tl_skip rfl ?_
      refine tl_skip rfl ?_
      refine tl_skip rfl ?_
      refine tl_skip rfl ?_
      refine tl_skip rfl ?_
      refine tl_y rfl (y_pickF rfl rfl) ?_
      refine tl_y rfl (y_assign (v := .bool _) rfl) ?_
      refine tl_nil (.then_normal (.sub (F' := [(8, _)]) (.cons rfl .nil) (Jq2 _ _ _ _ ?_)))
      exact ⟨_, by
        constructor
        · intro ht
          first | (cases ht; done) | (simp at ht; exact ⟨hk1, ots_eq hk2, by omega, by omega, by omega, by omega⟩)
        · rintro ⟨a1, a2, a3, a4, a5, a6⟩
          first | exact absurd a1 hk1 | exact absurd (eq_ots a2) hk2 | (simp; omega) | omega, rfl, rfl, inferInstance, rfl⟩
end
end Go.Proofs.YtiimjodbaogjbaaGreatDoor
set_option linter.unusedVariables false
set_option linter.unusedSimpArgs false
set_option linter.constructorNameAsVariable false
namespace Go.Proofs.YtiimjodbaogjbaaGreatDoor
open Go Go.Eng
theorem bytes3 (i j : Nat) (hi : i ≤ 65535) (hj : j ≤ 255) : [UInt8.ofInt ((i : Int) / 256), UInt8.ofInt ((i : Int) % 256), UInt8.ofInt (j : Int)] = putB i 2 ++ putB j 1 := by
  have e : ∀ v : Nat, UInt8.ofInt (v : Int) = UInt8.ofNat v := fun v => by
    apply UInt8.toNat_inj.1
    show (UInt8.ofNat ((v : Int) % 256).toNat).toNat = _
    rw [UInt8.toNat_ofNat', UInt8.toNat_ofNat']; omega
  rw [show (i : Int) / 256 = ((i / 256 : Nat) : Int) by omega, show (i : Int) % 256 = ((i % 256 : Nat) : Int) by omega, e, e, e]
  simp only [putB, List.nil_append, List.cons_append]
  rw [show i / 256 % 256 = i / 256 by omega, show j % 256 = j by omega]
section
variable {G : World} {M : Mem} {L : Own}
theorem RStep_spec9 (o : OtsV) {NA XA : Option Addr} {nl nc xl xc : Nat} {name x : List UInt8} (hname : Bytes M NA nl nc name) (hx : Bytes M XA xl xc x) (q : UInt32) (i j : Int) :
    Con Tryz.prog 200 #[.agg (List.toArray o.cells), .slice NA nl nc, .int .u32 (q.toNat : Int), .int .i64 i, .int .i64 j, .slice XA xl xc] G M L (fun v M' L' => L = L' ∧ ∃ A' m' c', v = .slice A' m' c' ∧ Bytes M' A' m' c' (cStep o name q.toNat i j x)) noPanic := by
  have hnls := hname.size
  have hxls := hx.size
  have hq := q.toNat_lt
  refine enter (args := [_, _, _, _, _, _]) (fn := Tryz.f200) ⟨Tryz.func200, rfl, by kernel_rfl, by kernel_rfl⟩ 48 rfl ?_
  refine x_seq (x_region ?_)
  refine tl_e rfl (e_box rfl (fun b1 => ?_))
  refine tl_y rfl (y_assign rfl) ?_
  refine tl_nil (.then_normal ?_)
  refine x_seq ?_
  refine x_join (I := fun F D M1 L1 => ∃ t : Bool, (t = true ↔ ¬ (okR o nl i xl ∧ 0 ≤ j ∧ j ≤ 255)) ∧ D = [] ∧ M = M1 ∧ (b1, .cells (List.toArray o.cells) 27 (0, 0)) :: L = L1 ∧ F = [(1, .slice NA nl nc), (2, .int .u32 (q.toNat : Int)), (3, .int .i64 i), (4, .int .i64 j), (5, .slice XA xl xc), (6, .pointer (some ⟨b1, 0, none⟩)), (26, .bool t)]) ?_ (fun Jq1 => ?_)
  ·
    rintro _ _ _ _ ⟨t, ht, rfl, rfl, rfl, rfl⟩  -- slots [1, 2, 3, 4, 5, 6, 26]
    refine x_condb rfl (fun hc1 => ?_) (fun hc1 => ?_)
    ·
      refine x_seq (x_region ?_)
      refine tl_y rfl (y_assign rfl) ?_
      refine tl_nil (.then_normal ?_)
      refine .sub (F' := [(12, _)]) (.cons rfl .nil) ?_
      refine x_ret (.then_ret (.dropTo L inferInstance (ret1 rfl rfl (Le.refl _) ⟨rfl, _, _, _, rfl, by rw [cStep, hnls, hxls, if_neg (ht.1 hc1)]; exact Row.nil _ _⟩)))
    ·
      have hok : okR o nl i xl ∧ 0 ≤ j ∧ j ≤ 255 := Classical.not_not.1 fun h => by rw [ht.2 h] at hc1; cases hc1
      obtain ⟨hoc, hop, w, hw, hww⟩ := okR_facts hok.1
      have hob : nl = 16 ∧ 0 ≤ i ∧ i < o.p ∧ (xl : Int) = o.n := hok.1.2.2
      have hon : o.n = 24 ∨ o.n = 32 := hoc.2
      obtain ⟨i', rfl⟩ : ∃ i' : Nat, i = i' := ⟨i.toNat, by omega⟩
      obtain ⟨j', rfl⟩ : ∃ j' : Nat, j = j' := ⟨j.toNat, by omega⟩
      have hb3 := bytes3 i' j' (by omega) (by omega)
      have hfl : [name, putB q.toNat 4, putB i' 2 ++ putB j' 1, x].flatten = stepT name q.toNat i' j' x := by simp [stepT]
      have hfll : (stepT name q.toNat i' j' x).length = nl + 7 + xl := by
        rw [stepT, List.length_append, List.length_append, List.length_append, List.length_append, putB_length, putB_length, putB_length]; omega
      refine x_skip (.then_normal ?_)
      refine x_seq ?_
      refine x_draw 22 hmix rfl ?_
      refine to_p 0 rfl (by kernel_rfl) rfl (y_fieldAddr rfl) ?_
      refine to_y 1 rfl (by kernel_rfl) rfl (y_load rfl rfl (.own inferInstance inferInstance)) ?_
      refine to_p 2 rfl (by kernel_rfl) rfl (y_fieldAddr rfl) ?_
      refine to_y 3 rfl (by kernel_rfl) rfl (y_load rfl rfl (.own inferInstance inferInstance)) ?_
      refine to_p 4 rfl (by kernel_rfl) rfl (y_move (v := .slice _ _ _) rfl) ?_
      refine to_p 5 rfl (by kernel_rfl) rfl (y_move (v := .int _ _) rfl) ?_
      refine to_p 6 rfl (by kernel_rfl) rfl (y_convN64 rfl (by omega)) ?_
      refine to_p 8 rfl (by kernel_rfl) rfl (y_move (v := .int _ _) rfl) ?_
      refine to_p 9 rfl (by kernel_rfl) rfl (y_quoI rfl rfl (by omega)) ?_
      refine to_p 10 rfl (by kernel_rfl) rfl (y_of8 rfl) ?_
      refine to_p 11 rfl (by kernel_rfl) rfl (y_move (v := .int _ _) rfl) ?_
      refine to_p 12 rfl (by kernel_rfl) rfl (y_remI rfl rfl (by omega)) ?_
      refine to_p 13 rfl (by kernel_rfl) rfl (y_of8 rfl) ?_
      refine to_p 14 rfl (by kernel_rfl) rfl (y_move (v := .int _ _) rfl) ?_
      refine to_p 15 rfl (by kernel_rfl) rfl (y_of8 rfl) ?_
      refine to_p 17 rfl (by kernel_rfl) rfl (y_move (v := .slice _ _ _) rfl) ?_
      refine to_two 7 16 (by kernel_rfl) ?_ ?_
      ·
        refine two_e 7 rfl rfl (e_call' rfl (RPutV_spec q.toNat 4 (by omega) (by omega)) ?_)
        rintro _ M1 _ hM1 ⟨rfl, A1, c1, rfl, hA1⟩
        refine ⟨⟨(by first | exact Le.refl _ | assumption), Keeps.mem⟩, ?_⟩
        refine to_e 16 rfl (by kernel_rfl) rfl (e_buildSlice rfl (by decide) (fun bb => ?_))
        refine ⟨⟨hM1, Keeps.mem⟩, ?_⟩
        refine .pub bb inferInstance (fun M2 hM2 hbb => ?_)
        have hB : Bytes M2 (some ⟨bb, 0, none⟩) 3 3 (putB i' 2 ++ putB j' 1) := by rw [← hb3]; exact Row.whole hbb rfl (by omega)
        have hm2 := hM1.trans hM2
        replace hA1 := hA1.mono hM2
        refine to_e 18 rfl (by kernel_rfl) rfl (e_buildSlice rfl (by decide) (fun bc => ?_))
        refine ⟨⟨hm2, Keeps.mem⟩, ?_⟩
        refine .pub bc inferInstance (fun M3 hM3 hbc => ?_)
        have hm3 := hm2.trans hM3
        refine to_e 19 rfl (by kernel_rfl) rfl (e_call' rfl (RCat_own (Row.whole hbc rfl (by omega)) (.cons (hname.mono hm3) (.cons (hA1.mono hM3) (.cons (hB.mono hM3) (.cons (hx.mono hm3) .nil)))) (by rw [hfl, hfll]; omega)) ?_)
        rintro _ _ _ _ ⟨rfl, A4, c4, E4, rfl, hE4, rfl⟩
        rw [hfl, hfll] at hE4
        rw [hfl, hfll]
        refine ⟨⟨hm3, Keeps.mem⟩, ?_⟩
        refine to_e 20 rfl (by kernel_rfl) rfl (e_call' rfl (RSum_spec o.kind o.n (hE4.in_ inferInstance (by omega)) (by omega)) ?_)
        rintro _ M5 _ hM5 ⟨rfl, A5, m5, c5, rfl, hA5⟩
        refine ⟨⟨hm3.trans hM5, Keeps.mem⟩, ?_⟩
        refine to_p 21 rfl (by kernel_rfl) rfl (y_assign (v := .slice _ _ _) rfl) ?_
        refine to_nil (by kernel_rfl) (.then_normal ?_)
        refine .sub (F' := [(12, _)]) (.cons rfl .nil) ?_
        refine x_ret (.dropTo L inferInstance (ret1 rfl rfl (hm3.trans hM5) ⟨rfl, _, _, _, rfl, by rw [cStep, hnls, hxls, if_pos hok]; rw [cSum, if_pos hoc] at hA5; exact hA5⟩))
      ·
        refine two_e 16 rfl rfl (e_buildSlice rfl (by decide) (fun bb => ?_))
        refine ⟨⟨Le.refl _, Keeps.mem⟩, ?_⟩
        refine .pub bb inferInstance (fun M2 hM2 hbb => ?_)
        have hB : Bytes M2 (some ⟨bb, 0, none⟩) 3 3 (putB i' 2 ++ putB j' 1) := by rw [← hb3]; exact Row.whole hbb rfl (by omega)
        refine to_e 7 rfl (by kernel_rfl) rfl (e_call' rfl (RPutV_spec q.toNat 4 (by omega) (by omega)) ?_)
        rintro _ M1 _ hM1 ⟨rfl, A1, c1, rfl, hA1⟩
        refine ⟨⟨hM2.trans hM1, Keeps.mem⟩, ?_⟩
        have hm2 := hM2.trans hM1
        replace hB := hB.mono hM1
        refine to_e 18 rfl (by kernel_rfl) rfl (e_buildSlice rfl (by decide) (fun bc => ?_))
        refine ⟨⟨hm2, Keeps.mem⟩, ?_⟩
        refine .pub bc inferInstance (fun M3 hM3 hbc => ?_)
        have hm3 := hm2.trans hM3
        refine to_e 19 rfl (by kernel_rfl) rfl (e_call' rfl (RCat_own (Row.whole hbc rfl (by omega)) (.cons (hname.mono hm3) (.cons (hA1.mono hM3) (.cons (hB.mono hM3) (.cons (hx.mono hm3) .nil)))) (by rw [hfl, hfll]; omega)) ?_)
        rintro _ _ _ _ ⟨rfl, A4, c4, E4, rfl, hE4, rfl⟩
        rw [hfl, hfll] at hE4
        rw [hfl, hfll]
        refine ⟨⟨hm3, Keeps.mem⟩, ?_⟩
        refine to_e 20 rfl (by kernel_rfl) rfl (e_call' rfl (RSum_spec o.kind o.n (hE4.in_ inferInstance (by omega)) (by omega)) ?_)
        rintro _ M5 _ hM5 ⟨rfl, A5, m5, c5, rfl, hA5⟩
        refine ⟨⟨hm3.trans hM5, Keeps.mem⟩, ?_⟩
        refine to_p 21 rfl (by kernel_rfl) rfl (y_assign (v := .slice _ _ _) rfl) ?_
        refine to_nil (by kernel_rfl) (.then_normal ?_)
        refine .sub (F' := [(12, _)]) (.cons rfl .nil) ?_
        refine x_ret (.dropTo L inferInstance (ret1 rfl rfl (hm3.trans hM5) ⟨rfl, _, _, _, rfl, by rw [cStep, hnls, hxls, if_pos hok]; rw [cSum, if_pos hoc] at hA5; exact hA5⟩))
  ·
    refine x_region ?_
    refine tl_y rfl (y_loadAgg rfl rfl (.own inferInstance inferInstance)) ?_
    refine tl_y rfl (y_move (v := .slice _ _ _) rfl) ?_
    refine tl_y rfl (y_move (v := .int _ _) rfl) ?_
    refine tl_y rfl (y_move (v := .slice _ _ _) rfl) ?_
    refine tl_e rfl (e_call' rfl (RRight_spec o i) ?_)
    rintro _ _ _ _ ⟨rfl, rfl, rfl⟩
    refine tl_y rfl (y_notd rfl) ?_
    refine tl_y rfl (y_move (v := .bool _) rfl) ?_
    refine tl_cases (s := 19) rfl (fun hk1 => ?_) (fun hk1 => ?_)
    ·
      refine tl_skip rfl ?_
      refine tl_skip rfl ?_
      refine tl_y rfl (y_pickT rfl rfl) ?_
      refine tl_y rfl (y_move (v := .bool _) rfl) ?_
      refine tl_skip rfl ?_
      refine tl_skip rfl ?_
      refine tl_y rfl (y_pickT rfl rfl) ?_
      refine tl_nil (.then_normal (.sub (F' := [(1, _), (2, _), (3, _), (4, _), (5, _), (6, _), (26, _)]) (.cons rfl (.cons rfl (.cons rfl (.cons rfl (.cons rfl (.cons rfl (.cons rfl .nil))))))) (Jq1 _ _ _ _ ?_)))
      exact ⟨_, by
        constructor
        · intro ht
          first | exact fun h => hk1 h.1 | (simp at ht; exact fun h => by omega)
        · intro hno
          first | rfl | (simp; exact Int.not_le.1 fun h => hno ⟨Classical.not_not.1 hk1, by omega, h⟩) | (simp; omega), rfl, rfl, rfl, rfl⟩
    ·
      refine tl_y rfl (y_move (v := .int _ _) rfl) ?_
      refine tl_y rfl (y_lss rfl rfl) ?_
      refine tl_y rfl (y_pickF rfl rfl) ?_
      refine tl_y rfl (y_move (v := .bool _) rfl) ?_
      refine tl_cases (s := 23) rfl (fun hk2 => ?_) (fun hk2 => ?_)
      ·
        refine tl_skip rfl ?_
        refine tl_skip rfl ?_
        refine tl_y rfl (y_pickT rfl rfl) ?_
        refine tl_nil (.then_normal (.sub (F' := [(1, _), (2, _), (3, _), (4, _), (5, _), (6, _), (26, _)]) (.cons rfl (.cons rfl (.cons rfl (.cons rfl (.cons rfl (.cons rfl (.cons rfl .nil))))))) (Jq1 _ _ _ _ ?_)))
        exact ⟨_, by
          constructor
          · intro ht
            first | exact fun h => hk1 h.1 | (simp at ht; exact fun h => by omega)
          · intro hno
            first | rfl | (simp; exact Int.not_le.1 fun h => hno ⟨Classical.not_not.1 hk1, by omega, h⟩) | (simp; omega), rfl, rfl, rfl, rfl⟩
      ·
        refine tl_y rfl (y_move (v := .int _ _) rfl) ?_
        refine tl_y rfl (y_gtr rfl rfl) ?_
        refine tl_y rfl (y_pickF rfl rfl) ?_
        refine tl_nil (.then_normal (.sub (F' := [(1, _), (2, _), (3, _), (4, _), (5, _), (6, _), (26, _)]) (.cons rfl (.cons rfl (.cons rfl (.cons rfl (.cons rfl (.cons rfl (.cons rfl .nil))))))) (Jq1 _ _ _ _ ?_)))
        exact ⟨_, by
          constructor
          · intro ht
            first | exact fun h => hk1 h.1 | (simp at ht; exact fun h => by omega)
          · intro hno
            first | rfl | (simp; exact Int.not_le.1 fun h => hno ⟨Classical.not_not.1 hk1, by omega, h⟩) | (simp; omega), rfl, rfl, rfl, rfl⟩
end
end Go.Proofs.YtiimjodbaogjbaaGreatDoor
set_option linter.unusedVariables false
set_option linter.unusedSimpArgs false
set_option linter.constructorNameAsVariable false
namespace Go.Proofs.YtiimjodbaogjbaaGreatDoor
open Go Go.Eng
section
variable {G : World} {M : Mem} {L : Own}
theorem okR_len {o : OtsV} {nl : Nat} {i : Int} {xl xl' : Nat} (h : okR o nl i xl) (hx : (xl' : Int) = o.n) : okR o nl i xl' := ⟨h.1, h.2.1, h.2.2.1, h.2.2.2.1, h.2.2.2.2.1, hx⟩
theorem upC_step {o : OtsV} {name : List UInt8} {q i f : Nat} {x : List UInt8} (hsha : ∀ t, (sha t).length = 32) (hok : okR o name.length (i : Int) x.length) {k : Nat} (hk : f + k ≤ 255) : cStep o name q (i : Int) ((f + k : Nat) : Int) (upC o name q i f x k) = upC o name q i f x (k + 1) := by
  have h1 := upC_length (okR_facts hok).1 hsha name q i f hok.2.2.2.2.2 k
  rw [cStep, if_pos ⟨okR_len hok h1, by omega, by omega⟩, upC, Int.toNat_natCast, Int.toNat_natCast]
theorem RUp_spec9 (hsha : ∀ t, (sha t).length = 32) (o : OtsV) {NA XA : Option Addr} {nl nc xl xc : Nat} {name x : List UInt8} (hname : Bytes M NA nl nc name) (hx : Bytes M XA xl xc x) (q : UInt32) (i f t : Int) :
    Con Tryz.prog 156 #[.agg (List.toArray o.cells), .slice NA nl nc, .int .u32 (q.toNat : Int), .int .i64 i, .int .i64 f, .int .i64 t, .slice XA xl xc] G M L (fun v M' L' => L = L' ∧ ∃ A' m' c', v = .slice A' m' c' ∧ Bytes M' A' m' c' (cUp o name q.toNat i f t x)) noPanic := by
  have hnls := hname.size
  have hxls := hx.size
  refine enter (args := [_, _, _, _, _, _, _]) (fn := Tryz.f156) ⟨Tryz.func156, rfl, by kernel_rfl, by kernel_rfl⟩ 67 rfl ?_
  refine x_seq (x_region ?_)
  refine tl_e rfl (e_box rfl (fun b1 => ?_))
  refine tl_y rfl (y_assign rfl) ?_
  refine tl_nil (.then_normal ?_)
  refine x_seq (x_region ?_)
  refine tl_y rfl (y_assign rfl) ?_
  refine tl_nil (.then_normal ?_)
  refine x_seq (x_seq (x_region ?_))
  refine tl_y rfl (y_assign rfl) ?_
  refine tl_nil (.then_normal ?_)
  refine x_block ?_
  refine x_loop (I := fun m' F D M2 L2 => ∃ k : Nat, m' = 10 - k ∧ k ≤ 10 ∧ (k = 0 ∨ (k : Int) ≤ o.w) ∧ D = [] ∧ M = M2 ∧ (b1, .cells (List.toArray o.cells) 27 (0, 0)) :: L = L2 ∧ F = [(1, .slice NA nl nc), (2, .int .u32 (q.toNat : Int)), (3, .int .i64 i), (4, .int .i64 f), (5, .int .i64 t), (6, .slice XA xl xc), (7, .pointer (some ⟨b1, 0, none⟩)), (15, .int .i64 (pw2 k : Nat)), (16, .int .i64 k)]) (10) (F0 := [(1, _), (2, _), (3, _), (4, _), (5, _), (6, _), (7, _), (15, _), (16, _)]) ?_ (.cons rfl (.cons rfl (.cons rfl (.cons rfl (.cons rfl (.cons rfl (.cons rfl (.cons rfl (.cons rfl .nil))))))))) ?_  -- slots [1, 2, 3, 4, 5, 6, 7, 15, 16], written [15, 16]
  · exact ⟨0, rfl, by omega, .inl rfl, rfl, rfl, rfl, rfl⟩
  rintro m _ _ _ _ ⟨k, rfl, hk, hkw, rfl, rfl, rfl, rfl⟩
  refine x_seq ?_
  refine x_join (I := fun F D M2 L2 => ∃ b : Bool, (b = true ↔ ((k : Int) < o.w ∧ k < 10)) ∧ D = [] ∧ M = M2 ∧ (b1, .cells (List.toArray o.cells) 27 (0, 0)) :: L = L2 ∧ F = [(1, .slice NA nl nc), (2, .int .u32 (q.toNat : Int)), (3, .int .i64 i), (4, .int .i64 f), (5, .int .i64 t), (6, .slice XA xl xc), (7, .pointer (some ⟨b1, 0, none⟩)), (15, .int .i64 (pw2 k : Nat)), (16, .int .i64 k), (25, .bool b)]) ?_ (fun Jq3 => ?_)
  ·
    rintro _ _ _ _ ⟨b, hb, rfl, rfl, rfl, rfl⟩  -- slots [1, 2, 3, 4, 5, 6, 7, 15, 16, 25]
    refine x_condb rfl (fun hc1 => ?_) (fun hc1 => ?_)
    ·
      have hlt := hb.1 hc1
      have hpk : pw2 k ≤ pw2 10 := pw2_le hk
      have hp10 : pw2 10 = 1024 := rfl
      refine x_skip (.then_normal ?_)
      refine x_seq ?_
      refine x_block ?_
      refine x_region ?_
      refine tl_y rfl (y_move (v := .int _ _) rfl) ?_
      refine tl_y rfl (y_mulI rfl rfl (by omega)) ?_
      rw [pw2_succ]
      refine tl_y rfl (y_assign (v := .int _ _) rfl) ?_
      refine tl_nil (.block_normal (.then_normal ?_))
      refine x_region ?_
      refine tl_y rfl (y_move (v := .int _ _) rfl) ?_
      refine tl_y rfl (y_addI rfl rfl (by omega)) ?_
      refine tl_y rfl (y_assign (v := .int _ _) rfl) ?_
      refine tl_nil (.loop_next (m' := 10 - (k + 1)) (by omega) (F' := [(1, _), (2, _), (3, _), (4, _), (5, _), (6, _), (7, _), (15, _), (16, _)]) (.cons rfl (.cons rfl (.cons rfl (.cons rfl (.cons rfl (.cons rfl (.cons rfl (.cons rfl (.cons rfl .nil))))))))) ?_)
      exact ⟨k + 1, rfl, by omega, .inr (by omega), rfl, rfl, rfl, rfl⟩
    ·
      have hnot : ¬ ((k : Int) < o.w ∧ k < 10) := fun h => by rw [hb.2 h] at hc1; cases hc1
      have hpk : pw2 k ≤ pw2 10 := pw2_le hk
      have hp10 : pw2 10 = 1024 := rfl
      have hwk : okR o nl i xl → o.w.toNat = k ∧ 0 ≤ o.w ∧ o.w ≤ 8 := fun h => by
        obtain ⟨hoc, hop, w, hw, hww⟩ := okR_facts h
        rcases hw with rfl | rfl | rfl | rfl <;> omega
      refine x_exit (.then_exit (.loop_exit (.block_exit (.then_normal ?_))))
      refine x_seq ?_
      refine x_join (I := fun F D M2 L2 => ∃ b : Bool, (b = true ↔ ¬ (okR o nl i xl ∧ 0 ≤ f ∧ f ≤ t ∧ t ≤ (pw2 k : Nat) - 1)) ∧ D = [] ∧ M = M2 ∧ (b1, .cells (List.toArray o.cells) 27 (0, 0)) :: L = L2 ∧ F = [(1, .slice NA nl nc), (2, .int .u32 (q.toNat : Int)), (3, .int .i64 i), (4, .int .i64 f), (5, .int .i64 t), (6, .slice XA xl xc), (7, .pointer (some ⟨b1, 0, none⟩)), (50, .bool b)]) ?_ (fun Jq6 => ?_)
      ·
        rintro _ _ _ _ ⟨b, hb2, rfl, rfl, rfl, rfl⟩  -- slots [1, 2, 3, 4, 5, 6, 7, 50]
        refine x_condb rfl (fun hc2 => ?_) (fun hc2 => ?_)
        ·
          refine x_seq (x_region ?_)
          refine tl_y rfl (y_assign rfl) ?_
          refine tl_nil (.then_normal ?_)
          refine .sub (F' := [(14, _)]) (.cons rfl .nil) ?_
          refine x_ret (.then_ret (.dropTo L inferInstance (ret1 rfl rfl (Le.refl _) ⟨rfl, _, _, _, rfl, by
            rw [cUp, hnls, hxls, if_neg (fun h => hb2.1 hc2 ⟨h.1, h.2.1, h.2.2.1, by have := h.2.2.2; rw [(hwk h.1).1] at this; exact this⟩)]
            exact Row.nil _ _⟩)))
        ·
          have hok' : okR o nl i xl ∧ 0 ≤ f ∧ f ≤ t ∧ t ≤ (pw2 k : Nat) - 1 := Classical.not_not.1 fun h => by rw [hb2.2 h] at hc2; cases hc2
          obtain ⟨hok, hf0, hft, htm⟩ := hok'
          obtain ⟨hoc, hop, w, hw, hww⟩ := okR_facts hok
          have hob : nl = 16 ∧ 0 ≤ i ∧ i < o.p ∧ (xl : Int) = o.n := hok.2.2
          have hon : o.n = 24 ∨ o.n = 32 := hoc.2
          have hkk := hwk hok
          have hpw := pw2_w hw
          obtain rfl : k = w := by omega
          obtain ⟨i', rfl⟩ : ∃ i' : Nat, i = i' := ⟨i.toNat, by omega⟩
          obtain ⟨f', rfl⟩ : ∃ f' : Nat, f = f' := ⟨f.toNat, by omega⟩
          obtain ⟨t', rfl⟩ : ∃ t' : Nat, t = t' := ⟨t.toNat, by omega⟩
          refine x_skip (.then_normal ?_)
          refine x_seq (x_seq (x_region ?_))
          refine tl_y rfl (y_move (v := .int _ _) rfl) ?_
          refine tl_y rfl (y_assign (v := .int _ _) rfl) ?_
          refine tl_nil (.then_normal ?_)
          refine x_block ?_
          refine x_loop (I := fun m' F D M4 L4 => ∃ (k : Nat) (A4 : Option Addr) (n4 c4 : Nat), m' = t' - f' - k ∧ k ≤ t' - f' ∧ Le M M4 ∧ Bytes M4 A4 n4 c4 (upC o name q.toNat i' f' x k) ∧ D = [] ∧ (b1, .cells (List.toArray o.cells) 27 (0, 0)) :: L = L4 ∧ F = [(1, .slice NA nl nc), (2, .int .u32 (q.toNat : Int)), (3, .int .i64 i'), (5, .int .i64 t'), (6, .slice A4 n4 c4), (7, .pointer (some ⟨b1, 0, none⟩)), (17, .int .i64 ((f' + k : Nat) : Int))]) (t' - f') (F0 := [(1, _), (2, _), (3, _), (5, _), (6, _), (7, _), (17, _)]) ?_ (.cons rfl (.cons rfl (.cons rfl (.cons rfl (.cons rfl (.cons rfl (.cons rfl .nil))))))) ?_  -- slots [1, 2, 3, 5, 6, 7, 17], written [6, 17]
          · exact ⟨0, XA, xl, xc, rfl, by omega, Le.refl _, hx, rfl, rfl, rfl⟩
          rintro m _ _ M4 _ ⟨j, A4, n4, c4, rfl, hj, hM4, hA4, rfl, rfl, rfl⟩
          refine x_seq (x_seq (x_region ?_))
          refine tl_y rfl (y_move (v := .int _ _) rfl) ?_
          refine tl_y rfl (y_move (v := .int _ _) rfl) ?_
          refine tl_y rfl (y_lss rfl rfl) ?_
          refine tl_nil (.then_normal ?_)
          refine x_cond rfl (fun hc3 => ?_) (fun hc3 => ?_)
          ·
            refine x_skip (.then_normal ?_)
            refine x_seq ?_
            refine x_block ?_
            refine x_region ?_
            refine tl_y rfl (y_loadAgg rfl rfl (.own inferInstance inferInstance)) ?_
            refine tl_y rfl (y_move (v := .slice _ _ _) rfl) ?_
            refine tl_y rfl (y_move (v := .int _ _) rfl) ?_
            refine tl_y rfl (y_move (v := .int _ _) rfl) ?_
            refine tl_y rfl (y_move (v := .int _ _) rfl) ?_
            refine tl_y rfl (y_move (v := .slice _ _ _) rfl) ?_
            refine tl_e rfl (e_call' rfl (RStep_spec9 o (hname.mono hM4) hA4 q (i' : Int) ((f' + j : Nat) : Int)) ?_)
            rintro _ M5 _ hM5 ⟨rfl, A5, m5, c5, rfl, hA5⟩
            rw [upC_step hsha (by rw [hnls, hxls]; exact hok) (by omega)] at hA5
            refine tl_y rfl (y_assign (v := .slice _ _ _) rfl) ?_
            refine tl_nil (.block_normal (.then_normal ?_))
            refine .sub (F' := [(1, _), (2, _), (3, _), (5, _), (6, _), (7, _), (17, _)]) (.cons rfl (.cons rfl (.cons rfl (.cons rfl (.cons rfl (.cons rfl (.cons rfl .nil))))))) ?_
            refine x_region ?_
            refine tl_y rfl (y_move (v := .int _ _) rfl) ?_
            refine tl_y rfl (y_addI rfl rfl (by omega)) ?_
            rw [show ((f' + j : Nat) : Int) + 1 = ((f' + (j + 1) : Nat) : Int) by omega]
            refine tl_y rfl (y_assign (v := .int _ _) rfl) ?_
            refine tl_nil (.loop_next (m' := t' - f' - (j + 1)) (by omega) (F' := [(1, _), (2, _), (3, _), (5, _), (6, _), (7, _), (17, _)]) (.cons rfl (.cons rfl (.cons rfl (.cons rfl (.cons rfl (.cons rfl (.cons rfl .nil))))))) ?_)
            exact ⟨j + 1, A5, m5, c5, rfl, by omega, hM4.trans hM5, hA5, rfl, rfl, rfl⟩
          ·
            obtain rfl : j = t' - f' := by omega
            have hA4l := hA4.size
            have hul := upC_length hoc hsha name q.toNat i' f' (by rw [hxls]; exact hob.2.2.2) (t' - f')
            refine x_exit (.then_exit (.loop_exit (.block_exit (.then_normal ?_))))
            refine .sub (F' := [(6, _)]) (.cons rfl .nil) ?_
            refine x_seq (x_region ?_)
            refine tl_e rfl (e_buildSlice0 (fun b2 => ?_))
            refine tl_y rfl (y_move (v := .slice _ _ _) rfl) ?_
            refine tl_e rfl (e_append1 (by decide) rfl rfl OwnRow.made00 (.row hA4) (all_one_bv _) (by omega) (by omega) (fun A6 c6 E6 hE6 => ?_))
            rw [Nat.zero_add, List.nil_append] at hE6; rw [Nat.zero_add]
            refine tl_y rfl (y_assign (v := .slice _ _ _) rfl) ?_
            refine tl_nil (.then_normal ?_)
            refine .sub (F' := [(14, _)]) (.cons rfl .nil) ?_
            refine x_ret (.pubRow hE6 fun M7 hM7 hr => .dropTo L inferInstance (ret1 rfl rfl (hM4.trans hM7) ⟨rfl, _, _, _, rfl, ?_⟩))
            rw [cUp, hnls, hxls, if_pos ⟨hok, hf0, hft, by rw [hkk.1]; exact htm⟩, Int.toNat_natCast, Int.toNat_natCast, show ((t' : Int) - (f' : Int)).toNat = t' - f' by omega]
            exact hr
      ·
        refine x_region ?_
        refine tl_y rfl (y_loadAgg rfl rfl (.own inferInstance inferInstance)) ?_
        refine tl_y rfl (y_move (v := .slice _ _ _) rfl) ?_
        refine tl_y rfl (y_move (v := .int _ _) rfl) ?_
        refine tl_y rfl (y_move (v := .slice _ _ _) rfl) ?_
        refine tl_e rfl (e_call' rfl (RRight_spec o i) ?_)
        rintro _ _ _ _ ⟨rfl, rfl, rfl⟩
        refine tl_y rfl (y_notd rfl) ?_
        refine tl_y rfl (y_move (v := .bool _) rfl) ?_
        refine tl_cases (s := 36) rfl (fun hk1 => ?_) (fun hk1 => ?_)
        ·
          refine tl_skip rfl ?_
          refine tl_skip rfl ?_
          refine tl_y rfl (y_pickT rfl rfl) ?_
          refine tl_y rfl (y_move (v := .bool _) rfl) ?_
          refine tl_skip rfl ?_
          refine tl_skip rfl ?_
          refine tl_skip rfl ?_
          refine tl_y rfl (y_pickT rfl rfl) ?_
          refine tl_y rfl (y_move (v := .bool _) rfl) ?_
          refine tl_skip rfl ?_
          refine tl_skip rfl ?_
          refine tl_skip rfl ?_
          refine tl_skip rfl ?_
          refine tl_y rfl (y_pickT rfl rfl) ?_
          refine tl_nil (.then_normal (.sub (F' := [(1, _), (2, _), (3, _), (4, _), (5, _), (6, _), (7, _), (50, _)]) (.cons rfl (.cons rfl (.cons rfl (.cons rfl (.cons rfl (.cons rfl (.cons rfl (.cons rfl .nil)))))))) (Jq6 _ _ _ _ ?_)))
          exact ⟨_, by
            constructor
            · intro ht
              first | exact fun h => hk1 h.1 | (simp at ht; exact fun h => by omega) | exact fun h => by omega
            · intro hno
              first | rfl | (simp; exact Int.not_le.1 fun h => hno ⟨Classical.not_not.1 hk1, by omega, by omega, by omega⟩) | (simp; omega), rfl, rfl, rfl, rfl⟩
        ·
          refine tl_y rfl (y_move (v := .int _ _) rfl) ?_
          refine tl_y rfl (y_lss rfl rfl) ?_
          refine tl_y rfl (y_pickF rfl rfl) ?_
          refine tl_y rfl (y_move (v := .bool _) rfl) ?_
          refine tl_cases (s := 40) rfl (fun hk2 => ?_) (fun hk2 => ?_)
          ·
            refine tl_skip rfl ?_
            refine tl_skip rfl ?_
            refine tl_skip rfl ?_
            refine tl_y rfl (y_pickT rfl rfl) ?_
            refine tl_y rfl (y_move (v := .bool _) rfl) ?_
            refine tl_skip rfl ?_
            refine tl_skip rfl ?_
            refine tl_skip rfl ?_
            refine tl_skip rfl ?_
            refine tl_y rfl (y_pickT rfl rfl) ?_
            refine tl_nil (.then_normal (.sub (F' := [(1, _), (2, _), (3, _), (4, _), (5, _), (6, _), (7, _), (50, _)]) (.cons rfl (.cons rfl (.cons rfl (.cons rfl (.cons rfl (.cons rfl (.cons rfl (.cons rfl .nil)))))))) (Jq6 _ _ _ _ ?_)))
            exact ⟨_, by
              constructor
              · intro ht
                first | exact fun h => hk1 h.1 | (simp at ht; exact fun h => by omega) | exact fun h => by omega
              · intro hno
                first | rfl | (simp; exact Int.not_le.1 fun h => hno ⟨Classical.not_not.1 hk1, by omega, by omega, by omega⟩) | (simp; omega), rfl, rfl, rfl, rfl⟩
          ·
            refine tl_y rfl (y_move (v := .int _ _) rfl) ?_
            refine tl_y rfl (y_move (v := .int _ _) rfl) ?_
            refine tl_y rfl (y_gtr rfl rfl) ?_
            refine tl_y rfl (y_pickF rfl rfl) ?_
            refine tl_y rfl (y_move (v := .bool _) rfl) ?_
            refine tl_cases (s := 45) rfl (fun hk3 => ?_) (fun hk3 => ?_)
            ·
              refine tl_skip rfl ?_
              refine tl_skip rfl ?_
              refine tl_skip rfl ?_
              refine tl_skip rfl ?_
              refine tl_y rfl (y_pickT rfl rfl) ?_
              refine tl_nil (.then_normal (.sub (F' := [(1, _), (2, _), (3, _), (4, _), (5, _), (6, _), (7, _), (50, _)]) (.cons rfl (.cons rfl (.cons rfl (.cons rfl (.cons rfl (.cons rfl (.cons rfl (.cons rfl .nil)))))))) (Jq6 _ _ _ _ ?_)))
              exact ⟨_, by
                constructor
                · intro ht
                  first | exact fun h => hk1 h.1 | (simp at ht; exact fun h => by omega) | exact fun h => by omega
                · intro hno
                  first | rfl | (simp; exact Int.not_le.1 fun h => hno ⟨Classical.not_not.1 hk1, by omega, by omega, by omega⟩) | (simp; omega), rfl, rfl, rfl, rfl⟩
            ·
              refine tl_y rfl (y_move (v := .int _ _) rfl) ?_
              refine tl_y rfl (y_move (v := .int _ _) rfl) ?_
              refine tl_y rfl (y_subI rfl rfl (by omega)) ?_
              refine tl_y rfl (y_gtr rfl rfl) ?_
              refine tl_y rfl (y_pickF rfl rfl) ?_
              refine tl_nil (.then_normal (.sub (F' := [(1, _), (2, _), (3, _), (4, _), (5, _), (6, _), (7, _), (50, _)]) (.cons rfl (.cons rfl (.cons rfl (.cons rfl (.cons rfl (.cons rfl (.cons rfl (.cons rfl .nil)))))))) (Jq6 _ _ _ _ ?_)))
              exact ⟨_, by
                constructor
                · intro ht
                  first | exact fun h => hk1 h.1 | (simp at ht; exact fun h => by omega) | exact fun h => by omega
                · intro hno
                  first | rfl | (simp; exact Int.not_le.1 fun h => hno ⟨Classical.not_not.1 hk1, by omega, by omega, by omega⟩) | (simp; omega), rfl, rfl, rfl, rfl⟩
  ·
    refine x_region ?_
    refine tl_y rfl (y_move (v := .int _ _) rfl) ?_
    refine tl_y rfl (y_fieldAddr rfl) ?_
    refine tl_y rfl (y_load rfl rfl (.own inferInstance inferInstance)) ?_
    refine tl_y rfl (y_lss rfl rfl) ?_
    refine tl_y rfl (y_move (v := .bool _) rfl) ?_
    refine tl_cases (s := 22) rfl (fun hk4 => ?_) (fun hk4 => ?_)
    ·
      refine tl_y rfl (y_move (v := .int _ _) rfl) ?_
      refine tl_y rfl (y_lss rfl rfl) ?_
      refine tl_y rfl (y_pickT rfl rfl) ?_
      refine tl_nil (.then_normal (.sub (F' := [(1, _), (2, _), (3, _), (4, _), (5, _), (6, _), (7, _), (15, _), (16, _), (25, _)]) (.cons rfl (.cons rfl (.cons rfl (.cons rfl (.cons rfl (.cons rfl (.cons rfl (.cons rfl (.cons rfl (.cons rfl .nil)))))))))) (Jq3 _ _ _ _ ?_)))
      exact ⟨_, by first | (simp; done) | (simp; omega) | omega, rfl, rfl, rfl, rfl⟩
    ·
      refine tl_skip rfl ?_
      refine tl_skip rfl ?_
      refine tl_y rfl (y_pickF rfl rfl) ?_
      refine tl_nil (.then_normal (.sub (F' := [(1, _), (2, _), (3, _), (4, _), (5, _), (6, _), (7, _), (15, _), (16, _), (25, _)]) (.cons rfl (.cons rfl (.cons rfl (.cons rfl (.cons rfl (.cons rfl (.cons rfl (.cons rfl (.cons rfl (.cons rfl .nil)))))))))) (Jq3 _ _ _ _ ?_)))
      exact ⟨_, by first | (simp; done) | (simp; omega) | omega, rfl, rfl, rfl, rfl⟩
end
end Go.Proofs.YtiimjodbaogjbaaGreatDoor
