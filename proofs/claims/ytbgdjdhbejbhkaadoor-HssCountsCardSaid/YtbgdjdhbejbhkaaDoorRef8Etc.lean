/-
Contracts of functions, each proved by a walk through its code.
-/
import Derived.Test.YtbgdjdhbejbhkaaDoorBaseEtc
import Derived.Test.YtbgdjdhbejbhkaaDoorEngWEtc
set_option linter.unusedVariables false
set_option linter.unusedSimpArgs false
set_option linter.constructorNameAsVariable false
namespace Go.Proofs.YtbgdjdhbejbhkaaDoor
open Go Go.Eng
def shR (n w j : Nat) : Nat := shX n w / (2 ^ w) ^ j
theorem shR_succ (n w j : Nat) : ((shR n w j : Nat) : Int) / ((pw2 w : Nat) : Int) = ((shR n w (j + 1) : Nat) : Int) := by
  rw [shR, shR, pw2, Nat.pow_succ (2 ^ w), ← Nat.div_div_eq_div_mul]; simp
theorem shR_zero (n w : Nat) : shR n w 0 = shX n w := by rw [shR, Nat.pow_zero, Nat.div_one]
theorem shR_le (n w j : Nat) : shR n w j ≤ shX n w := Nat.div_le_self _ _
section
variable {G : World} {M : Mem} {L : Own}
theorem RdMay_spec {w : Nat} (hw : isW w) :
    Con Tryd.prog 155 #[.int .i64 (w : Int)] G M L (fun v M' L' => M = M' ∧ L = L' ∧ v = .bool true) noPanic := by
  refine enter (args := [_]) (fn := Tryd.f155) ⟨Tryd.func155, rfl, by kernel_rfl, by kernel_rfl⟩ 17 rfl ?_
  refine x_seq (x_region ?_)
  refine tl_y rfl (y_assign rfl) ?_
  refine tl_nil (.then_normal ?_)
  refine x_seq (x_region ?_)
  refine tl_y rfl (y_move (v := .int _ _) rfl) ?_
  refine tl_y rfl (y_eql rfl rfl) ?_
  refine tl_y rfl (y_move (v := .bool _) rfl) ?_
  refine tl_cases (s := 5) rfl (fun hk1 => ?_) (fun hk1 => ?_)
  ·
    refine tl_skip rfl ?_
    refine tl_skip rfl ?_
    refine tl_y rfl (y_pickT rfl rfl) ?_
    refine tl_y rfl (y_move (v := .bool _) rfl) ?_
    refine tl_skip rfl ?_
    refine tl_skip rfl ?_
    refine tl_y rfl (y_pickT rfl rfl) ?_
    refine tl_y rfl (y_move (v := .bool _) rfl) ?_
    refine tl_skip rfl ?_
    refine tl_skip rfl ?_
    refine tl_y rfl (y_pickT rfl rfl) ?_
    refine tl_y rfl (y_assign (v := .bool _) rfl) ?_
    refine tl_nil (.then_normal ?_)
    refine .sub (F' := [(2, _)]) (.cons rfl .nil) ?_
    refine x_ret (ret1 rfl rfl (Le.refl _) ⟨rfl, rfl, rfl⟩)
  ·
    refine tl_y rfl (y_move (v := .int _ _) rfl) ?_
    refine tl_y rfl (y_eql rfl rfl) ?_
    refine tl_y rfl (y_pickF rfl rfl) ?_
    refine tl_y rfl (y_move (v := .bool _) rfl) ?_
    refine tl_cases (s := 9) rfl (fun hk2 => ?_) (fun hk2 => ?_)
    ·
      refine tl_skip rfl ?_
      refine tl_skip rfl ?_
      refine tl_y rfl (y_pickT rfl rfl) ?_
      refine tl_y rfl (y_move (v := .bool _) rfl) ?_
      refine tl_skip rfl ?_
      refine tl_skip rfl ?_
      refine tl_y rfl (y_pickT rfl rfl) ?_
      refine tl_y rfl (y_assign (v := .bool _) rfl) ?_
      refine tl_nil (.then_normal ?_)
      refine .sub (F' := [(2, _)]) (.cons rfl .nil) ?_
      refine x_ret (ret1 rfl rfl (Le.refl _) ⟨rfl, rfl, rfl⟩)
    ·
      refine tl_y rfl (y_move (v := .int _ _) rfl) ?_
      refine tl_y rfl (y_eql rfl rfl) ?_
      refine tl_y rfl (y_pickF rfl rfl) ?_
      refine tl_y rfl (y_move (v := .bool _) rfl) ?_
      refine tl_cases (s := 13) rfl (fun hk3 => ?_) (fun hk3 => ?_)
      ·
        refine tl_skip rfl ?_
        refine tl_skip rfl ?_
        refine tl_y rfl (y_pickT rfl rfl) ?_
        refine tl_y rfl (y_assign (v := .bool _) rfl) ?_
        refine tl_nil (.then_normal ?_)
        refine .sub (F' := [(2, _)]) (.cons rfl .nil) ?_
        refine x_ret (ret1 rfl rfl (Le.refl _) ⟨rfl, rfl, rfl⟩)
      ·
        refine tl_y rfl (y_move (v := .int _ _) rfl) ?_
        refine tl_y rfl (y_eql rfl rfl) ?_
        refine tl_y rfl (y_pickF rfl rfl) ?_
        refine tl_y rfl (y_assign (v := .bool _) rfl) ?_
        refine tl_nil (.then_normal ?_)
        refine .sub (F' := [(2, _)]) (.cons rfl .nil) ?_
        refine x_ret (ret1 rfl rfl (Le.refl _) ⟨rfl, rfl, by
          rcases hw with rfl | rfl | rfl | rfl
          · exact absurd rfl hk1
          · exact absurd rfl hk2
          · exact absurd rfl hk3
          · rfl⟩)
theorem RShape_spec {n w : Nat} (hn : isN n) (hw : isW w) :
    Con Tryd.prog 131 #[.int .i64 (n : Int), .int .i64 (w : Int)] G M L (fun v M' L' => M = M' ∧ L = L' ∧ v = .tuple #[.int .i64 (shU n w : Nat), .int .i64 (shV n w : Nat), .int .i64 (shS n w : Nat)]) noPanic := by
  have hfact := shape_fact hn hw
  have hnb : 24 ≤ n ∧ n ≤ 32 := by rcases hn with rfl | rfl <;> omega
  have hlp : ∀ k, k ≤ shV n w → (0 < shR n w k ↔ k < shV n w) := fun k hk => shape_loop hn hw ⟨k, by omega⟩ hk
  change _ ∧ _ ∧ _ ∧ _ ∧ _ ∧ _ ∧ _ ∧ _ ∧ pw2 w ≤ 256 ∧ 2 ≤ pw2 w at hfact
  obtain ⟨h1, h2, h3, h4, h5, h6, h7, h8, h9, h10⟩ := hfact
  have hu : (8 * (n : Int)) / (w : Int) = ((shU n w : Nat) : Int) := by rw [shU]; simp
  have hx : (((pw2 w : Nat) : Int) - 1) * ((shU n w : Nat) : Int) = ((shX n w : Nat) : Int) := by
    rw [show ((pw2 w : Nat) : Int) - 1 = ((pw2 w - 1 : Nat) : Int) by omega, shX, pw2]; simp
  have hs : ((shV n w : Nat) : Int) * (w : Int) = ((shV n w * w : Nat) : Int) := by simp
  refine enter (args := [_, _]) (fn := Tryd.f131) ⟨Tryd.func131, rfl, by kernel_rfl, by kernel_rfl⟩ 51 rfl ?_
  refine x_seq (x_region ?_)
  refine tl_y rfl (y_assign rfl) ?_
  refine tl_y rfl (y_assign rfl) ?_
  refine tl_y rfl (y_assign rfl) ?_
  refine tl_nil (.then_normal ?_)
  refine x_seq (x_seq (x_region ?_))
  refine tl_y rfl (y_move (v := .int _ _) rfl) ?_
  refine tl_y rfl (y_lss rfl rfl) ?_
  refine tl_y rfl (y_move (v := .bool _) rfl) ?_
  refine tl_set (s := 14) (u := .bool false) rfl (by rw [decide_eq_false]; omega) ?_
  refine tl_y rfl (y_move (v := .int _ _) rfl) ?_
  refine tl_y rfl (y_gtr rfl rfl) ?_
  refine tl_y rfl (y_pickF rfl rfl) ?_
  refine tl_y rfl (y_move (v := .bool _) rfl) ?_
  refine tl_set (s := 18) (u := .bool false) rfl (by rw [decide_eq_false]; omega) ?_
  refine tl_y rfl (y_move (v := .int _ _) rfl) ?_
  refine tl_e rfl (e_call' rfl (RdMay_spec hw) ?_)
  rintro _ _ _ _ ⟨rfl, rfl, rfl⟩
  refine tl_y rfl (y_not rfl) ?_
  refine tl_y rfl (y_pickF rfl rfl) ?_
  refine tl_nil (.then_normal ?_)
  refine .sub (F' := [(0, _), (1, _), (22, _)]) (.cons rfl (.cons rfl (.cons rfl .nil))) ?_
  refine x_false rfl (rfl) ?_
  refine x_skip (.then_normal ?_)
  refine x_seq (x_region ?_)
  refine tl_y rfl (y_assign rfl) ?_
  refine tl_nil (.then_normal ?_)
  refine x_seq (x_seq (x_region ?_))
  refine tl_y rfl (y_assign rfl) ?_
  refine tl_nil (.then_normal ?_)
  refine x_block ?_
  refine x_loop (I := fun m' F D M2 L1 => ∃ k : Nat, m' = w - k ∧ k ≤ w ∧ D = [] ∧ M = M2 ∧ L = L1 ∧ F = [(0, .int .i64 n), (1, .int .i64 w), (7, .int .i64 (pw2 k : Nat)), (8, .int .i64 k)]) (w) (F0 := [(0, _), (1, _), (7, _), (8, _)]) ?_ (.cons rfl (.cons rfl (.cons rfl (.cons rfl .nil)))) ?_  -- slots [0, 1, 7, 8], written [7, 8]
  · exact ⟨0, rfl, by omega, rfl, rfl, rfl, rfl⟩
  rintro m _ _ M2 L1 ⟨k, rfl, hk, rfl, rfl, rfl, rfl⟩
  refine x_seq (x_seq (x_region ?_))
  refine tl_y rfl (y_move (v := .int _ _) rfl) ?_
  refine tl_y rfl (y_move (v := .int _ _) rfl) ?_
  refine tl_y rfl (y_lss rfl rfl) ?_
  refine tl_nil (.then_normal ?_)
  refine x_cond rfl (fun hc2 => ?_) (fun hc2 => ?_)
  ·
    have hp := pw2_le hk
    refine x_skip (.then_normal ?_)
    refine x_seq ?_
    refine x_block ?_
    refine x_region ?_
    refine tl_y rfl (y_move (v := .int _ _) rfl) ?_
    refine tl_y rfl (y_mulI rfl rfl (by omega)) ?_
    rw [pw2_succ]
    refine tl_y rfl (y_assign (v := .int _ _) rfl) ?_
    refine tl_nil (.block_normal (.then_normal ?_))
    refine .sub (F' := [(0, _), (1, _), (7, _), (8, _)]) (.cons rfl (.cons rfl (.cons rfl (.cons rfl .nil)))) ?_
    refine x_region ?_
    refine tl_y rfl (y_move (v := .int _ _) rfl) ?_
    refine tl_y rfl (y_addI rfl rfl (by omega)) ?_
    refine tl_y rfl (y_assign (v := .int _ _) rfl) ?_
    refine tl_nil (.loop_next (m' := w - (k + 1)) (by omega) (F' := [(0, _), (1, _), (7, _), (8, _)]) (.cons rfl (.cons rfl (.cons rfl (.cons rfl .nil)))) ?_)
    exact ⟨k + 1, rfl, by omega, rfl, rfl, rfl, rfl⟩
  ·
    obtain rfl : k = w := by omega
    refine x_exit (.then_exit (.loop_exit (.block_exit (.then_normal ?_))))
    refine .sub (F' := [(0, _), (1, _), (7, _)]) (.cons rfl (.cons rfl (.cons rfl .nil))) ?_
    refine x_seq (x_region ?_)
    refine tl_y rfl (y_move (v := .int _ _) rfl) ?_
    refine tl_y rfl (y_mulI rfl rfl (by omega)) ?_
    refine tl_y rfl (y_move (v := .int _ _) rfl) ?_
    refine tl_y rfl (y_quoI rfl rfl (by omega)) ?_
    rw [hu]
    refine tl_y rfl (y_assign (v := .int _ _) rfl) ?_
    refine tl_nil (.then_normal ?_)
    refine .sub (F' := [(1, _), (7, _), (9, _)]) (.cons rfl (.cons rfl (.cons rfl .nil))) ?_
    refine x_seq (x_region ?_)
    refine tl_y rfl (y_assign rfl) ?_
    refine tl_nil (.then_normal ?_)
    refine x_seq (x_seq (x_region ?_))
    refine tl_y rfl (y_move (v := .int _ _) rfl) ?_
    refine tl_y rfl (y_subI rfl rfl (by omega)) ?_
    refine tl_y rfl (y_move (v := .int _ _) rfl) ?_
    refine tl_y rfl (y_mulI rfl rfl (by rw [hx]; omega)) ?_
    rw [hx]
    refine tl_y rfl (y_assign (v := .int _ _) rfl) ?_
    refine tl_nil (.then_normal ?_)
    refine .sub (F' := [(1, _), (7, _), (9, _), (10, _), (11, _)]) (.cons rfl (.cons rfl (.cons rfl (.cons rfl (.cons rfl .nil))))) ?_
    refine x_block ?_
    refine x_loop (I := fun m' F D M2 L1 => ∃ j : Nat, m' = shV n k - j ∧ j ≤ shV n k ∧ D = [] ∧ M = M2 ∧ L = L1 ∧ F = [(1, .int .i64 k), (7, .int .i64 (pw2 k : Nat)), (9, .int .i64 (shU n k : Nat)), (10, .int .i64 j), (11, .int .i64 (shR n k j : Nat))]) (shV n k) (F0 := [(1, _), (7, _), (9, _), (10, _), (11, _)]) ?_ (.cons rfl (.cons rfl (.cons rfl (.cons rfl (.cons rfl .nil))))) ?_  -- slots [1, 7, 9, 10, 11], written [10, 11]
    · exact ⟨0, rfl, by omega, rfl, rfl, rfl, by rw [shR_zero]; rfl⟩
    rintro m _ _ M2 L1 ⟨j, rfl, hj, rfl, rfl, rfl, rfl⟩
    refine x_seq (x_seq (x_region ?_))
    refine tl_y rfl (y_move (v := .int _ _) rfl) ?_
    refine tl_y rfl (y_gtr rfl rfl) ?_
    refine tl_nil (.then_normal ?_)
    refine x_cond rfl (fun hc3 => ?_) (fun hc3 => ?_)
    ·
      have hjv : j < shV n k := (hlp j hj).1 (by omega)
      have hdl := shR_le n k j
      refine x_skip (.then_normal ?_)
      refine x_seq ?_
      refine x_block ?_
      refine x_region ?_
      refine tl_y rfl (y_move (v := .int _ _) rfl) ?_
      refine tl_y rfl (y_addI rfl rfl (by omega)) ?_
      refine tl_y rfl (y_assign (v := .int _ _) rfl) ?_
      refine tl_nil (.block_normal (.then_normal ?_))
      refine .sub (F' := [(1, _), (7, _), (9, _), (10, _), (11, _)]) (.cons rfl (.cons rfl (.cons rfl (.cons rfl (.cons rfl .nil))))) ?_
      refine x_region ?_
      refine tl_y rfl (y_move (v := .int _ _) rfl) ?_
      refine tl_y rfl (y_move (v := .int _ _) rfl) ?_
      refine tl_y rfl (y_quoI rfl rfl (by omega)) ?_
      rw [shR_succ]
      refine tl_y rfl (y_assign (v := .int _ _) rfl) ?_
      refine tl_nil (.loop_next (m' := shV n k - (j + 1)) (by omega) (F' := [(1, _), (7, _), (9, _), (10, _), (11, _)]) (.cons rfl (.cons rfl (.cons rfl (.cons rfl (.cons rfl .nil))))) ?_)
      exact ⟨j + 1, rfl, by omega, rfl, rfl, rfl, rfl⟩
    ·
      have hjv : ¬ j < shV n k := fun h => hc3 (by have := (hlp j hj).2 h; omega)
      obtain rfl : j = shV n k := by omega
      refine x_exit (.then_exit (.loop_exit (.block_exit (.then_normal ?_))))
      refine .sub (F' := [(1, _), (9, _), (10, _)]) (.cons rfl (.cons rfl (.cons rfl .nil))) ?_
      refine x_seq (x_region ?_)
      refine tl_y rfl (y_move (v := .int _ _) rfl) ?_
      refine tl_y rfl (y_move (v := .int _ _) rfl) ?_
      refine tl_y rfl (y_move (v := .int _ _) rfl) ?_
      refine tl_y rfl (y_move (v := .int _ _) rfl) ?_
      refine tl_y rfl (y_mulI rfl rfl (by rw [hs]; omega)) ?_
      rw [hs]
      refine tl_y rfl (y_subI rfl rfl (by omega)) ?_
      rw [show (16 : Int) - ((shV n k * k : Nat) : Int) = ((shS n k : Nat) : Int) by rw [shS]; omega]
      refine tl_y rfl (y_assign (v := .int _ _) rfl) ?_
      refine tl_y rfl (y_assign (v := .int _ _) rfl) ?_
      refine tl_y rfl (y_assign (v := .int _ _) rfl) ?_
      refine tl_nil (.then_normal ?_)
      refine .sub (F' := [(4, _), (5, _), (6, _)]) (.cons rfl (.cons rfl (.cons rfl .nil))) ?_
      refine x_ret (ret3 rfl rfl rfl rfl (Le.refl _) ⟨rfl, rfl, rfl⟩)
theorem Rsize_spec (i : Nat) (hi : i ≤ 1000) :
    Con Tryd.prog 130 #[.int .i64 (i : Int)] G M L (fun v M' L' => M = M' ∧ L = L' ∧ v = .tuple #[.int .i64 ((i / 2 : Nat) : Int), .int .i64 ((szN i : Nat) : Int)]) noPanic := by
  refine enter (args := [_]) (fn := Tryd.f130) ⟨Tryd.func130, rfl, by kernel_rfl, by kernel_rfl⟩ 11 rfl ?_
  refine x_seq (x_region ?_)
  refine tl_y rfl (y_assign rfl) ?_
  refine tl_y rfl (y_assign rfl) ?_
  refine tl_nil (.then_normal ?_)
  refine x_seq (x_region ?_)
  refine tl_y rfl (y_assign rfl) ?_
  refine tl_nil (.then_normal ?_)
  refine x_seq (x_seq (x_region ?_))
  refine tl_y rfl (y_move (v := .int _ _) rfl) ?_
  refine tl_y rfl (y_remI rfl rfl (by omega)) ?_
  refine tl_y rfl (y_eql rfl rfl) ?_
  refine tl_nil (.then_normal ?_)
  refine .sub (F' := [(0, _), (4, _), (7, _)]) (.cons rfl (.cons rfl (.cons rfl .nil))) ?_
  refine x_cond rfl (fun hc1 => ?_) (fun hc1 => ?_)
  ·
    refine x_region ?_
    refine tl_y rfl (y_assign rfl) ?_
    refine tl_nil (.then_normal ?_)
    refine x_seq (x_region ?_)
    refine tl_y rfl (y_move (v := .int _ _) rfl) ?_
    refine tl_y rfl (y_quoI rfl rfl (by omega)) ?_
    refine tl_y rfl (y_move (v := .int _ _) rfl) ?_
    refine tl_y rfl (y_assign (v := .int _ _) rfl) ?_
    refine tl_y rfl (y_assign (v := .int _ _) rfl) ?_
    refine tl_nil (.then_normal ?_)
    refine .sub (F' := [(2, _), (3, _)]) (.cons rfl (.cons rfl .nil)) ?_
    refine x_ret (ret2 rfl rfl rfl (Le.refl _) ⟨rfl, rfl, by rw [szN, if_pos (by omega)]; rfl⟩)
  ·
    refine x_skip (.then_normal ?_)
    refine x_seq (x_region ?_)
    refine tl_y rfl (y_move (v := .int _ _) rfl) ?_
    refine tl_y rfl (y_quoI rfl rfl (by omega)) ?_
    refine tl_y rfl (y_move (v := .int _ _) rfl) ?_
    refine tl_y rfl (y_assign (v := .int _ _) rfl) ?_
    refine tl_y rfl (y_assign (v := .int _ _) rfl) ?_
    refine tl_nil (.then_normal ?_)
    refine .sub (F' := [(2, _), (3, _)]) (.cons rfl (.cons rfl .nil)) ?_
    refine x_ret (ret2 rfl rfl rfl (Le.refl _) ⟨rfl, rfl, by rw [szN, if_neg (by omega)]; rfl⟩)
theorem ROts_spec (code : UInt32) :
    Con Tryd.prog 104 #[.int .u32 (code.toNat : Int)] G M L (fun v M' L' => M = M' ∧ L = L' ∧ v = .tuple #[.agg (List.toArray (otsV code).cells), .int .i64 (otsE code)]) noPanic := by
  have hc := code.toNat_lt
  refine enter (args := [_]) (fn := Tryd.f104) ⟨Tryd.func104, rfl, by kernel_rfl, by kernel_rfl⟩ 47 rfl ?_
  refine x_seq (x_region ?_)
  refine tl_e rfl (e_alloc (fun b1 => ?_))
  refine tl_y rfl (y_assign rfl) ?_
  refine tl_nil (.then_normal ?_)
  refine x_seq (x_seq (x_region ?_))
  refine tl_y rfl (y_move (v := .int _ _) rfl) ?_
  refine tl_y rfl (y_lss rfl rfl) ?_
  refine tl_y rfl (y_move (v := .bool _) rfl) ?_
  refine tl_cases (s := 12) rfl (fun hk1 => ?_) (fun hk1 => ?_)
  ·
    have ho : otsOf code = none := by rw [otsOf, if_neg (by omega)]
    refine tl_skip rfl ?_
    refine tl_skip rfl ?_
    refine tl_y rfl (y_pickT rfl rfl) ?_
    refine tl_nil (.then_normal ?_)
    refine .sub (F' := [(0, _), (2, _), (15, _)]) (.cons rfl (.cons rfl (.cons rfl .nil))) ?_
    refine x_true rfl rfl ?_
    refine x_seq (x_region ?_)
    refine tl_y rfl (y_build rfl) ?_
    refine tl_e rfl (e_store rfl rfl (by rfl) (by rfl) inferInstance inferInstance inferInstance ?_)
    refine tl_y rfl (y_assign rfl) ?_
    refine tl_nil (.then_normal ?_)
    refine x_ret (.then_ret (retRV (L' := L) (rv2 rfl (rc_cellAgg (by rfl) rfl (.own inferInstance inferInstance)) (rc_tmp (by rfl))) inferInstance (Le.refl _) ⟨rfl, rfl, by rw [otsV, otsE, ho]; rfl⟩))
  ·
    refine tl_y rfl (y_move (v := .int _ _) rfl) ?_
    refine tl_y rfl (y_gtr rfl rfl) ?_
    refine tl_y rfl (y_pickF rfl rfl) ?_
    refine tl_nil (.then_normal ?_)
    refine .sub (F' := [(0, _), (2, _), (15, _)]) (.cons rfl (.cons rfl (.cons rfl .nil))) ?_
    refine x_cond rfl (fun hc1 => ?_) (fun hc1 => ?_)
    ·
      have ho : otsOf code = none := by rw [otsOf, if_neg (by omega)]
      refine x_seq (x_region ?_)
      refine tl_y rfl (y_build rfl) ?_
      refine tl_e rfl (e_store rfl rfl (by rfl) (by rfl) inferInstance inferInstance inferInstance ?_)
      refine tl_y rfl (y_assign rfl) ?_
      refine tl_nil (.then_normal ?_)
      refine x_ret (.then_ret (retRV (L' := L) (rv2 rfl (rc_cellAgg (by rfl) rfl (.own inferInstance inferInstance)) (rc_tmp (by rfl))) inferInstance (Le.refl _) ⟨rfl, rfl, by rw [otsV, otsE, ho]; rfl⟩))
    ·
      obtain ⟨i, hi⟩ : ∃ i, i = code.toNat - 1 := ⟨_, rfl⟩
      have hi4 : i % 4 < 4 := Nat.mod_lt _ (by omega)
      have hi16 : i < 16 := by omega
      obtain ⟨s1, s2, s3, s4, s5, s6, s7, s8, s9, s10⟩ := shape_fact (szN_is (i / 4)) (w_is i)
      refine x_skip (.then_normal ?_)
      refine x_seq (x_region ?_)
      refine tl_y rfl (y_move (v := .int _ _) rfl) ?_
      refine tl_y rfl (y_subN32 rfl rfl (by omega)) ?_
      refine tl_y rfl (y_convI rfl (by omega)) ?_
      rw [show (code.toNat : Int) - 1 = (i : Int) by omega]
      refine tl_y rfl (y_quoI rfl rfl (by omega)) ?_
      rw [show (i : Int) / 4 = ((i / 4 : Nat) : Int) by omega]
      refine tl_e rfl (e_call' rfl (Rsize_spec (i / 4) (by omega)) ?_)
      rintro _ _ _ _ ⟨rfl, rfl, rfl⟩
      refine tl_y rfl (y_move (v := .tuple _) rfl) ?_
      refine tl_y rfl (y_extract rfl) ?_
      refine tl_y rfl (y_extract rfl) ?_
      refine tl_y rfl (y_assign (v := .int _ _) rfl) ?_
      refine tl_y rfl (y_assign (v := .int _ _) rfl) ?_
      refine tl_nil (.then_normal ?_)
      refine .sub (F' := [(0, _), (2, _), (4, _), (5, _)]) (.cons rfl (.cons rfl (.cons rfl (.cons rfl .nil)))) ?_
      refine x_seq (x_region ?_)
      refine tl_e rfl (e_buildSlice rfl (by decide) (fun b2 => ?_))
      refine tl_y rfl (y_move (v := .int _ _) rfl) ?_
      refine tl_y rfl (y_subN32 rfl rfl (by omega)) ?_
      refine tl_y rfl (y_remI rfl rfl (by omega)) ?_
      rw [show ((code.toNat : Int) - 1) % 4 = ((i % 4 : Nat) : Int) by omega]
      refine tl_y rfl (y_indexAddr rfl rfl (by omega)) ?_
      refine tl_y rfl (y_load rfl rfl (.at_ (.ownAt (i := i % 4) (c := [Value.int .i64 1, .int .i64 2, .int .i64 4, .int .i64 8]) inferInstance (widths_get _ hi4)) (by omega))) ?_
      refine tl_y rfl (y_assign (v := .int _ _) rfl) ?_
      refine tl_nil (.then_normal ?_)
      refine .sub (F' := [(0, _), (2, _), (4, _), (5, _), (6, _)]) (.cons rfl (.cons rfl (.cons rfl (.cons rfl (.cons rfl .nil))))) ?_
      refine x_seq (x_region ?_)
      refine tl_y rfl (y_move (v := .int _ _) rfl) ?_
      refine tl_y rfl (y_move (v := .int _ _) rfl) ?_
      refine tl_e rfl (e_call' rfl (RShape_spec (szN_is (i / 4)) (w_is i)) ?_)
      rintro _ _ _ _ ⟨rfl, rfl, rfl⟩
      refine tl_y rfl (y_move (v := .tuple _) rfl) ?_
      refine tl_y rfl (y_extract rfl) ?_
      refine tl_y rfl (y_extract rfl) ?_
      refine tl_y rfl (y_extract rfl) ?_
      refine tl_y rfl (y_assign (v := .int _ _) rfl) ?_
      refine tl_y rfl (y_assign (v := .int _ _) rfl) ?_
      refine tl_y rfl (y_assign (v := .int _ _) rfl) ?_
      refine tl_nil (.then_normal ?_)
      refine .sub (F' := [(0, _), (2, _), (4, _), (5, _), (6, _), (7, _), (8, _), (9, _)]) (.cons rfl (.cons rfl (.cons rfl (.cons rfl (.cons rfl (.cons rfl (.cons rfl (.cons rfl .nil)))))))) ?_
      refine x_seq (x_region ?_)
      refine tl_y rfl (y_move (v := .int _ _) rfl) ?_
      refine tl_y rfl (y_move (v := .int _ _) rfl) ?_
      refine tl_y rfl (y_move (v := .int _ _) rfl) ?_
      refine tl_y rfl (y_move (v := .int _ _) rfl) ?_
      refine tl_y rfl (y_move (v := .int _ _) rfl) ?_
      refine tl_y rfl (y_move (v := .int _ _) rfl) ?_
      refine tl_y rfl (y_addI rfl rfl (by omega)) ?_
      refine tl_y rfl (y_move (v := .int _ _) rfl) ?_
      refine tl_y rfl (y_build rfl) ?_
      refine tl_e rfl (e_store rfl rfl (by rfl) (by rfl) inferInstance inferInstance inferInstance ?_)
      refine tl_y rfl (y_assign rfl) ?_
      refine tl_nil (.then_normal ?_)
      refine .sub (F' := [(2, _), (3, _)]) (.cons rfl (.cons rfl .nil)) ?_
      refine x_ret (retRV (L' := L) (rv2 rfl (rc_cellAgg (by rfl) rfl (.own inferInstance inferInstance)) (rc_tmp (by rfl))) inferInstance (Le.refl _) ⟨rfl, rfl, by
        rw [otsV, otsE, show otsOf code = some (otsT i) by rw [otsOf, if_pos (by omega), hi]]
        rw [Option.getD_some, otsT]
        show _ = Value.tuple #[.agg (List.toArray [.int .u32 ((UInt32.ofNat (i + 1)).toNat : Int), _, _, _, _, _]), _]
        rw [show (UInt32.ofNat (i + 1)).toNat = code.toNat by rw [UInt32.toNat_ofNat']; omega, show i / 8 = i / 4 / 2 by omega]
        rfl⟩)
end
end Go.Proofs.YtbgdjdhbejbhkaaDoor
set_option linter.unusedVariables false
set_option linter.unusedSimpArgs false
set_option linter.constructorNameAsVariable false
namespace Go.Proofs.YtbgdjdhbejbhkaaDoor
open Go Go.Eng
section
variable {G : World} {M : Mem} {L : Own}
theorem RTree_spec (code : UInt32) :
    Con Tryd.prog 105 #[.int .u32 (code.toNat : Int)] G M L (fun v M' L' => M = M' ∧ L = L' ∧ v = .tuple #[.agg (List.toArray (treeV code).cells), .int .i64 (treeE code)]) noPanic := by
  have hc := code.toNat_lt
  refine enter (args := [_]) (fn := Tryd.f105) ⟨Tryd.func105, rfl, by kernel_rfl, by kernel_rfl⟩ 56 rfl ?_
  refine x_seq (x_region ?_)
  refine tl_e rfl (e_alloc (fun b1 => ?_))
  refine tl_y rfl (y_assign rfl) ?_
  refine tl_nil (.then_normal ?_)
  refine x_seq ?_
  refine x_join (I := fun F D M2 L2 => ∃ b : Bool, (b = true ↔ (5 ≤ code.toNat ∧ code.toNat ≤ 24)) ∧ D = [] ∧ M = M2 ∧ (b1, .cells (List.toArray tree0.cells) 121 (0, 0)) :: L = L2 ∧ F = [(0, .int .u32 (code.toNat : Int)), (2, .pointer (some ⟨b1, 0, none⟩)), (13, .bool b)]) ?_ (fun Jq1 => ?_)
  ·
    rintro _ _ _ _ ⟨t1, ht1, rfl, rfl, rfl, rfl⟩  -- slots [0, 2, 13]
    refine x_condb rfl (fun hc1 => ?_) (fun hc1 => ?_)
    ·
      have h5 := ht1.1 hc1
      obtain ⟨i, hi⟩ : ∃ i, i = code.toNat - 5 := ⟨_, rfl⟩
      have hto : treeOf code = some (treeT code i 5) := by rw [treeOf, if_pos h5, hi]
      refine x_seq (x_region ?_)
      refine tl_y rfl (y_move (v := .int _ _) rfl) ?_
      refine tl_y rfl (y_subN32 rfl rfl (by omega)) ?_
      refine tl_y rfl (y_convI rfl (by omega)) ?_
      rw [show (code.toNat : Int) - 5 = (i : Int) by omega]
      refine tl_y rfl (y_quoI rfl rfl (by omega)) ?_
      rw [show (i : Int) / 5 = ((i / 5 : Nat) : Int) by omega]
      refine tl_e rfl (e_call' rfl (Rsize_spec (i / 5) (by omega)) ?_)
      rintro _ _ _ _ ⟨rfl, rfl, rfl⟩
      refine tl_y rfl (y_move (v := .tuple _) rfl) ?_
      refine tl_y rfl (y_extract rfl) ?_
      refine tl_y rfl (y_extract rfl) ?_
      refine tl_y rfl (y_assign (v := .int _ _) rfl) ?_
      refine tl_y rfl (y_assign (v := .int _ _) rfl) ?_
      refine tl_nil (.then_normal ?_)
      refine .sub (F' := [(0, _), (2, _), (4, _), (5, _)]) (.cons rfl (.cons rfl (.cons rfl (.cons rfl .nil)))) ?_
      refine x_seq (x_region ?_)
      refine tl_y rfl (y_move (v := .int _ _) rfl) ?_
      refine tl_y rfl (y_move (v := .int _ _) rfl) ?_
      refine tl_y rfl (y_move (v := .int _ _) rfl) ?_
      refine tl_y rfl (y_move (v := .int _ _) rfl) ?_
      refine tl_y rfl (y_subN32 rfl rfl (by omega)) ?_
      refine tl_y rfl (y_convI rfl (by omega)) ?_
      refine tl_y rfl (y_remI rfl rfl (by omega)) ?_
      refine tl_y rfl (y_addI rfl rfl (by omega)) ?_
      refine tl_y rfl (y_mulI rfl rfl (by omega)) ?_
      rw [show 5 * ((1 : Int) + ((code.toNat : Int) - 5) % 5) = ((5 * (1 + i % 5) : Nat) : Int) by omega]
      refine tl_y rfl (y_build rfl) ?_
      refine tl_e rfl (e_store rfl rfl (by rfl) (by rfl) inferInstance inferInstance inferInstance ?_)
      refine tl_y rfl (y_assign rfl) ?_
      refine tl_nil (.then_normal ?_)
      refine .sub (F' := [(2, _), (3, _)]) (.cons rfl (.cons rfl .nil)) ?_
      refine x_ret (.then_ret (retRV (L' := L) (rv2 rfl (rc_cellAgg (by rfl) rfl (.own inferInstance inferInstance)) (rc_tmp (by rfl))) inferInstance (Le.refl _) ⟨rfl, rfl, by rw [treeV, treeE, hto]; rfl⟩))
    ·
      have hn5 : ¬ (5 ≤ code.toNat ∧ code.toNat ≤ 24) := fun h => by rw [ht1.2 h] at hc1; cases hc1
      refine x_skip (.then_normal ?_)
      refine x_seq ?_
      refine x_join (I := fun F D M2 L2 => ∃ b : Bool, (b = true ↔ (4026531841 ≤ code.toNat ∧ code.toNat ≤ 4026531856)) ∧ D = [] ∧ M = M2 ∧ (b1, .cells (List.toArray tree0.cells) 121 (0, 0)) :: L = L2 ∧ F = [(0, .int .u32 (code.toNat : Int)), (2, .pointer (some ⟨b1, 0, none⟩)), (37, .bool b)]) ?_ (fun Jq4 => ?_)
      ·
        rintro _ _ _ _ ⟨t2, ht2, rfl, rfl, rfl, rfl⟩  -- slots [0, 2, 37]
        refine x_condb rfl (fun hc2 => ?_) (fun hc2 => ?_)
        ·
          have h5 := ht2.1 hc2
          obtain ⟨i, hi⟩ : ∃ i, i = code.toNat - 4026531841 := ⟨_, rfl⟩
          have hto : treeOf code = some (treeT code i 4) := by rw [treeOf, if_neg (by omega), if_pos h5, hi]
          refine x_seq (x_region ?_)
          refine tl_y rfl (y_move (v := .int _ _) rfl) ?_
          refine tl_y rfl (y_subN32 rfl rfl (by omega)) ?_
          refine tl_y rfl (y_convI rfl (by omega)) ?_
          rw [show (code.toNat : Int) - 4026531841 = (i : Int) by omega]
          refine tl_y rfl (y_quoI rfl rfl (by omega)) ?_
          rw [show (i : Int) / 4 = ((i / 4 : Nat) : Int) by omega]
          refine tl_e rfl (e_call' rfl (Rsize_spec (i / 4) (by omega)) ?_)
          rintro _ _ _ _ ⟨rfl, rfl, rfl⟩
          refine tl_y rfl (y_move (v := .tuple _) rfl) ?_
          refine tl_y rfl (y_extract rfl) ?_
          refine tl_y rfl (y_extract rfl) ?_
          refine tl_y rfl (y_assign (v := .int _ _) rfl) ?_
          refine tl_y rfl (y_assign (v := .int _ _) rfl) ?_
          refine tl_nil (.then_normal ?_)
          refine .sub (F' := [(0, _), (2, _), (6, _), (7, _)]) (.cons rfl (.cons rfl (.cons rfl (.cons rfl .nil)))) ?_
          refine x_seq (x_region ?_)
          refine tl_y rfl (y_move (v := .int _ _) rfl) ?_
          refine tl_y rfl (y_move (v := .int _ _) rfl) ?_
          refine tl_y rfl (y_move (v := .int _ _) rfl) ?_
          refine tl_y rfl (y_move (v := .int _ _) rfl) ?_
          refine tl_y rfl (y_subN32 rfl rfl (by omega)) ?_
          refine tl_y rfl (y_convI rfl (by omega)) ?_
          refine tl_y rfl (y_remI rfl rfl (by omega)) ?_
          refine tl_y rfl (y_addI rfl rfl (by omega)) ?_
          rw [show (1 : Int) + ((code.toNat : Int) - 4026531841) % 4 = ((1 + i % 4 : Nat) : Int) by omega]
          refine tl_y rfl (y_build rfl) ?_
          refine tl_e rfl (e_store rfl rfl (by rfl) (by rfl) inferInstance inferInstance inferInstance ?_)
          refine tl_y rfl (y_assign rfl) ?_
          refine tl_nil (.then_normal ?_)
          refine .sub (F' := [(2, _), (3, _)]) (.cons rfl (.cons rfl .nil)) ?_
          refine x_ret (.then_ret (retRV (L' := L) (rv2 rfl (rc_cellAgg (by rfl) rfl (.own inferInstance inferInstance)) (rc_tmp (by rfl))) inferInstance (Le.refl _) ⟨rfl, rfl, by rw [treeV, treeE, hto]; rfl⟩))
        ·
          have hn6 : ¬ (4026531841 ≤ code.toNat ∧ code.toNat ≤ 4026531856) := fun h => by rw [ht2.2 h] at hc2; cases hc2
          have hto : treeOf code = none := by rw [treeOf, if_neg hn5, if_neg hn6]
          refine x_skip (.then_normal ?_)
          refine x_seq (x_region ?_)
          refine tl_y rfl (y_build rfl) ?_
          refine tl_e rfl (e_store rfl rfl (by rfl) (by rfl) inferInstance inferInstance inferInstance ?_)
          refine tl_y rfl (y_assign rfl) ?_
          refine tl_nil (.then_normal ?_)
          refine x_ret (retRV (L' := L) (rv2 rfl (rc_cellAgg (by rfl) rfl (.own inferInstance inferInstance)) (rc_tmp (by rfl))) inferInstance (Le.refl _) ⟨rfl, rfl, by rw [treeV, treeE, hto]; rfl⟩)
      ·
        refine x_region ?_
        refine tl_y rfl (y_move (v := .int _ _) rfl) ?_
        refine tl_y rfl (y_geq rfl rfl) ?_
        refine tl_y rfl (y_move (v := .bool _) rfl) ?_
        refine tl_cases (s := 34) rfl (fun hk1 => ?_) (fun hk1 => ?_)
        ·
          refine tl_y rfl (y_move (v := .int _ _) rfl) ?_
          refine tl_y rfl (y_leq rfl rfl) ?_
          refine tl_y rfl (y_pickT rfl rfl) ?_
          refine tl_nil (.then_normal (.sub (F' := [(0, _), (2, _), (37, _)]) (.cons rfl (.cons rfl (.cons rfl .nil))) (Jq4 _ _ _ _ ?_)))
          exact ⟨_, by first | (simp; done) | (simp; omega) | omega, rfl, rfl, rfl, rfl⟩
        ·
          refine tl_skip rfl ?_
          refine tl_skip rfl ?_
          refine tl_y rfl (y_pickF rfl rfl) ?_
          refine tl_nil (.then_normal (.sub (F' := [(0, _), (2, _), (37, _)]) (.cons rfl (.cons rfl (.cons rfl .nil))) (Jq4 _ _ _ _ ?_)))
          exact ⟨_, by first | (simp; done) | (simp; omega) | omega, rfl, rfl, rfl, rfl⟩
  ·
    refine x_region ?_
    refine tl_y rfl (y_move (v := .int _ _) rfl) ?_
    refine tl_y rfl (y_geq rfl rfl) ?_
    refine tl_y rfl (y_move (v := .bool _) rfl) ?_
    refine tl_cases (s := 10) rfl (fun hk2 => ?_) (fun hk2 => ?_)
    ·
      refine tl_y rfl (y_move (v := .int _ _) rfl) ?_
      refine tl_y rfl (y_leq rfl rfl) ?_
      refine tl_y rfl (y_pickT rfl rfl) ?_
      refine tl_nil (.then_normal (.sub (F' := [(0, _), (2, _), (13, _)]) (.cons rfl (.cons rfl (.cons rfl .nil))) (Jq1 _ _ _ _ ?_)))
      exact ⟨_, by first | (simp; done) | (simp; omega) | omega, rfl, rfl, rfl, rfl⟩
    ·
      refine tl_skip rfl ?_
      refine tl_skip rfl ?_
      refine tl_y rfl (y_pickF rfl rfl) ?_
      refine tl_nil (.then_normal (.sub (F' := [(0, _), (2, _), (13, _)]) (.cons rfl (.cons rfl (.cons rfl .nil))) (Jq1 _ _ _ _ ?_)))
      exact ⟨_, by first | (simp; done) | (simp; omega) | omega, rfl, rfl, rfl, rfl⟩
end
end Go.Proofs.YtbgdjdhbejbhkaaDoor
set_option linter.unusedVariables false
set_option linter.unusedSimpArgs false
set_option linter.constructorNameAsVariable false
namespace Go.Proofs.YtbgdjdhbejbhkaaDoor
open Go Go.Eng
abbrev pcells (o : OtsV) (t : TreeV) : List Value := [.int .u32 (o.code.toNat : Int), .int .i64 o.kind, .int .i64 o.n, .int .i64 o.w, .int .i64 o.p, .int .i64 o.shift, .int .u32 (t.code.toNat : Int), .int .i64 t.kind, .int .i64 t.n, .int .i64 t.h]
section
variable {G : World} {M : Mem} {L : Own}
def lwrongv (e : Int) : Value := .iface 230 (.agg #[.int .i64 e])
def lwrong (e : Int) : List PanicEntry := [{ v := lwrongv e, recovered := false }]
def hwrongv (e : Int) : Value := .iface 174 (.agg #[.int .i64 e])
def hwrong (e : Int) : List PanicEntry := [{ v := hwrongv e, recovered := false }]
theorem lmust_spec (t : Bool) (e : Int) :
    Con Tryd.prog 158 #[.bool t, .int .i64 e] G M L (fun v M' L' => M = M' ∧ L = L' ∧ t = true) (fun ch M' L' => M = M' ∧ L = L' ∧ t = false ∧ ch = lwrong e) := by
  refine enter (args := [_, _]) (fn := Tryd.f158) ⟨Tryd.func158, rfl, by kernel_rfl, by kernel_rfl⟩ 9 rfl ?_
  refine x_seq (x_region ?_)
  refine tl_y rfl (y_move (v := .bool _) rfl) ?_
  refine tl_y rfl (y_not rfl) ?_
  refine tl_nil (.then_normal ?_)
  refine x_condb rfl (fun hc1 => ?_) (fun hc1 => ?_)
  ·
    refine x_region ?_
    refine tl_y rfl (y_move (v := .int _ _) rfl) ?_
    refine tl_y rfl (y_build rfl) ?_
    refine tl_y rfl (y_makeIface rfl (by intro _ h; cases h)) ?_
    refine tl_e rfl (e_panic rfl (.ret (Le.refl _) ⟨rfl, rfl, by simpa using hc1, rfl⟩))
  ·
    refine x_skip (end0 rfl (Le.refl _) ⟨rfl, rfl, by simpa using hc1⟩)
theorem hmust_spec (t : Bool) (e : Int) :
    Con Tryd.prog 107 #[.bool t, .int .i64 e] G M L (fun v M' L' => M = M' ∧ L = L' ∧ t = true) (fun ch M' L' => M = M' ∧ L = L' ∧ t = false ∧ ch = hwrong e) := by
  refine enter (args := [_, _]) (fn := Tryd.f107) ⟨Tryd.func107, rfl, by kernel_rfl, by kernel_rfl⟩ 9 rfl ?_
  refine x_seq (x_region ?_)
  refine tl_y rfl (y_move (v := .bool _) rfl) ?_
  refine tl_y rfl (y_not rfl) ?_
  refine tl_nil (.then_normal ?_)
  refine x_condb rfl (fun hc1 => ?_) (fun hc1 => ?_)
  ·
    refine x_region ?_
    refine tl_y rfl (y_move (v := .int _ _) rfl) ?_
    refine tl_y rfl (y_build rfl) ?_
    refine tl_y rfl (y_makeIface rfl (by intro _ h; cases h)) ?_
    refine tl_e rfl (e_panic rfl (.ret (Le.refl _) ⟨rfl, rfl, by simpa using hc1, rfl⟩))
  ·
    refine x_skip (end0 rfl (Le.refl _) ⟨rfl, rfl, by simpa using hc1⟩)
theorem caughtP1_ret {b c : Nat} {x : Int} {cs : List Value} : ConD Tryd.prog 156 #[.pointer (some ⟨b, 0, none⟩), .pointer (some ⟨c, 0, none⟩)] .returning G M ((c, .cells (List.toArray [.int .i64 x]) 28 (0, 0)) :: (b, .cells cs.toArray 200 (0, 0)) :: L) (fun u' M' L' => u' = .returning ∧ M' = M ∧ L' = (c, .cells (List.toArray [.int .i64 x]) 28 (0, 0)) :: (b, .cells cs.toArray 200 (0, 0)) :: L) := by
  refine enterRec (args := [_, _]) (fn := Tryd.f156) ⟨Tryd.func156, rfl, by kernel_rfl, by kernel_rfl⟩ 15 rfl rfl ?_
  refine x_block ?_
  refine x_seq (x_region ?_)
  refine tl_y rfl (y_eqNilIface rfl rfl) ?_
  refine tl_nil (.then_normal ?_)
  refine x_true rfl (rfl) ?_
  refine x_region ?_
  refine tl_y rfl (y_assign rfl) ?_
  refine tl_nil (.block_normal (.rec_normal (Le.refl _) ⟨rfl, rfl, rfl⟩))
theorem caughtP1_wrong {b c : Nat} {x e : Int} : ConD Tryd.prog 156 #[.pointer (some ⟨b, 0, none⟩), .pointer (some ⟨c, 0, none⟩)] (.panicking (lwrong e)) G M ((c, .cells (List.toArray [.int .i64 x]) 28 (0, 0)) :: (b, .cells (List.toArray [.int .u32 0, .int .i64 0, .int .i64 0, .int .i64 0, .int .i64 0, .int .i64 0, .int .u32 0, .int .i64 0, .int .i64 0, .int .i64 0]) 200 (0, 0)) :: L)
    (fun u' M' L' => u' = .panicking [{ v := lwrongv e, recovered := true }] ∧ M' = M ∧ L' = (c, .cells (List.toArray [.int .i64 e]) 28 (0, 0)) :: (b, .cells (List.toArray [.int .u32 0, .int .i64 0, .int .i64 0, .int .i64 0, .int .i64 0, .int .i64 0, .int .u32 0, .int .i64 0, .int .i64 0, .int .i64 0]) 200 (0, 0)) :: L) := by
  refine enterRec (args := [_, _]) (fn := Tryd.f156) ⟨Tryd.func156, rfl, by kernel_rfl, by kernel_rfl⟩ 15 rfl rfl ?_
  refine x_block ?_
  refine x_seq (x_region ?_)
  refine tl_y rfl (y_eqIfaceNil rfl rfl) ?_
  refine tl_nil (.then_normal ?_)
  refine x_false rfl (rfl) ?_
  refine x_seq (x_region ?_)
  refine tl_y rfl (y_assertOk rfl (by intro _ h; cases h)) ?_
  refine tl_y rfl (y_extract rfl) ?_
  refine tl_y rfl (y_extract rfl) ?_
  refine tl_nil (.then_normal ?_)
  refine x_true rfl (rfl) ?_
  refine x_seq (x_region ?_)
  refine tl_e rfl (e_alloc (fun b7 => ?_))
  refine tl_e rfl (e_store rfl rfl (by rfl) (by rfl) inferInstance inferInstance inferInstance ?_)
  refine tl_nil (.then_normal ?_)
  refine .sub (F' := [(0, _), (1, _), (3, _)]) (.cons rfl (.cons rfl (.cons rfl .nil))) ?_
  refine x_seq (x_region ?_)
  refine tl_e rfl (e_alloc (fun b8 => ?_))
  refine tl_nil (.then_normal ?_)
  refine x_draw0 4 ((b7, .cells (List.toArray [.int .i64 e]) 230 (0, 0)) :: (b8, .cells (List.toArray [.int .u32 0, .int .i64 0, .int .i64 0, .int .i64 0, .int .i64 0, .int .i64 0, .int .u32 0, .int .i64 0, .int .i64 0, .int .i64 0]) 200 (0, 0)) :: []) Keeps.mem hmix rfl ?_
  refine to_y 0 rfl (by kernel_rfl) rfl (y_loadAgg rfl rfl (.own inferInstance inferInstance)) ?_
  refine to_p 1 rfl (by kernel_rfl) rfl (y_fieldAddr rfl) ?_
  refine to_y 2 rfl (by kernel_rfl) rfl (y_load rfl rfl (.own inferInstance inferInstance)) ?_
  refine to_e 3 rfl (by kernel_rfl) rfl (e_store rfl rfl (by rfl) (by rfl) inferInstance inferInstance inferInstance ?_)
  refine ⟨⟨(by first | exact Le.refl _ | assumption), Keeps.mem⟩, ?_⟩
  refine to_t 4 rfl (by kernel_rfl) (by kernel_rfl) rfl (e_store rfl rfl (by rfl) (by rfl) inferInstance inferInstance inferInstance ?_)
  refine to_nil (by kernel_rfl) (.block_normal (.dropTo ((c, .cells (List.toArray [.int .i64 e]) 28 (0, 0)) :: (b, .cells (List.toArray [.int .u32 0, .int .i64 0, .int .i64 0, .int .i64 0, .int .i64 0, .int .i64 0, .int .u32 0, .int .i64 0, .int .i64 0, .int .i64 0]) 200 (0, 0)) :: L) inferInstance (.rec_normal (Le.refl _) ⟨rfl, rfl, rfl⟩)))
theorem caughtP_spec {wf : FuncId} {first cap : List Value} {K : OtsV → TreeV → Mem → Prop} {Kp : Int → Prop}
    (hw : ∀ p q, Con Tryd.prog wf (first ++ [] ++ cap).toArray G M (p :: q :: L) (fun v M' L' => L' = p :: q :: L ∧ ∃ (o : OtsV) (t : TreeV), v = .agg (List.toArray (pcells o t)) ∧ K o t M') (fun ch M' L' => L' = p :: q :: L ∧ ∃ e, Kp e ∧ ch = lwrong e)) :
    Con Tryd.prog 132 #[.func (.func wf) first.toArray cap.toArray] G M L (fun v M' L' => L' = L ∧ ((∃ (o : OtsV) (t : TreeV), v = .tuple #[.agg (List.toArray (pcells o t)), .int .i64 0] ∧ K o t M') ∨ (∃ e, v = .tuple #[.agg (List.toArray [.int .u32 0, .int .i64 0, .int .i64 0, .int .i64 0, .int .i64 0, .int .i64 0, .int .u32 0, .int .i64 0, .int .i64 0, .int .i64 0]), .int .i64 e] ∧ Kp e))) noPanic := by
  refine enterD (args := [_]) (fn := Tryd.f132) ⟨Tryd.func132, rfl, by kernel_rfl, by kernel_rfl⟩ 7 rfl ?_
  refine x_seq (x_region ?_)
  refine tl_e rfl (e_alloc (fun b1 => ?_))
  refine tl_e rfl (e_alloc (fun b2 => ?_))
  refine tl_nil (.then_normal ?_)
  refine x_seq (x_region ?_)
  refine tl_y rfl (y_makeFunc rfl rfl) ?_
  refine tl_e rfl (e_defer rfl rfl rfl ?_)
  refine tl_nil (.then_normal ?_)
  refine x_seq (x_region ?_)
  refine tl_y rfl (y_move (v := .func _ _ _) rfl) ?_
  refine tl_e rfl (e_callv rfl rfl (hw _ _) (by
    rintro _ M1 _ hM1 ⟨rfl, e, hr, rfl⟩
    refine .retD (cap := [_, _]) (args := []) caughtP1_wrong ?_
    rintro _ M2 _ hM2 ⟨rfl, rfl, rfl⟩
    exact .inl ⟨rfl, _, L, rv2 rfl (rc_cellAgg (by rfl) rfl (.own inferInstance inferInstance)) (rc_cell (by rfl) rfl (.own inferInstance inferInstance)), inferInstance, hM1, rfl, .inr ⟨e, rfl, hr⟩⟩) ?_)
  rintro _ M1 _ hM1 ⟨rfl, o, t, rfl, hk⟩
  refine tl_e rfl (e_store rfl rfl (by rfl) (by rfl) inferInstance inferInstance inferInstance ?_)
  refine tl_e rfl (e_store rfl rfl (by rfl) (by rfl) inferInstance inferInstance inferInstance ?_)
  refine tl_nil (.then_normal ?_)
  refine .sub (F' := [(2, _), (3, _)]) (.cons rfl (.cons rfl .nil)) ?_
  refine x_ret (.retD (cap := [_, _]) (args := []) (caughtP1_ret (cs := pcells o t)) ?_)
  rintro _ M2 _ hM2 ⟨rfl, rfl, rfl⟩
  exact .inl ⟨rfl, _, L, rv2 rfl (rc_cellAgg (by rfl) rfl (.own inferInstance inferInstance)) (rc_cell (by rfl) rfl (.own inferInstance inferInstance)), inferInstance, hM1, rfl, .inl ⟨o, t, rfl, hk⟩⟩
theorem caughtU1_ret {b c : Nat} {x : Int} {cs : List Value} : ConD Tryd.prog 106 #[.pointer (some ⟨b, 0, none⟩), .pointer (some ⟨c, 0, none⟩)] .returning G M ((c, .cells (List.toArray [.int .i64 x]) 28 (0, 0)) :: (b, .cells cs.toArray 23 (0, 0)) :: L) (fun u' M' L' => u' = .returning ∧ M' = M ∧ L' = (c, .cells (List.toArray [.int .i64 x]) 28 (0, 0)) :: (b, .cells cs.toArray 23 (0, 0)) :: L) := by
  refine enterRec (args := [_, _]) (fn := Tryd.f106) ⟨Tryd.func106, rfl, by kernel_rfl, by kernel_rfl⟩ 15 rfl rfl ?_
  refine x_block ?_
  refine x_seq (x_region ?_)
  refine tl_y rfl (y_eqNilIface rfl rfl) ?_
  refine tl_nil (.then_normal ?_)
  refine x_true rfl (rfl) ?_
  refine x_region ?_
  refine tl_y rfl (y_assign rfl) ?_
  refine tl_nil (.block_normal (.rec_normal (Le.refl _) ⟨rfl, rfl, rfl⟩))
theorem caughtU1_wrong {b c : Nat} {x e : Int} : ConD Tryd.prog 106 #[.pointer (some ⟨b, 0, none⟩), .pointer (some ⟨c, 0, none⟩)] (.panicking (hwrong e)) G M ((c, .cells (List.toArray [.int .i64 x]) 28 (0, 0)) :: (b, .cells (List.toArray [.int .u64 0]) 23 (0, 0)) :: L)
    (fun u' M' L' => u' = .panicking [{ v := hwrongv e, recovered := true }] ∧ M' = M ∧ L' = (c, .cells (List.toArray [.int .i64 e]) 28 (0, 0)) :: (b, .cells (List.toArray [.int .u64 0]) 23 (0, 0)) :: L) := by
  refine enterRec (args := [_, _]) (fn := Tryd.f106) ⟨Tryd.func106, rfl, by kernel_rfl, by kernel_rfl⟩ 15 rfl rfl ?_
  refine x_block ?_
  refine x_seq (x_region ?_)
  refine tl_y rfl (y_eqIfaceNil rfl rfl) ?_
  refine tl_nil (.then_normal ?_)
  refine x_false rfl (rfl) ?_
  refine x_seq (x_region ?_)
  refine tl_y rfl (y_assertOk rfl (by intro _ h; cases h)) ?_
  refine tl_y rfl (y_extract rfl) ?_
  refine tl_y rfl (y_extract rfl) ?_
  refine tl_nil (.then_normal ?_)
  refine x_true rfl (rfl) ?_
  refine x_seq (x_region ?_)
  refine tl_e rfl (e_alloc (fun b7 => ?_))
  refine tl_e rfl (e_store rfl rfl (by rfl) (by rfl) inferInstance inferInstance inferInstance ?_)
  refine tl_nil (.then_normal ?_)
  refine .sub (F' := [(0, _), (1, _), (3, _)]) (.cons rfl (.cons rfl (.cons rfl .nil))) ?_
  refine x_seq (x_region ?_)
  refine tl_y rfl (y_assign rfl) ?_
  refine tl_nil (.then_normal ?_)
  refine x_draw0 4 ((b7, .cells (List.toArray [.int .i64 e]) 174 (0, 0)) :: []) Keeps.mem hmix rfl ?_
  refine to_p 0 rfl (by kernel_rfl) rfl (y_move (v := .int _ _) rfl) ?_
  refine to_p 1 rfl (by kernel_rfl) rfl (y_fieldAddr rfl) ?_
  refine to_y 2 rfl (by kernel_rfl) rfl (y_load rfl rfl (.own inferInstance inferInstance)) ?_
  refine to_e 3 rfl (by kernel_rfl) rfl (e_store rfl rfl (by rfl) (by rfl) inferInstance inferInstance inferInstance ?_)
  refine ⟨⟨(by first | exact Le.refl _ | assumption), Keeps.mem⟩, ?_⟩
  refine to_t 4 rfl (by kernel_rfl) (by kernel_rfl) rfl (e_store rfl rfl (by rfl) (by rfl) inferInstance inferInstance inferInstance ?_)
  refine to_nil (by kernel_rfl) (.block_normal (.dropTo ((c, .cells (List.toArray [.int .i64 e]) 28 (0, 0)) :: (b, .cells (List.toArray [.int .u64 0]) 23 (0, 0)) :: L) inferInstance (.rec_normal (Le.refl _) ⟨rfl, rfl, rfl⟩)))
theorem caughtU_spec {wf : FuncId} {first cap : List Value} {K : Int → Mem → Prop} {Kp : Int → Prop}
    (hw : ∀ p q, Con Tryd.prog wf (first ++ [] ++ cap).toArray G M (p :: q :: L) (fun v M' L' => L' = p :: q :: L ∧ ∃ x : Int, v = .int .u64 x ∧ K x M') (fun ch M' L' => L' = p :: q :: L ∧ ∃ e, Kp e ∧ ch = hwrong e)) :
    Con Tryd.prog 66 #[.func (.func wf) first.toArray cap.toArray] G M L (fun v M' L' => L' = L ∧ ((∃ x : Int, v = .tuple #[.int .u64 x, .int .i64 0] ∧ K x M') ∨ (∃ e, v = .tuple #[.int .u64 0, .int .i64 e] ∧ Kp e))) noPanic := by
  refine enterD (args := [_]) (fn := Tryd.f66) ⟨Tryd.func66, rfl, by kernel_rfl, by kernel_rfl⟩ 7 rfl ?_
  refine x_seq (x_region ?_)
  refine tl_e rfl (e_alloc (fun b1 => ?_))
  refine tl_e rfl (e_alloc (fun b2 => ?_))
  refine tl_nil (.then_normal ?_)
  refine x_seq (x_region ?_)
  refine tl_y rfl (y_makeFunc rfl rfl) ?_
  refine tl_e rfl (e_defer rfl rfl rfl ?_)
  refine tl_nil (.then_normal ?_)
  refine x_seq (x_region ?_)
  refine tl_y rfl (y_move (v := .func _ _ _) rfl) ?_
  refine tl_e rfl (e_callv rfl rfl (hw _ _) (by
    rintro _ M1 _ hM1 ⟨rfl, e, hr, rfl⟩
    refine .retD (cap := [_, _]) (args := []) caughtU1_wrong ?_
    rintro _ M2 _ hM2 ⟨rfl, rfl, rfl⟩
    exact .inl ⟨rfl, _, L, rv2 rfl (rc_cell (by rfl) rfl (.own inferInstance inferInstance)) (rc_cell (by rfl) rfl (.own inferInstance inferInstance)), inferInstance, hM1, rfl, .inr ⟨e, rfl, hr⟩⟩) ?_)
  rintro _ M1 _ hM1 ⟨rfl, x, rfl, hk⟩
  refine tl_e rfl (e_store rfl rfl (by rfl) (by rfl) inferInstance inferInstance inferInstance ?_)
  refine tl_e rfl (e_store rfl rfl (by rfl) (by rfl) inferInstance inferInstance inferInstance ?_)
  refine tl_nil (.then_normal ?_)
  refine .sub (F' := [(2, _), (3, _)]) (.cons rfl (.cons rfl .nil)) ?_
  refine x_ret (.retD (cap := [_, _]) (args := []) (caughtU1_ret (cs := [.int .u64 x])) ?_)
  rintro _ M2 _ hM2 ⟨rfl, rfl, rfl⟩
  exact .inl ⟨rfl, _, L, rv2 rfl (rc_cell (by rfl) rfl (.own inferInstance inferInstance)) (rc_cell (by rfl) rfl (.own inferInstance inferInstance)), inferInstance, hM1, rfl, .inl ⟨x, rfl, hk⟩⟩
theorem caughtS1_ret {b c : Nat} {x : Int} {cs : List Value} : ConD Tryd.prog 110 #[.pointer (some ⟨b, 0, none⟩), .pointer (some ⟨c, 0, none⟩)] .returning G M ((c, .cells (List.toArray [.int .i64 x]) 28 (0, 0)) :: (b, .cells cs.toArray 27 (0, 0)) :: L) (fun u' M' L' => u' = .returning ∧ M' = M ∧ L' = (c, .cells (List.toArray [.int .i64 x]) 28 (0, 0)) :: (b, .cells cs.toArray 27 (0, 0)) :: L) := by
  refine enterRec (args := [_, _]) (fn := Tryd.f110) ⟨Tryd.func110, rfl, by kernel_rfl, by kernel_rfl⟩ 15 rfl rfl ?_
  refine x_block ?_
  refine x_seq (x_region ?_)
  refine tl_y rfl (y_eqNilIface rfl rfl) ?_
  refine tl_nil (.then_normal ?_)
  refine x_true rfl (rfl) ?_
  refine x_region ?_
  refine tl_y rfl (y_assign rfl) ?_
  refine tl_nil (.block_normal (.rec_normal (Le.refl _) ⟨rfl, rfl, rfl⟩))
theorem caughtS1_wrong {b c : Nat} {x e : Int} : ConD Tryd.prog 110 #[.pointer (some ⟨b, 0, none⟩), .pointer (some ⟨c, 0, none⟩)] (.panicking (hwrong e)) G M ((c, .cells (List.toArray [.int .i64 x]) 28 (0, 0)) :: (b, .cells (List.toArray [.slice none 0 0]) 27 (0, 0)) :: L)
    (fun u' M' L' => u' = .panicking [{ v := hwrongv e, recovered := true }] ∧ M' = M ∧ L' = (c, .cells (List.toArray [.int .i64 e]) 28 (0, 0)) :: (b, .cells (List.toArray [.slice none 0 0]) 27 (0, 0)) :: L) := by
  refine enterRec (args := [_, _]) (fn := Tryd.f110) ⟨Tryd.func110, rfl, by kernel_rfl, by kernel_rfl⟩ 15 rfl rfl ?_
  refine x_block ?_
  refine x_seq (x_region ?_)
  refine tl_y rfl (y_eqIfaceNil rfl rfl) ?_
  refine tl_nil (.then_normal ?_)
  refine x_false rfl (rfl) ?_
  refine x_seq (x_region ?_)
  refine tl_y rfl (y_assertOk rfl (by intro _ h; cases h)) ?_
  refine tl_y rfl (y_extract rfl) ?_
  refine tl_y rfl (y_extract rfl) ?_
  refine tl_nil (.then_normal ?_)
  refine x_true rfl (rfl) ?_
  refine x_seq (x_region ?_)
  refine tl_e rfl (e_alloc (fun b7 => ?_))
  refine tl_e rfl (e_store rfl rfl (by rfl) (by rfl) inferInstance inferInstance inferInstance ?_)
  refine tl_nil (.then_normal ?_)
  refine .sub (F' := [(0, _), (1, _), (3, _)]) (.cons rfl (.cons rfl (.cons rfl .nil))) ?_
  refine x_seq (x_region ?_)
  refine tl_y rfl (y_assign rfl) ?_
  refine tl_nil (.then_normal ?_)
  refine x_draw0 4 ((b7, .cells (List.toArray [.int .i64 e]) 174 (0, 0)) :: []) Keeps.mem hmix rfl ?_
  refine to_p 0 rfl (by kernel_rfl) rfl (y_move (v := .slice _ _ _) rfl) ?_
  refine to_p 1 rfl (by kernel_rfl) rfl (y_fieldAddr rfl) ?_
  refine to_y 2 rfl (by kernel_rfl) rfl (y_load rfl rfl (.own inferInstance inferInstance)) ?_
  refine to_e 3 rfl (by kernel_rfl) rfl (e_store rfl rfl (by rfl) (by rfl) inferInstance inferInstance inferInstance ?_)
  refine ⟨⟨(by first | exact Le.refl _ | assumption), Keeps.mem⟩, ?_⟩
  refine to_t 4 rfl (by kernel_rfl) (by kernel_rfl) rfl (e_store rfl rfl (by rfl) (by rfl) inferInstance inferInstance inferInstance ?_)
  refine to_nil (by kernel_rfl) (.block_normal (.dropTo ((c, .cells (List.toArray [.int .i64 e]) 28 (0, 0)) :: (b, .cells (List.toArray [.slice none 0 0]) 27 (0, 0)) :: L) inferInstance (.rec_normal (Le.refl _) ⟨rfl, rfl, rfl⟩)))
theorem caughtS_spec {wf : FuncId} {first cap : List Value} {K : Option Addr → Nat → Nat → Mem → Prop} {Kp : Int → Prop}
    (hw : ∀ p q, Con Tryd.prog wf (first ++ [] ++ cap).toArray G M (p :: q :: L) (fun v M' L' => L' = p :: q :: L ∧ ∃ A n c, v = .slice A n c ∧ K A n c M') (fun ch M' L' => L' = p :: q :: L ∧ ∃ e, Kp e ∧ ch = hwrong e)) :
    Con Tryd.prog 70 #[.func (.func wf) first.toArray cap.toArray] G M L (fun v M' L' => L' = L ∧ ((∃ A n c, v = .tuple #[.slice A n c, .int .i64 0] ∧ K A n c M') ∨ (∃ e, v = .tuple #[.slice none 0 0, .int .i64 e] ∧ Kp e))) noPanic := by
  refine enterD (args := [_]) (fn := Tryd.f70) ⟨Tryd.func70, rfl, by kernel_rfl, by kernel_rfl⟩ 7 rfl ?_
  refine x_seq (x_region ?_)
  refine tl_e rfl (e_alloc (fun b1 => ?_))
  refine tl_e rfl (e_alloc (fun b2 => ?_))
  refine tl_nil (.then_normal ?_)
  refine x_seq (x_region ?_)
  refine tl_y rfl (y_makeFunc rfl rfl) ?_
  refine tl_e rfl (e_defer rfl rfl rfl ?_)
  refine tl_nil (.then_normal ?_)
  refine x_seq (x_region ?_)
  refine tl_y rfl (y_move (v := .func _ _ _) rfl) ?_
  refine tl_e rfl (e_callv rfl rfl (hw _ _) (by
    rintro _ M1 _ hM1 ⟨rfl, e, hr, rfl⟩
    refine .retD (cap := [_, _]) (args := []) caughtS1_wrong ?_
    rintro _ M2 _ hM2 ⟨rfl, rfl, rfl⟩
    exact .inl ⟨rfl, _, L, rv2 rfl (rc_cell (by rfl) rfl (.own inferInstance inferInstance)) (rc_cell (by rfl) rfl (.own inferInstance inferInstance)), inferInstance, hM1, rfl, .inr ⟨e, rfl, hr⟩⟩) ?_)
  rintro _ M1 _ hM1 ⟨rfl, A, n, c, rfl, hk⟩
  refine tl_e rfl (e_store rfl rfl (by rfl) (by rfl) inferInstance inferInstance inferInstance ?_)
  refine tl_e rfl (e_store rfl rfl (by rfl) (by rfl) inferInstance inferInstance inferInstance ?_)
  refine tl_nil (.then_normal ?_)
  refine .sub (F' := [(2, _), (3, _)]) (.cons rfl (.cons rfl .nil)) ?_
  refine x_ret (.retD (cap := [_, _]) (args := []) (caughtS1_ret (cs := [.slice A n c])) ?_)
  rintro _ M2 _ hM2 ⟨rfl, rfl, rfl⟩
  exact .inl ⟨rfl, _, L, rv2 rfl (rc_cell (by rfl) rfl (.own inferInstance inferInstance)) (rc_cell (by rfl) rfl (.own inferInstance inferInstance)), inferInstance, hM1, rfl, .inl ⟨A, n, c, rfl, hk⟩⟩
theorem caughtL1_ret {b c : Nat} {x : Int} {cs : List Value} : ConD Tryd.prog 129 #[.pointer (some ⟨b, 0, none⟩), .pointer (some ⟨c, 0, none⟩)] .returning G M ((c, .cells (List.toArray [.int .i64 x]) 28 (0, 0)) :: (b, .cells cs.toArray 126 (0, 0)) :: L) (fun u' M' L' => u' = .returning ∧ M' = M ∧ L' = (c, .cells (List.toArray [.int .i64 x]) 28 (0, 0)) :: (b, .cells cs.toArray 126 (0, 0)) :: L) := by
  refine enterRec (args := [_, _]) (fn := Tryd.f129) ⟨Tryd.func129, rfl, by kernel_rfl, by kernel_rfl⟩ 15 rfl rfl ?_
  refine x_block ?_
  refine x_seq (x_region ?_)
  refine tl_y rfl (y_eqNilIface rfl rfl) ?_
  refine tl_nil (.then_normal ?_)
  refine x_true rfl (rfl) ?_
  refine x_region ?_
  refine tl_y rfl (y_assign rfl) ?_
  refine tl_nil (.block_normal (.rec_normal (Le.refl _) ⟨rfl, rfl, rfl⟩))
theorem caughtL1_wrong {b c : Nat} {x e : Int} : ConD Tryd.prog 129 #[.pointer (some ⟨b, 0, none⟩), .pointer (some ⟨c, 0, none⟩)] (.panicking (hwrong e)) G M ((c, .cells (List.toArray [.int .i64 x]) 28 (0, 0)) :: (b, .cells (List.toArray [.slice none 0 0]) 126 (0, 0)) :: L)
    (fun u' M' L' => u' = .panicking [{ v := hwrongv e, recovered := true }] ∧ M' = M ∧ L' = (c, .cells (List.toArray [.int .i64 e]) 28 (0, 0)) :: (b, .cells (List.toArray [.slice none 0 0]) 126 (0, 0)) :: L) := by
  refine enterRec (args := [_, _]) (fn := Tryd.f129) ⟨Tryd.func129, rfl, by kernel_rfl, by kernel_rfl⟩ 15 rfl rfl ?_
  refine x_block ?_
  refine x_seq (x_region ?_)
  refine tl_y rfl (y_eqIfaceNil rfl rfl) ?_
  refine tl_nil (.then_normal ?_)
  refine x_false rfl (rfl) ?_
  refine x_seq (x_region ?_)
  refine tl_y rfl (y_assertOk rfl (by intro _ h; cases h)) ?_
  refine tl_y rfl (y_extract rfl) ?_
  refine tl_y rfl (y_extract rfl) ?_
  refine tl_nil (.then_normal ?_)
  refine x_true rfl (rfl) ?_
  refine x_seq (x_region ?_)
  refine tl_e rfl (e_alloc (fun b7 => ?_))
  refine tl_e rfl (e_store rfl rfl (by rfl) (by rfl) inferInstance inferInstance inferInstance ?_)
  refine tl_nil (.then_normal ?_)
  refine .sub (F' := [(0, _), (1, _), (3, _)]) (.cons rfl (.cons rfl (.cons rfl .nil))) ?_
  refine x_seq (x_region ?_)
  refine tl_y rfl (y_assign rfl) ?_
  refine tl_nil (.then_normal ?_)
  refine x_draw0 4 ((b7, .cells (List.toArray [.int .i64 e]) 174 (0, 0)) :: []) Keeps.mem hmix rfl ?_
  refine to_p 0 rfl (by kernel_rfl) rfl (y_move (v := .slice _ _ _) rfl) ?_
  refine to_p 1 rfl (by kernel_rfl) rfl (y_fieldAddr rfl) ?_
  refine to_y 2 rfl (by kernel_rfl) rfl (y_load rfl rfl (.own inferInstance inferInstance)) ?_
  refine to_e 3 rfl (by kernel_rfl) rfl (e_store rfl rfl (by rfl) (by rfl) inferInstance inferInstance inferInstance ?_)
  refine ⟨⟨(by first | exact Le.refl _ | assumption), Keeps.mem⟩, ?_⟩
  refine to_t 4 rfl (by kernel_rfl) (by kernel_rfl) rfl (e_store rfl rfl (by rfl) (by rfl) inferInstance inferInstance inferInstance ?_)
  refine to_nil (by kernel_rfl) (.block_normal (.dropTo ((c, .cells (List.toArray [.int .i64 e]) 28 (0, 0)) :: (b, .cells (List.toArray [.slice none 0 0]) 126 (0, 0)) :: L) inferInstance (.rec_normal (Le.refl _) ⟨rfl, rfl, rfl⟩)))
theorem caughtL_spec {wf : FuncId} {first cap : List Value} {K : Option Addr → Nat → Nat → Mem → Prop} {Kp : Int → Prop}
    (hw : ∀ p q, Con Tryd.prog wf (first ++ [] ++ cap).toArray G M (p :: q :: L) (fun v M' L' => L' = p :: q :: L ∧ ∃ A n c, v = .slice A n c ∧ K A n c M') (fun ch M' L' => L' = p :: q :: L ∧ ∃ e, Kp e ∧ ch = hwrong e)) :
    Con Tryd.prog 102 #[.func (.func wf) first.toArray cap.toArray] G M L (fun v M' L' => L' = L ∧ ((∃ A n c, v = .tuple #[.slice A n c, .int .i64 0] ∧ K A n c M') ∨ (∃ e, v = .tuple #[.slice none 0 0, .int .i64 e] ∧ Kp e))) noPanic := by
  refine enterD (args := [_]) (fn := Tryd.f102) ⟨Tryd.func102, rfl, by kernel_rfl, by kernel_rfl⟩ 7 rfl ?_
  refine x_seq (x_region ?_)
  refine tl_e rfl (e_alloc (fun b1 => ?_))
  refine tl_e rfl (e_alloc (fun b2 => ?_))
  refine tl_nil (.then_normal ?_)
  refine x_seq (x_region ?_)
  refine tl_y rfl (y_makeFunc rfl rfl) ?_
  refine tl_e rfl (e_defer rfl rfl rfl ?_)
  refine tl_nil (.then_normal ?_)
  refine x_seq (x_region ?_)
  refine tl_y rfl (y_move (v := .func _ _ _) rfl) ?_
  refine tl_e rfl (e_callv rfl rfl (hw _ _) (by
    rintro _ M1 _ hM1 ⟨rfl, e, hr, rfl⟩
    refine .retD (cap := [_, _]) (args := []) caughtL1_wrong ?_
    rintro _ M2 _ hM2 ⟨rfl, rfl, rfl⟩
    exact .inl ⟨rfl, _, L, rv2 rfl (rc_cell (by rfl) rfl (.own inferInstance inferInstance)) (rc_cell (by rfl) rfl (.own inferInstance inferInstance)), inferInstance, hM1, rfl, .inr ⟨e, rfl, hr⟩⟩) ?_)
  rintro _ M1 _ hM1 ⟨rfl, A, n, c, rfl, hk⟩
  refine tl_e rfl (e_store rfl rfl (by rfl) (by rfl) inferInstance inferInstance inferInstance ?_)
  refine tl_e rfl (e_store rfl rfl (by rfl) (by rfl) inferInstance inferInstance inferInstance ?_)
  refine tl_nil (.then_normal ?_)
  refine .sub (F' := [(2, _), (3, _)]) (.cons rfl (.cons rfl .nil)) ?_
  refine x_ret (.retD (cap := [_, _]) (args := []) (caughtL1_ret (cs := [.slice A n c])) ?_)
  rintro _ M2 _ hM2 ⟨rfl, rfl, rfl⟩
  exact .inl ⟨rfl, _, L, rv2 rfl (rc_cell (by rfl) rfl (.own inferInstance inferInstance)) (rc_cell (by rfl) rfl (.own inferInstance inferInstance)), inferInstance, hM1, rfl, .inl ⟨A, n, c, rfl, hk⟩⟩
end
end Go.Proofs.YtbgdjdhbejbhkaaDoor
set_option linter.unusedVariables false
set_option linter.unusedSimpArgs false
namespace Go.Proofs.YtbgdjdhbejbhkaaDoor
open Go Go.Eng
theorem treeE_some {c : UInt32} (h : treeE c = 0) : ∃ x, treeOf c = some x ∧ treeV c = x := by
  unfold treeE at h
  unfold treeV
  cases e : treeOf c with
  | none => rw [e] at h; exact absurd h (by decide)
  | some x => exact ⟨x, rfl, rfl⟩
theorem treeT_facts (c : UInt32) : (∀ i, i < 20 → okC (treeT c i 5).kind (treeT c i 5).n ∧ 1 ≤ (treeT c i 5).h ∧ (treeT c i 5).h ≤ 25) ∧ (∀ i, i < 16 → okC (treeT c i 4).kind (treeT c i 4).n ∧ 1 ≤ (treeT c i 4).h ∧ (treeT c i 4).h ≤ 25) := by
  have h1 : ∀ i : Fin 20, okC (treeT 0 i.val 5).kind (treeT 0 i.val 5).n ∧ 1 ≤ (treeT 0 i.val 5).h ∧ (treeT 0 i.val 5).h ≤ 25 := by decide +kernel
  have h2 : ∀ i : Fin 16, okC (treeT 0 i.val 4).kind (treeT 0 i.val 4).n ∧ 1 ≤ (treeT 0 i.val 4).h ∧ (treeT 0 i.val 4).h ≤ 25 := by decide +kernel
  exact ⟨fun i hi => h1 ⟨i, hi⟩, fun i hi => h2 ⟨i, hi⟩⟩
theorem treeV_facts {c : UInt32} (h : treeE c = 0) : okC (treeV c).kind (treeV c).n ∧ 1 ≤ (treeV c).h ∧ (treeV c).h ≤ 25 := by
  obtain ⟨x, h1, h2⟩ := treeE_some h
  rw [h2]
  unfold treeOf at h1
  split at h1
  · obtain rfl := Option.some.inj h1; exact (treeT_facts c).1 _ (by omega)
  · split at h1
    · obtain rfl := Option.some.inj h1; exact (treeT_facts c).2 _ (by omega)
    · cases h1
theorem tree_eq {a b : TreeV} (h : (a.code.toNat : Int) = b.code.toNat ∧ a.kind = b.kind ∧ a.n = b.n ∧ a.h = b.h ∧ True) : a = b := by
  obtain ⟨h1, h2, h3, h4, _⟩ := h
  cases a; cases b
  simp only [TreeV.mk.injEq]
  exact ⟨UInt32.toNat_inj.1 (Int.ofNat_inj.1 h1), h2, h3, h4⟩
theorem eq_tree {a b : TreeV} (h : a = b) : (a.code.toNat : Int) = b.code.toNat ∧ a.kind = b.kind ∧ a.n = b.n ∧ a.h = b.h ∧ True := by
  subst h; exact ⟨rfl, rfl, rfl, rfl, trivial⟩
theorem pw2_half {a b : Nat} (h : b < a) : pw2 (a - b) / 2 = pw2 (a - (b + 1)) ∧ pw2 (a - b) = 2 * pw2 (a - (b + 1)) := by
  have : a - b = (a - (b + 1)) + 1 := by omega
  rw [this, pw2, pw2, Nat.pow_succ]
  omega
end Go.Proofs.YtbgdjdhbejbhkaaDoor
set_option linter.unusedVariables false
set_option linter.unusedSimpArgs false
set_option linter.constructorNameAsVariable false
namespace Go.Proofs.YtbgdjdhbejbhkaaDoor
open Go Go.Eng
structure PairV where
  o : UInt32
  t : UInt32
deriving DecidableEq
abbrev PairV.cells (p : PairV) : List Value := [.int .u32 (p.o.toNat : Int), .int .u32 (p.t.toNat : Int)]
/-- A pair may be. -/
def okP (p : PairV) : Prop := otsE p.o = 0 ∧ treeE p.t = 0 ∧ (otsV p.o).kind = (treeV p.t).kind ∧ (otsV p.o).n = (treeV p.t).n
instance {p : PairV} : Decidable (okP p) := inferInstanceAs (Decidable (_ ∧ _))
structure HsG (M : Mem) : Prop where
  o : SetG M
  t : SetT M
theorem HsG.mono {M M' : Mem} (h : HsG M) (hle : Le M M') : HsG M' := ⟨h.o.mono hle, h.t.mono hle⟩
section
variable {G : World} {M : Mem} {L : Own}
theorem Fit_spec (o : OtsV) (t : TreeV) :
    Con Tryd.prog 159 #[.agg (List.toArray o.cells), .agg (List.toArray t.cells)] G M L (fun v M' L' => M = M' ∧ L = L' ∧ v = .bool (decide (o.kind = t.kind ∧ o.n = t.n))) noPanic := by
  refine enter (args := [_, _]) (fn := Tryd.f159) ⟨Tryd.func159, rfl, by kernel_rfl, by kernel_rfl⟩ 17 rfl ?_
  refine x_seq (x_region ?_)
  refine tl_e rfl (e_box rfl (fun b1 => ?_))
  refine tl_e rfl (e_box rfl (fun b2 => ?_))
  refine tl_y rfl (y_assign rfl) ?_
  refine tl_nil (.then_normal ?_)
  refine x_seq (x_region ?_)
  refine tl_y rfl (y_fieldAddr rfl) ?_
  refine tl_y rfl (y_load rfl rfl (.own inferInstance inferInstance)) ?_
  refine tl_y rfl (y_fieldAddr rfl) ?_
  refine tl_y rfl (y_load rfl rfl (.own inferInstance inferInstance)) ?_
  refine tl_y rfl (y_eql rfl rfl) ?_
  refine tl_y rfl (y_move (v := .bool _) rfl) ?_
  refine tl_cases (s := 10) rfl (fun hk1 => ?_) (fun hk1 => ?_)
  ·
    refine tl_y rfl (y_fieldAddr rfl) ?_
    refine tl_y rfl (y_load rfl rfl (.own inferInstance inferInstance)) ?_
    refine tl_y rfl (y_fieldAddr rfl) ?_
    refine tl_y rfl (y_load rfl rfl (.own inferInstance inferInstance)) ?_
    refine tl_y rfl (y_eql rfl rfl) ?_
    refine tl_y rfl (y_pickT rfl rfl) ?_
    refine tl_y rfl (y_assign (v := .bool _) rfl) ?_
    refine tl_nil (.then_normal ?_)
    refine .sub (F' := [(4, _)]) (.cons rfl .nil) ?_
    refine x_ret (.dropTo L inferInstance (ret1 rfl rfl (Le.refl _) ⟨rfl, rfl, by simp [hk1]⟩))
  ·
    refine tl_skip rfl ?_
    refine tl_skip rfl ?_
    refine tl_skip rfl ?_
    refine tl_skip rfl ?_
    refine tl_skip rfl ?_
    refine tl_y rfl (y_pickF rfl rfl) ?_
    refine tl_y rfl (y_assign (v := .bool _) rfl) ?_
    refine tl_nil (.then_normal ?_)
    refine .sub (F' := [(4, _)]) (.cons rfl .nil) ?_
    refine x_ret (.dropTo L inferInstance (ret1 rfl rfl (Le.refl _) ⟨rfl, rfl, by simp [hk1]⟩))
theorem of_spec (hg : HsG M) (p : PairV) :
    Con Tryd.prog 134 #[.agg (List.toArray p.cells)] G M L (fun v M' L' => L' = L ∧ okP p ∧ v = .agg (List.toArray (pcells (otsV p.o) (treeV p.t)))) (fun ch M' L' => L' = L ∧ ¬ okP p ∧ ch = lwrong 4) := by
  refine enter (args := [_]) (fn := Tryd.f134) ⟨Tryd.func134, rfl, by kernel_rfl, by kernel_rfl⟩ 34 rfl ?_
  refine x_seq (x_region ?_)
  refine tl_e rfl (e_box rfl (fun b1 => ?_))
  refine tl_e rfl (e_alloc (fun b2 => ?_))
  refine tl_nil (.then_normal ?_)
  refine x_seq (x_region ?_)
  refine tl_y rfl (y_fieldAddr rfl) ?_
  refine tl_y rfl (y_load rfl rfl (.own inferInstance inferInstance)) ?_
  refine tl_e rfl (e_call' rfl (Ots_spec hg.o p.o) ?_)
  rintro _ M1 _ hM1 ⟨rfl, rfl⟩
  refine tl_y rfl (y_move (v := .tuple _) rfl) ?_
  refine tl_y rfl (y_extract rfl) ?_
  refine tl_y rfl (y_extract rfl) ?_
  refine tl_e rfl (e_alloc (fun b3 => ?_))
  refine tl_e rfl (e_store rfl rfl (by rfl) (by rfl) inferInstance inferInstance inferInstance ?_)
  refine tl_y rfl (y_assign (v := .int _ _) rfl) ?_
  refine tl_nil (.then_normal ?_)
  refine .sub (F' := [(1, _), (2, _), (3, _), (4, _)]) (.cons rfl (.cons rfl (.cons rfl (.cons rfl .nil)))) ?_
  refine x_seq (x_region ?_)
  refine tl_y rfl (y_fieldAddr rfl) ?_
  refine tl_y rfl (y_load rfl rfl (.own inferInstance inferInstance)) ?_
  refine tl_e rfl (e_call' rfl (Tree_spec (hg.mono hM1).t p.t) ?_)
  rintro _ M2 _ hM2 ⟨rfl, rfl⟩
  have hm := hM1.trans hM2
  refine tl_y rfl (y_move (v := .tuple _) rfl) ?_
  refine tl_y rfl (y_extract rfl) ?_
  refine tl_y rfl (y_extract rfl) ?_
  refine tl_e rfl (e_alloc (fun b4 => ?_))
  refine tl_e rfl (e_store rfl rfl (by rfl) (by rfl) inferInstance inferInstance inferInstance ?_)
  refine tl_y rfl (y_assign (v := .int _ _) rfl) ?_
  refine tl_nil (.then_normal ?_)
  refine .sub (F' := [(2, _), (3, _), (4, _), (5, _), (6, _)]) (.cons rfl (.cons rfl (.cons rfl (.cons rfl (.cons rfl .nil))))) ?_
  refine x_seq (x_region ?_)
  refine tl_y rfl (y_move (v := .int _ _) rfl) ?_
  refine tl_y rfl (y_eql rfl rfl) ?_
  refine tl_y rfl (y_move (v := .bool _) rfl) ?_
  refine tl_cases (s := 21) rfl (fun hk1 => ?_) (fun hk1 => ?_)
  ·
    refine tl_y rfl (y_move (v := .int _ _) rfl) ?_
    refine tl_y rfl (y_eql rfl rfl) ?_
    refine tl_y rfl (y_pickT rfl rfl) ?_
    refine tl_y rfl (y_move (v := .bool _) rfl) ?_
    refine tl_cases (s := 25) rfl (fun hk2 => ?_) (fun hk2 => ?_)
    ·
      refine tl_y rfl (y_loadAgg rfl rfl (.own inferInstance inferInstance)) ?_
      refine tl_y rfl (y_loadAgg rfl rfl (.own inferInstance inferInstance)) ?_
      refine tl_e rfl (e_call' rfl (Fit_spec _ _) ?_)
      rintro _ _ _ _ ⟨rfl, rfl, rfl⟩
      refine tl_y rfl (y_pickT rfl rfl) ?_
      refine tl_e rfl (e_call rfl (lmust_spec _ _) (by
        rintro _ _ _ _ ⟨rfl, rfl, ht, rfl⟩
        exact TP.dropTo L inferInstance (.retA rfl hm ⟨rfl, fun h => by have := h.2.2; simp [this] at ht, rfl⟩)) ?_)
      rintro _ _ _ _ ⟨rfl, rfl, ht⟩
      refine tl_nil (.then_normal ?_)
      refine .sub (F' := [(2, _), (3, _), (5, _)]) (.cons rfl (.cons rfl (.cons rfl .nil))) ?_
      refine x_seq (x_region ?_)
      refine tl_y rfl (y_loadAgg rfl rfl (.own inferInstance inferInstance)) ?_
      refine tl_y rfl (y_loadAgg rfl rfl (.own inferInstance inferInstance)) ?_
      refine tl_y rfl (y_build rfl) ?_
      refine tl_e rfl (e_store rfl rfl (by rfl) (by rfl) inferInstance inferInstance inferInstance ?_)
      refine tl_nil (.then_normal ?_)
      refine .sub (F' := [(2, _)]) (.cons rfl .nil) ?_
      refine x_ret (retRV (L' := L) (rv1 rfl (rc_cellAgg (by rfl) rfl (.own inferInstance inferInstance))) inferInstance hm ⟨rfl, ⟨hk1, hk2, by simpa using ht⟩, rfl⟩)
    ·
      refine tl_skip rfl ?_
      refine tl_skip rfl ?_
      refine tl_skip rfl ?_
      refine tl_y rfl (y_pickF rfl rfl) ?_
      refine tl_e rfl (e_call rfl (lmust_spec _ _) (by
        rintro _ _ _ _ ⟨rfl, rfl, ht, rfl⟩
        exact TP.dropTo L inferInstance (.retA rfl hm ⟨rfl, fun h => hk2 h.2.1, rfl⟩)) ?_)
      rintro _ _ _ _ ⟨rfl, rfl, ht⟩
      refine tl_nil (.then_normal ?_)
      refine .sub (F' := [(2, _), (3, _), (5, _)]) (.cons rfl (.cons rfl (.cons rfl .nil))) ?_
      refine x_seq (x_region ?_)
      refine tl_y rfl (y_loadAgg rfl rfl (.own inferInstance inferInstance)) ?_
      refine tl_y rfl (y_loadAgg rfl rfl (.own inferInstance inferInstance)) ?_
      refine tl_y rfl (y_build rfl) ?_
      refine tl_e rfl (e_store rfl rfl (by rfl) (by rfl) inferInstance inferInstance inferInstance ?_)
      refine tl_nil (.then_normal ?_)
      refine .sub (F' := [(2, _)]) (.cons rfl .nil) ?_
      refine x_ret (absurd ht (by simp))
  ·
    refine tl_skip rfl ?_
    refine tl_skip rfl ?_
    refine tl_y rfl (y_pickF rfl rfl) ?_
    refine tl_y rfl (y_move (v := .bool _) rfl) ?_
    refine tl_skip rfl ?_
    refine tl_skip rfl ?_
    refine tl_skip rfl ?_
    refine tl_y rfl (y_pickF rfl rfl) ?_
    refine tl_e rfl (e_call rfl (lmust_spec _ _) (by
      rintro _ _ _ _ ⟨rfl, rfl, ht, rfl⟩
      exact TP.dropTo L inferInstance (.retA rfl hm ⟨rfl, fun h => hk1 h.1, rfl⟩)) ?_)
    rintro _ _ _ _ ⟨rfl, rfl, ht⟩
    refine tl_nil (.then_normal ?_)
    refine .sub (F' := [(2, _), (3, _), (5, _)]) (.cons rfl (.cons rfl (.cons rfl .nil))) ?_
    refine x_seq (x_region ?_)
    refine tl_y rfl (y_loadAgg rfl rfl (.own inferInstance inferInstance)) ?_
    refine tl_y rfl (y_loadAgg rfl rfl (.own inferInstance inferInstance)) ?_
    refine tl_y rfl (y_build rfl) ?_
    refine tl_e rfl (e_store rfl rfl (by rfl) (by rfl) inferInstance inferInstance inferInstance ?_)
    refine tl_nil (.then_normal ?_)
    refine .sub (F' := [(2, _)]) (.cons rfl .nil) ?_
    refine x_ret (absurd ht (by simp))
theorem May1_spec (hg : HsG M) (p : PairV) {b : Nat} [hb : Has L b (.cells (List.toArray p.cells) 115 (0, 0))] :
    Con Tryd.prog 133 #[.pointer (some ⟨b, 0, none⟩)] G M L (fun v M' L' => L' = L ∧ ∃ (o : OtsV) (t : TreeV), v = .agg (List.toArray (pcells o t)) ∧ okP p) (fun ch M' L' => L' = L ∧ ∃ e, (¬ okP p ∧ e = 4) ∧ ch = lwrong e) := by
  refine enter (args := [_]) (fn := Tryd.f133) ⟨Tryd.func133, rfl, by kernel_rfl, by kernel_rfl⟩ 4 rfl ?_
  refine x_seq (x_region ?_)
  refine tl_e rfl (e_alloc (fun b1 => ?_))
  refine tl_nil (.then_normal ?_)
  refine x_seq (x_region ?_)
  refine tl_y rfl (y_loadAgg rfl rfl (.own inferInstance inferInstance)) ?_
  refine tl_e rfl (e_call rfl (of_spec hg p) (by
    rintro _ M1 _ hM1 ⟨rfl, hno, rfl⟩
    exact TP.dropTo L inferInstance (.retA rfl hM1 ⟨rfl, 4, ⟨hno, rfl⟩, rfl⟩)) ?_)
  rintro _ M1 _ hM1 ⟨rfl, hok, rfl⟩
  refine tl_e rfl (e_store rfl rfl (by rfl) (by rfl) inferInstance inferInstance inferInstance ?_)
  refine tl_nil (.then_normal ?_)
  refine x_ret (retRV (L' := L) (rv1 rfl (rc_cellAgg (by rfl) rfl (.own inferInstance inferInstance))) inferInstance hM1 ⟨rfl, _, _, rfl, hok⟩)
theorem lMay_spec (hg : HsG M) (p : PairV) :
    Con Tryd.prog 108 #[.agg (List.toArray p.cells)] G M L (fun v M' L' => L' = L ∧ v = .bool (decide (okP p))) noPanic := by
  refine enter (args := [_]) (fn := Tryd.f108) ⟨Tryd.func108, rfl, by kernel_rfl, by kernel_rfl⟩ 12 rfl ?_
  refine x_seq (x_region ?_)
  refine tl_e rfl (e_box rfl (fun b1 => ?_))
  refine tl_y rfl (y_assign rfl) ?_
  refine tl_nil (.then_normal ?_)
  refine x_seq (x_region ?_)
  refine tl_y rfl (y_makeFunc rfl rfl) ?_
  refine tl_e rfl (e_call' rfl (caughtP_spec (K := fun _ _ _ => okP p) (Kp := fun e => ¬ okP p ∧ e = 4) (first := []) (cap := [.pointer (some ⟨b1, 0, none⟩)]) (fun p' q' => May1_spec hg p)) ?_)
  rintro v M1 _ hM1 ⟨rfl, hv⟩
  obtain ⟨o, t, e, rfl, he⟩ : ∃ (o : OtsV) (t : TreeV) (e : Int), v = .tuple #[.agg (List.toArray (pcells o t)), .int .i64 e] ∧ (e = 0 ↔ okP p) := by
    rcases hv with ⟨o, t, rfl, hok⟩ | ⟨e, rfl, hno, rfl⟩
    · exact ⟨o, t, 0, rfl, iff_of_true rfl hok⟩
    · exact ⟨ots0, tree0, 4, rfl, iff_of_false (by decide) hno⟩
  refine tl_y rfl (y_move (v := .tuple _) rfl) ?_
  refine tl_y rfl (y_extract rfl) ?_
  refine tl_y rfl (y_extract rfl) ?_
  refine tl_e rfl (e_alloc (fun b2 => ?_))
  refine tl_e rfl (e_store rfl rfl (by rfl) (by rfl) inferInstance inferInstance inferInstance ?_)
  refine tl_y rfl (y_assign (v := .int _ _) rfl) ?_
  refine tl_nil (.then_normal ?_)
  refine .sub (F' := [(4, _)]) (.cons rfl .nil) ?_
  refine x_seq (x_region ?_)
  refine tl_y rfl (y_move (v := .int _ _) rfl) ?_
  refine tl_y rfl (y_eql rfl rfl) ?_
  refine tl_y rfl (y_assign (v := .bool _) rfl) ?_
  refine tl_nil (.then_normal ?_)
  refine x_ret (.dropTo L inferInstance (ret1 rfl rfl hM1 ⟨rfl, by rw [decide_eq_decide.2 he]⟩))
end
end Go.Proofs.YtbgdjdhbejbhkaaDoor
