/-
Contracts of functions, each proved by a walk through its code.
-/
import Derived.Test.YtbjnjedfoiedeaaDoorSetsEtc
import Derived.Test.YtbjnjedfoiedeaaDoorSets3Etc
import Derived.Test.YtbjnjedfoiedeaaDoorRef2Etc
import Derived.Test.YtbjnjedfoiedeaaDoorRef4Etc
set_option linter.unusedVariables false
set_option linter.unusedSimpArgs false
set_option linter.constructorNameAsVariable false
namespace Go.Proofs.YtbjnjedfoiedeaaDoor
open Go Go.Eng
def shR (n w j : Nat) : Nat := shX n w / (2 ^ w) ^ j
theorem shR_succ (n w j : Nat) : ((shR n w j : Nat) : Int) / ((pw2 w : Nat) : Int) = ((shR n w (j + 1) : Nat) : Int) := by
  rw [shR, shR, pw2, Nat.pow_succ (2 ^ w), ← Nat.div_div_eq_div_mul]; simp
theorem shR_zero (n w : Nat) : shR n w 0 = shX n w := by rw [shR, Nat.pow_zero, Nat.div_one]
theorem shR_le (n w j : Nat) : shR n w j ≤ shX n w := Nat.div_le_self _ _
section
variable {G : World} {M : Mem} {L : Own}
theorem RdMay_spec {w : Nat} (hw : isW w) :
    Con Tryd.prog 88 #[.int .i64 (w : Int)] G M L (fun v M' L' => M = M' ∧ L = L' ∧ v = .bool true) noPanic := by
  refine enter (args := [_]) (fn := Tryd.f88) ⟨Tryd.func88, rfl, by kernel_rfl, by kernel_rfl⟩ 17 rfl ?_
  refine x_seq (x_region ?_)
  refine tl_y rfl (y_assign rfl) ?_
  refine tl_nil (.then_normal ?_)
  refine x_seq (x_region ?_)
  refine tl_y rfl (y_move (v := .int _ _) rfl) ?_
  refine tl_y rfl (y_eql rfl rfl) ?_
  refine tl_y rfl (y_move (v := .bool _) rfl) ?_
  refine tl_cases (s := 5) rfl (fun hk1 => ?_) (fun hk1 => ?_)
  ·
    refine tl_skip rfl ?_
    refine tl_skip rfl ?_
    refine tl_y rfl (y_pickT rfl rfl) ?_
    refine tl_y rfl (y_move (v := .bool _) rfl) ?_
    refine tl_skip rfl ?_
    refine tl_skip rfl ?_
    refine tl_y rfl (y_pickT rfl rfl) ?_
    refine tl_y rfl (y_move (v := .bool _) rfl) ?_
    refine tl_skip rfl ?_
    refine tl_skip rfl ?_
    refine tl_y rfl (y_pickT rfl rfl) ?_
    refine tl_y rfl (y_assign (v := .bool _) rfl) ?_
    refine tl_nil (.then_normal ?_)
    refine .sub (F' := [(2, _)]) (.cons rfl .nil) ?_
    refine x_ret (ret1 rfl rfl (Le.refl _) ⟨rfl, rfl, rfl⟩)
  ·
    refine tl_y rfl (y_move (v := .int _ _) rfl) ?_
    refine tl_y rfl (y_eql rfl rfl) ?_
    refine tl_y rfl (y_pickF rfl rfl) ?_
    refine tl_y rfl (y_move (v := .bool _) rfl) ?_
    refine tl_cases (s := 9) rfl (fun hk2 => ?_) (fun hk2 => ?_)
    ·
      refine tl_skip rfl ?_
      refine tl_skip rfl ?_
      refine tl_y rfl (y_pickT rfl rfl) ?_
      refine tl_y rfl (y_move (v := .bool _) rfl) ?_
      refine tl_skip rfl ?_
      refine tl_skip rfl ?_
      refine tl_y rfl (y_pickT rfl rfl) ?_
      refine tl_y rfl (y_assign (v := .bool _) rfl) ?_
      refine tl_nil (.then_normal ?_)
      refine .sub (F' := [(2, _)]) (.cons rfl .nil) ?_
      refine x_ret (ret1 rfl rfl (Le.refl _) ⟨rfl, rfl, rfl⟩)
    ·
      refine tl_y rfl (y_move (v := .int _ _) rfl) ?_
      refine tl_y rfl (y_eql rfl rfl) ?_
      refine tl_y rfl (y_pickF rfl rfl) ?_
      refine tl_y rfl (y_move (v := .bool _) rfl) ?_
      refine tl_cases (s := 13) rfl (fun hk3 => ?_) (fun hk3 => ?_)
      ·
        refine tl_skip rfl ?_
        refine tl_skip rfl ?_
        refine tl_y rfl (y_pickT rfl rfl) ?_
        refine tl_y rfl (y_assign (v := .bool _) rfl) ?_
        refine tl_nil (.then_normal ?_)
        refine .sub (F' := [(2, _)]) (.cons rfl .nil) ?_
        refine x_ret (ret1 rfl rfl (Le.refl _) ⟨rfl, rfl, rfl⟩)
      ·
        refine tl_y rfl (y_move (v := .int _ _) rfl) ?_
        refine tl_y rfl (y_eql rfl rfl) ?_
        refine tl_y rfl (y_pickF rfl rfl) ?_
        refine tl_y rfl (y_assign (v := .bool _) rfl) ?_
        refine tl_nil (.then_normal ?_)
        refine .sub (F' := [(2, _)]) (.cons rfl .nil) ?_
        refine x_ret (ret1 rfl rfl (Le.refl _) ⟨rfl, rfl, by
          rcases hw with rfl | rfl | rfl | rfl
          · exact absurd rfl hk1
          · exact absurd rfl hk2
          · exact absurd rfl hk3
          · rfl⟩)
theorem RShape_spec {n w : Nat} (hn : isN n) (hw : isW w) :
    Con Tryd.prog 58 #[.int .i64 (n : Int), .int .i64 (w : Int)] G M L (fun v M' L' => M = M' ∧ L = L' ∧ v = .tuple #[.int .i64 (shU n w : Nat), .int .i64 (shV n w : Nat), .int .i64 (shS n w : Nat)]) noPanic := by
  have hfact := shape_fact hn hw
  have hnb : 24 ≤ n ∧ n ≤ 32 := by rcases hn with rfl | rfl <;> omega
  have hlp : ∀ k, k ≤ shV n w → (0 < shR n w k ↔ k < shV n w) := fun k hk => shape_loop hn hw ⟨k, by omega⟩ hk
  change _ ∧ _ ∧ _ ∧ _ ∧ _ ∧ _ ∧ _ ∧ _ ∧ pw2 w ≤ 256 ∧ 2 ≤ pw2 w at hfact
  obtain ⟨h1, h2, h3, h4, h5, h6, h7, h8, h9, h10⟩ := hfact
  have hu : (8 * (n : Int)) / (w : Int) = ((shU n w : Nat) : Int) := by rw [shU]; simp
  have hx : (((pw2 w : Nat) : Int) - 1) * ((shU n w : Nat) : Int) = ((shX n w : Nat) : Int) := by
    rw [show ((pw2 w : Nat) : Int) - 1 = ((pw2 w - 1 : Nat) : Int) by omega, shX, pw2]; simp
  have hs : ((shV n w : Nat) : Int) * (w : Int) = ((shV n w * w : Nat) : Int) := by simp
  refine enter (args := [_, _]) (fn := Tryd.f58) ⟨Tryd.func58, rfl, by kernel_rfl, by kernel_rfl⟩ 51 rfl ?_
  refine x_seq (x_region ?_)
  refine tl_y rfl (y_assign rfl) ?_
  refine tl_y rfl (y_assign rfl) ?_
  refine tl_y rfl (y_assign rfl) ?_
  refine tl_nil (.then_normal ?_)
  refine x_seq (x_seq (x_region ?_))
  refine tl_y rfl (y_move (v := .int _ _) rfl) ?_
  refine tl_y rfl (y_lss rfl rfl) ?_
  refine tl_y rfl (y_move (v := .bool _) rfl) ?_
  refine tl_set (s := 14) (u := .bool false) rfl (by rw [decide_eq_false]; omega) ?_
  refine tl_y rfl (y_move (v := .int _ _) rfl) ?_
  refine tl_y rfl (y_gtr rfl rfl) ?_
  refine tl_y rfl (y_pickF rfl rfl) ?_
  refine tl_y rfl (y_move (v := .bool _) rfl) ?_
  refine tl_set (s := 18) (u := .bool false) rfl (by rw [decide_eq_false]; omega) ?_
  refine tl_y rfl (y_move (v := .int _ _) rfl) ?_
  refine tl_e rfl (e_call' rfl (RdMay_spec hw) ?_)
  rintro _ _ _ _ ⟨rfl, rfl, rfl⟩
  refine tl_y rfl (y_not rfl) ?_
  refine tl_y rfl (y_pickF rfl rfl) ?_
  refine tl_nil (.then_normal ?_)
  refine .sub (F' := [(0, _), (1, _), (22, _)]) (.cons rfl (.cons rfl (.cons rfl .nil))) ?_
  refine x_false rfl (rfl) ?_
  refine x_skip (.then_normal ?_)
  refine x_seq (x_region ?_)
  refine tl_y rfl (y_assign rfl) ?_
  refine tl_nil (.then_normal ?_)
  refine x_seq (x_seq (x_region ?_))
  refine tl_y rfl (y_assign rfl) ?_
  refine tl_nil (.then_normal ?_)
  refine x_block ?_
  refine x_loop (I := fun m' F D M2 L1 => ∃ k : Nat, m' = w - k ∧ k ≤ w ∧ D = [] ∧ M = M2 ∧ L = L1 ∧ F = [(0, .int .i64 n), (1, .int .i64 w), (7, .int .i64 (pw2 k : Nat)), (8, .int .i64 k)]) (w) (F0 := [(0, _), (1, _), (7, _), (8, _)]) ?_ (.cons rfl (.cons rfl (.cons rfl (.cons rfl .nil)))) ?_  -- slots [0, 1, 7, 8], written [7, 8]
  · exact ⟨0, rfl, by omega, rfl, rfl, rfl, rfl⟩
  rintro m _ _ M2 L1 ⟨k, rfl, hk, rfl, rfl, rfl, rfl⟩
  refine x_seq (x_seq (x_region ?_))
  refine tl_y rfl (y_move (v := .int _ _) rfl) ?_
  refine tl_y rfl (y_move (v := .int _ _) rfl) ?_
  refine tl_y rfl (y_lss rfl rfl) ?_
  refine tl_nil (.then_normal ?_)
  refine x_cond rfl (fun hc2 => ?_) (fun hc2 => ?_)
  ·
    have hp := pw2_le hk
    refine x_skip (.then_normal ?_)
    refine x_seq ?_
    refine x_block ?_
    refine x_region ?_
    refine tl_y rfl (y_move (v := .int _ _) rfl) ?_
    refine tl_y rfl (y_mulI rfl rfl (by omega)) ?_
    rw [pw2_succ]
    refine tl_y rfl (y_assign (v := .int _ _) rfl) ?_
    refine tl_nil (.block_normal (.then_normal ?_))
    refine .sub (F' := [(0, _), (1, _), (7, _), (8, _)]) (.cons rfl (.cons rfl (.cons rfl (.cons rfl .nil)))) ?_
    refine x_region ?_
    refine tl_y rfl (y_move (v := .int _ _) rfl) ?_
    refine tl_y rfl (y_addI rfl rfl (by omega)) ?_
    refine tl_y rfl (y_assign (v := .int _ _) rfl) ?_
    refine tl_nil (.loop_next (m' := w - (k + 1)) (by omega) (F' := [(0, _), (1, _), (7, _), (8, _)]) (.cons rfl (.cons rfl (.cons rfl (.cons rfl .nil)))) ?_)
    exact ⟨k + 1, rfl, by omega, rfl, rfl, rfl, rfl⟩
  ·
    obtain rfl : k = w := by omega
    refine x_exit (.then_exit (.loop_exit (.block_exit (.then_normal ?_))))
    refine .sub (F' := [(0, _), (1, _), (7, _)]) (.cons rfl (.cons rfl (.cons rfl .nil))) ?_
    refine x_seq (x_region ?_)
    refine tl_y rfl (y_move (v := .int _ _) rfl) ?_
    refine tl_y rfl (y_mulI rfl rfl (by omega)) ?_
    refine tl_y rfl (y_move (v := .int _ _) rfl) ?_
    refine tl_y rfl (y_quoI rfl rfl (by omega)) ?_
    rw [hu]
    refine tl_y rfl (y_assign (v := .int _ _) rfl) ?_
    refine tl_nil (.then_normal ?_)
    refine .sub (F' := [(1, _), (7, _), (9, _)]) (.cons rfl (.cons rfl (.cons rfl .nil))) ?_
    refine x_seq (x_region ?_)
    refine tl_y rfl (y_assign rfl) ?_
    refine tl_nil (.then_normal ?_)
    refine x_seq (x_seq (x_region ?_))
    refine tl_y rfl (y_move (v := .int _ _) rfl) ?_
    refine tl_y rfl (y_subI rfl rfl (by omega)) ?_
    refine tl_y rfl (y_move (v := .int _ _) rfl) ?_
    refine tl_y rfl (y_mulI rfl rfl (by rw [hx]; omega)) ?_
    rw [hx]
    refine tl_y rfl (y_assign (v := .int _ _) rfl) ?_
    refine tl_nil (.then_normal ?_)
    refine .sub (F' := [(1, _), (7, _), (9, _), (10, _), (11, _)]) (.cons rfl (.cons rfl (.cons rfl (.cons rfl (.cons rfl .nil))))) ?_
    refine x_block ?_
    refine x_loop (I := fun m' F D M2 L1 => ∃ j : Nat, m' = shV n k - j ∧ j ≤ shV n k ∧ D = [] ∧ M = M2 ∧ L = L1 ∧ F = [(1, .int .i64 k), (7, .int .i64 (pw2 k : Nat)), (9, .int .i64 (shU n k : Nat)), (10, .int .i64 j), (11, .int .i64 (shR n k j : Nat))]) (shV n k) (F0 := [(1, _), (7, _), (9, _), (10, _), (11, _)]) ?_ (.cons rfl (.cons rfl (.cons rfl (.cons rfl (.cons rfl .nil))))) ?_  -- slots [1, 7, 9, 10, 11], written [10, 11]
    · exact ⟨0, rfl, by omega, rfl, rfl, rfl, by rw [shR_zero]; rfl⟩
    rintro m _ _ M2 L1 ⟨j, rfl, hj, rfl, rfl, rfl, rfl⟩
    refine x_seq (x_seq (x_region ?_))
    refine tl_y rfl (y_move (v := .int _ _) rfl) ?_
    refine tl_y rfl (y_gtr rfl rfl) ?_
    refine tl_nil (.then_normal ?_)
    refine x_cond rfl (fun hc3 => ?_) (fun hc3 => ?_)
    ·
      have hjv : j < shV n k := (hlp j hj).1 (by omega)
      have hdl := shR_le n k j
      refine x_skip (.then_normal ?_)
      refine x_seq ?_
      refine x_block ?_
      refine x_region ?_
      refine tl_y rfl (y_move (v := .int _ _) rfl) ?_
      refine tl_y rfl (y_addI rfl rfl (by omega)) ?_
      refine tl_y rfl (y_assign (v := .int _ _) rfl) ?_
      refine tl_nil (.block_normal (.then_normal ?_))
      refine .sub (F' := [(1, _), (7, _), (9, _), (10, _), (11, _)]) (.cons rfl (.cons rfl (.cons rfl (.cons rfl (.cons rfl .nil))))) ?_
      refine x_region ?_
      refine tl_y rfl (y_move (v := .int _ _) rfl) ?_
      refine tl_y rfl (y_move (v := .int _ _) rfl) ?_
      refine tl_y rfl (y_quoI rfl rfl (by omega)) ?_
      rw [shR_succ]
      refine tl_y rfl (y_assign (v := .int _ _) rfl) ?_
      refine tl_nil (.loop_next (m' := shV n k - (j + 1)) (by omega) (F' := [(1, _), (7, _), (9, _), (10, _), (11, _)]) (.cons rfl (.cons rfl (.cons rfl (.cons rfl (.cons rfl .nil))))) ?_)
      exact ⟨j + 1, rfl, by omega, rfl, rfl, rfl, rfl⟩
    ·
      have hjv : ¬ j < shV n k := fun h => hc3 (by have := (hlp j hj).2 h; omega)
      obtain rfl : j = shV n k := by omega
      refine x_exit (.then_exit (.loop_exit (.block_exit (.then_normal ?_))))
      refine .sub (F' := [(1, _), (9, _), (10, _)]) (.cons rfl (.cons rfl (.cons rfl .nil))) ?_
      refine x_seq (x_region ?_)
      refine tl_y rfl (y_move (v := .int _ _) rfl) ?_
      refine tl_y rfl (y_move (v := .int _ _) rfl) ?_
      refine tl_y rfl (y_move (v := .int _ _) rfl) ?_
      refine tl_y rfl (y_move (v := .int _ _) rfl) ?_
      refine tl_y rfl (y_mulI rfl rfl (by rw [hs]; omega)) ?_
      rw [hs]
      refine tl_y rfl (y_subI rfl rfl (by omega)) ?_
      rw [show (16 : Int) - ((shV n k * k : Nat) : Int) = ((shS n k : Nat) : Int) by rw [shS]; omega]
      refine tl_y rfl (y_assign (v := .int _ _) rfl) ?_
      refine tl_y rfl (y_assign (v := .int _ _) rfl) ?_
      refine tl_y rfl (y_assign (v := .int _ _) rfl) ?_
      refine tl_nil (.then_normal ?_)
      refine .sub (F' := [(4, _), (5, _), (6, _)]) (.cons rfl (.cons rfl (.cons rfl .nil))) ?_
      refine x_ret (ret3 rfl rfl rfl rfl (Le.refl _) ⟨rfl, rfl, rfl⟩)
theorem Rsize_spec (i : Nat) (hi : i ≤ 1000) :
    Con Tryd.prog 57 #[.int .i64 (i : Int)] G M L (fun v M' L' => M = M' ∧ L = L' ∧ v = .tuple #[.int .i64 ((i / 2 : Nat) : Int), .int .i64 ((szN i : Nat) : Int)]) noPanic := by
  refine enter (args := [_]) (fn := Tryd.f57) ⟨Tryd.func57, rfl, by kernel_rfl, by kernel_rfl⟩ 11 rfl ?_
  refine x_seq (x_region ?_)
  refine tl_y rfl (y_assign rfl) ?_
  refine tl_y rfl (y_assign rfl) ?_
  refine tl_nil (.then_normal ?_)
  refine x_seq (x_region ?_)
  refine tl_y rfl (y_assign rfl) ?_
  refine tl_nil (.then_normal ?_)
  refine x_seq (x_seq (x_region ?_))
  refine tl_y rfl (y_move (v := .int _ _) rfl) ?_
  refine tl_y rfl (y_remI rfl rfl (by omega)) ?_
  refine tl_y rfl (y_eql rfl rfl) ?_
  refine tl_nil (.then_normal ?_)
  refine .sub (F' := [(0, _), (4, _), (7, _)]) (.cons rfl (.cons rfl (.cons rfl .nil))) ?_
  refine x_cond rfl (fun hc1 => ?_) (fun hc1 => ?_)
  ·
    refine x_region ?_
    refine tl_y rfl (y_assign rfl) ?_
    refine tl_nil (.then_normal ?_)
    refine x_seq (x_region ?_)
    refine tl_y rfl (y_move (v := .int _ _) rfl) ?_
    refine tl_y rfl (y_quoI rfl rfl (by omega)) ?_
    refine tl_y rfl (y_move (v := .int _ _) rfl) ?_
    refine tl_y rfl (y_assign (v := .int _ _) rfl) ?_
    refine tl_y rfl (y_assign (v := .int _ _) rfl) ?_
    refine tl_nil (.then_normal ?_)
    refine .sub (F' := [(2, _), (3, _)]) (.cons rfl (.cons rfl .nil)) ?_
    refine x_ret (ret2 rfl rfl rfl (Le.refl _) ⟨rfl, rfl, by rw [szN, if_pos (by omega)]; rfl⟩)
  ·
    refine x_skip (.then_normal ?_)
    refine x_seq (x_region ?_)
    refine tl_y rfl (y_move (v := .int _ _) rfl) ?_
    refine tl_y rfl (y_quoI rfl rfl (by omega)) ?_
    refine tl_y rfl (y_move (v := .int _ _) rfl) ?_
    refine tl_y rfl (y_assign (v := .int _ _) rfl) ?_
    refine tl_y rfl (y_assign (v := .int _ _) rfl) ?_
    refine tl_nil (.then_normal ?_)
    refine .sub (F' := [(2, _), (3, _)]) (.cons rfl (.cons rfl .nil)) ?_
    refine x_ret (ret2 rfl rfl rfl (Le.refl _) ⟨rfl, rfl, by rw [szN, if_neg (by omega)]; rfl⟩)
theorem ROts_spec (code : UInt32) :
    Con Tryd.prog 29 #[.int .u32 (code.toNat : Int)] G M L (fun v M' L' => M = M' ∧ L = L' ∧ v = .tuple #[.agg (List.toArray (otsV code).cells), .int .i64 (otsE code)]) noPanic := by
  have hc := code.toNat_lt
  refine enter (args := [_]) (fn := Tryd.f29) ⟨Tryd.func29, rfl, by kernel_rfl, by kernel_rfl⟩ 47 rfl ?_
  refine x_seq (x_region ?_)
  refine tl_e rfl (e_alloc (fun b1 => ?_))
  refine tl_y rfl (y_assign rfl) ?_
  refine tl_nil (.then_normal ?_)
  refine x_seq (x_seq (x_region ?_))
  refine tl_y rfl (y_move (v := .int _ _) rfl) ?_
  refine tl_y rfl (y_lss rfl rfl) ?_
  refine tl_y rfl (y_move (v := .bool _) rfl) ?_
  refine tl_cases (s := 12) rfl (fun hk1 => ?_) (fun hk1 => ?_)
  ·
    have ho : otsOf code = none := by rw [otsOf, if_neg (by omega)]
    refine tl_skip rfl ?_
    refine tl_skip rfl ?_
    refine tl_y rfl (y_pickT rfl rfl) ?_
    refine tl_nil (.then_normal ?_)
    refine .sub (F' := [(0, _), (2, _), (15, _)]) (.cons rfl (.cons rfl (.cons rfl .nil))) ?_
    refine x_true rfl rfl ?_
    refine x_seq (x_region ?_)
    refine tl_y rfl (y_build rfl) ?_
    refine tl_e rfl (e_store rfl rfl (by rfl) (by rfl) inferInstance inferInstance inferInstance ?_)
    refine tl_y rfl (y_assign rfl) ?_
    refine tl_nil (.then_normal ?_)
    refine x_ret (.then_ret (retRV (L' := L) (rv2 rfl (rc_cellAgg (by rfl) rfl (.own inferInstance inferInstance)) (rc_tmp (by rfl))) inferInstance (Le.refl _) ⟨rfl, rfl, by rw [otsV, otsE, ho]; rfl⟩))
  ·
    refine tl_y rfl (y_move (v := .int _ _) rfl) ?_
    refine tl_y rfl (y_gtr rfl rfl) ?_
    refine tl_y rfl (y_pickF rfl rfl) ?_
    refine tl_nil (.then_normal ?_)
    refine .sub (F' := [(0, _), (2, _), (15, _)]) (.cons rfl (.cons rfl (.cons rfl .nil))) ?_
    refine x_cond rfl (fun hc1 => ?_) (fun hc1 => ?_)
    ·
      have ho : otsOf code = none := by rw [otsOf, if_neg (by omega)]
      refine x_seq (x_region ?_)
      refine tl_y rfl (y_build rfl) ?_
      refine tl_e rfl (e_store rfl rfl (by rfl) (by rfl) inferInstance inferInstance inferInstance ?_)
      refine tl_y rfl (y_assign rfl) ?_
      refine tl_nil (.then_normal ?_)
      refine x_ret (.then_ret (retRV (L' := L) (rv2 rfl (rc_cellAgg (by rfl) rfl (.own inferInstance inferInstance)) (rc_tmp (by rfl))) inferInstance (Le.refl _) ⟨rfl, rfl, by rw [otsV, otsE, ho]; rfl⟩))
    ·
      obtain ⟨i, hi⟩ : ∃ i, i = code.toNat - 1 := ⟨_, rfl⟩
      have hi4 : i % 4 < 4 := Nat.mod_lt _ (by omega)
      have hi16 : i < 16 := by omega
      obtain ⟨s1, s2, s3, s4, s5, s6, s7, s8, s9, s10⟩ := shape_fact (szN_is (i / 4)) (w_is i)
      refine x_skip (.then_normal ?_)
      refine x_seq (x_region ?_)
      refine tl_y rfl (y_move (v := .int _ _) rfl) ?_
      refine tl_y rfl (y_subN32 rfl rfl (by omega)) ?_
      refine tl_y rfl (y_convI rfl (by omega)) ?_
      rw [show (code.toNat : Int) - 1 = (i : Int) by omega]
      refine tl_y rfl (y_quoI rfl rfl (by omega)) ?_
      rw [show (i : Int) / 4 = ((i / 4 : Nat) : Int) by omega]
      refine tl_e rfl (e_call' rfl (Rsize_spec (i / 4) (by omega)) ?_)
      rintro _ _ _ _ ⟨rfl, rfl, rfl⟩
      refine tl_y rfl (y_move (v := .tuple _) rfl) ?_
      refine tl_y rfl (y_extract rfl) ?_
      refine tl_y rfl (y_extract rfl) ?_
      refine tl_y rfl (y_assign (v := .int _ _) rfl) ?_
      refine tl_y rfl (y_assign (v := .int _ _) rfl) ?_
      refine tl_nil (.then_normal ?_)
      refine .sub (F' := [(0, _), (2, _), (4, _), (5, _)]) (.cons rfl (.cons rfl (.cons rfl (.cons rfl .nil)))) ?_
      refine x_seq (x_region ?_)
      refine tl_e rfl (e_buildSlice rfl (by decide) (fun b2 => ?_))
      refine tl_y rfl (y_move (v := .int _ _) rfl) ?_
      refine tl_y rfl (y_subN32 rfl rfl (by omega)) ?_
      refine tl_y rfl (y_remI rfl rfl (by omega)) ?_
      rw [show ((code.toNat : Int) - 1) % 4 = ((i % 4 : Nat) : Int) by omega]
      refine tl_y rfl (y_indexAddr rfl rfl (by omega)) ?_
      refine tl_y rfl (y_load rfl rfl (.at_ (.ownAt (i := i % 4) (c := [Value.int .i64 1, .int .i64 2, .int .i64 4, .int .i64 8]) inferInstance (widths_get _ hi4)) (by omega))) ?_
      refine tl_y rfl (y_assign (v := .int _ _) rfl) ?_
      refine tl_nil (.then_normal ?_)
      refine .sub (F' := [(0, _), (2, _), (4, _), (5, _), (6, _)]) (.cons rfl (.cons rfl (.cons rfl (.cons rfl (.cons rfl .nil))))) ?_
      refine x_seq (x_region ?_)
      refine tl_y rfl (y_move (v := .int _ _) rfl) ?_
      refine tl_y rfl (y_move (v := .int _ _) rfl) ?_
      refine tl_e rfl (e_call' rfl (RShape_spec (szN_is (i / 4)) (w_is i)) ?_)
      rintro _ _ _ _ ⟨rfl, rfl, rfl⟩
      refine tl_y rfl (y_move (v := .tuple _) rfl) ?_
      refine tl_y rfl (y_extract rfl) ?_
      refine tl_y rfl (y_extract rfl) ?_
      refine tl_y rfl (y_extract rfl) ?_
      refine tl_y rfl (y_assign (v := .int _ _) rfl) ?_
      refine tl_y rfl (y_assign (v := .int _ _) rfl) ?_
      refine tl_y rfl (y_assign (v := .int _ _) rfl) ?_
      refine tl_nil (.then_normal ?_)
      refine .sub (F' := [(0, _), (2, _), (4, _), (5, _), (6, _), (7, _), (8, _), (9, _)]) (.cons rfl (.cons rfl (.cons rfl (.cons rfl (.cons rfl (.cons rfl (.cons rfl (.cons rfl .nil)))))))) ?_
      refine x_seq (x_region ?_)
      refine tl_y rfl (y_move (v := .int _ _) rfl) ?_
      refine tl_y rfl (y_move (v := .int _ _) rfl) ?_
      refine tl_y rfl (y_move (v := .int _ _) rfl) ?_
      refine tl_y rfl (y_move (v := .int _ _) rfl) ?_
      refine tl_y rfl (y_move (v := .int _ _) rfl) ?_
      refine tl_y rfl (y_move (v := .int _ _) rfl) ?_
      refine tl_y rfl (y_addI rfl rfl (by omega)) ?_
      refine tl_y rfl (y_move (v := .int _ _) rfl) ?_
      refine tl_y rfl (y_build rfl) ?_
      refine tl_e rfl (e_store rfl rfl (by rfl) (by rfl) inferInstance inferInstance inferInstance ?_)
      refine tl_y rfl (y_assign rfl) ?_
      refine tl_nil (.then_normal ?_)
      refine .sub (F' := [(2, _), (3, _)]) (.cons rfl (.cons rfl .nil)) ?_
      refine x_ret (retRV (L' := L) (rv2 rfl (rc_cellAgg (by rfl) rfl (.own inferInstance inferInstance)) (rc_tmp (by rfl))) inferInstance (Le.refl _) ⟨rfl, rfl, by
        rw [otsV, otsE, show otsOf code = some (otsT i) by rw [otsOf, if_pos (by omega), hi]]
        rw [Option.getD_some, otsT]
        show _ = Value.tuple #[.agg (List.toArray [.int .u32 ((UInt32.ofNat (i + 1)).toNat : Int), _, _, _, _, _]), _]
        rw [show (UInt32.ofNat (i + 1)).toNat = code.toNat by rw [UInt32.toNat_ofNat']; omega, show i / 8 = i / 4 / 2 by omega]
        rfl⟩)
end
end Go.Proofs.YtbjnjedfoiedeaaDoor
set_option linter.unusedVariables false
set_option linter.unusedSimpArgs false
set_option linter.constructorNameAsVariable false
namespace Go.Proofs.YtbjnjedfoiedeaaDoor
open Go Go.Eng
section
variable {G : World} {M : Mem} {L : Own}
theorem bool_iff {t : Bool} {p : Prop} [Decidable p] (h : t = true ↔ p) : t = decide p := by
  rw [Bool.eq_iff_iff, h]; simp
theorem RSum_spec (kind n : Int) {A : Option Addr} {m c : Nat} {bs : List UInt8} (hb : RowIn M L 1 A m (bs.map bv)) (hm : m ≤ 1099511627776) :
    Con Tryd.prog 102 #[.int .i64 kind, .int .i64 n, .slice A m c] G M L (fun v M' L' => L = L' ∧ ∃ A' m' c', v = .slice A' m' c' ∧ Bytes M' A' m' c' (cSum kind n bs)) noPanic := by
  refine enter (args := [_, _, _]) (fn := Tryd.f102) ⟨Tryd.func102, rfl, by kernel_rfl, by kernel_rfl⟩ 24 rfl ?_
  refine x_seq (x_region ?_)
  refine tl_y rfl (y_assign rfl) ?_
  refine tl_nil (.then_normal ?_)
  refine x_seq ?_
  refine x_join (I := fun F D M1 L1 => ∃ t : Bool, (t = true ↔ (n ≠ 24 ∧ n ≠ 32)) ∧ D = [] ∧ M = M1 ∧ L = L1 ∧ F = [(0, .int .i64 kind), (1, .int .i64 n), (2, .slice A m c), (12, .bool t)]) ?_ (fun Jq1 => ?_)
  ·
    rintro _ _ _ _ ⟨t, ht, rfl, rfl, rfl, rfl⟩  -- slots [0, 1, 2, 12]
    refine x_condb rfl (fun hc1 => ?_) (fun hc1 => ?_)
    ·
      refine x_seq (x_region ?_)
      refine tl_y rfl (y_assign rfl) ?_
      refine tl_nil (.then_normal ?_)
      refine .sub (F' := [(6, _)]) (.cons rfl .nil) ?_
      refine x_ret (.then_ret (ret1 rfl rfl (Le.refl _) ⟨rfl, _, _, _, rfl, by rw [cSum, if_neg (by have := ht.1 hc1; unfold okC; omega)]; exact Row.nil _ _⟩))
    ·
      have hn : n = 24 ∨ n = 32 := by
        have : ¬ (n ≠ 24 ∧ n ≠ 32) := fun h => by rw [ht.2 h] at hc1; cases hc1
        omega
      obtain ⟨n', rfl⟩ : ∃ n' : Nat, n = n' := ⟨n.toNat, by omega⟩
      refine x_skip (.then_normal ?_)
      refine x_seq (x_seq (x_region ?_))
      refine tl_y rfl (y_move (v := .int _ _) rfl) ?_
      refine tl_y rfl (y_eql rfl rfl) ?_
      refine tl_nil (.then_normal ?_)
      refine x_cond rfl (fun hc2 => ?_) (fun hc2 => ?_)
      ·
        refine x_seq (x_region ?_)
        refine tl_y rfl (y_move (v := .slice _ _ _) rfl) ?_
        refine tl_e rfl (e_call' rfl (ROne_spec hb hm) ?_)
        rintro _ M1 _ hM1 ⟨rfl, A1, c1, rfl, hA1⟩
        have hle1 := hA1.le
        refine tl_y rfl (y_move (v := .int _ _) rfl) ?_
        refine tl_y rfl (y_sliceH rfl rfl (by omega) (by omega)) ?_
        refine tl_y rfl (y_assign (v := .slice _ _ _) rfl) ?_
        refine tl_nil (.then_normal ?_)
        refine .sub (F' := [(6, _)]) (.cons rfl .nil) ?_
        refine x_ret (.then_ret (ret1 rfl rfl hM1 ⟨rfl, _, _, _, rfl, by rw [cSum, if_pos ⟨.inl hc2, hn⟩, csum, if_pos hc2]; exact Bytes.take hA1 n' (by omega)⟩))
      ·
        refine x_skip (.then_normal ?_)
        refine x_seq (x_seq (x_region ?_))
        refine tl_y rfl (y_move (v := .int _ _) rfl) ?_
        refine tl_y rfl (y_eql rfl rfl) ?_
        refine tl_nil (.then_normal ?_)
        refine .sub (F' := [(1, _), (2, _), (20, _)]) (.cons rfl (.cons rfl (.cons rfl .nil))) ?_
        refine x_cond rfl (fun hc3 => ?_) (fun hc3 => ?_)
        ·
          refine x_seq (x_region ?_)
          refine tl_y rfl (y_move (v := .slice _ _ _) rfl) ?_
          refine tl_y rfl (y_move (v := .int _ _) rfl) ?_
          refine tl_e rfl (e_call' rfl (RShSum_spec hb hm n' (by omega)) ?_)
          rintro _ M1 L hM1 ⟨A1, c1, rfl, hA1, rfl⟩
          refine tl_y rfl (y_assign (v := .slice _ _ _) rfl) ?_
          refine tl_nil (.then_normal ?_)
          refine .sub (F' := [(6, _)]) (.cons rfl .nil) ?_
          refine x_ret (.then_ret (ret1 rfl rfl hM1 ⟨rfl, _, _, _, rfl, by rw [cSum, if_pos ⟨.inr hc3, hn⟩, csum, if_neg hc2]; exact hA1⟩))
        ·
          refine x_skip (.then_normal ?_)
          refine x_seq (x_region ?_)
          refine tl_y rfl (y_assign rfl) ?_
          refine tl_nil (.then_normal ?_)
          refine x_ret (ret1 rfl rfl (Le.refl _) ⟨rfl, _, _, _, rfl, by rw [cSum, if_neg (by unfold okC; omega)]; exact Row.nil _ _⟩)
  ·
    refine x_region ?_
    refine tl_y rfl (y_move (v := .int _ _) rfl) ?_
    refine tl_y rfl (y_neq rfl rfl) ?_
    refine tl_y rfl (y_move (v := .bool _) rfl) ?_
    refine tl_cases (s := 9) rfl (fun hk1 => ?_) (fun hk1 => ?_)
    ·
      refine tl_y rfl (y_move (v := .int _ _) rfl) ?_
      refine tl_y rfl (y_neq rfl rfl) ?_
      refine tl_y rfl (y_pickT rfl rfl) ?_
      refine tl_nil (.then_normal (.sub (F' := [(0, _), (1, _), (2, _), (12, _)]) (.cons rfl (.cons rfl (.cons rfl (.cons rfl .nil)))) (Jq1 _ _ _ _ ?_)))
      exact ⟨_, by first | (simp; done) | (simp; omega) | omega, rfl, rfl, rfl, rfl⟩
    ·
      refine tl_skip rfl ?_
      refine tl_skip rfl ?_
      refine tl_y rfl (y_pickF rfl rfl) ?_
      refine tl_nil (.then_normal (.sub (F' := [(0, _), (1, _), (2, _), (12, _)]) (.cons rfl (.cons rfl (.cons rfl (.cons rfl .nil)))) (Jq1 _ _ _ _ ?_)))
      exact ⟨_, by first | (simp; done) | (simp; omega) | omega, rfl, rfl, rfl, rfl⟩
theorem RPutV_spec (v n : Nat) (hv : v < 18446744073709551616) (hn : n ≤ 8) :
    Con Tryd.prog 36 #[.int .u64 (v : Int), .int .i64 (n : Int)] G M L (fun r M' L' => L = L' ∧ ∃ A c, r = .slice A n c ∧ Bytes M' A n c (putB v n)) noPanic := by
  have h := RPut_spec (G := G) (M := M) (L := L) (UInt64.ofNat v) n hn
  rw [UInt64.toNat_ofNat', Nat.mod_eq_of_lt hv] at h
  exact h
theorem RPart_spec (kind n : Int) {NA : Option Addr} {nl nc : Nat} {name : List UInt8} (hname : Bytes M NA nl nc name) (q : UInt32) (d : Nat) (hd : d ≤ 65535) {A : Option Addr} {m c : Nat} {text : List UInt8} (h : Bytes M A m c text) (hm : m ≤ 1000000000000) :
    Con Tryd.prog 81 #[.int .i64 kind, .int .i64 n, .slice NA nl nc, .int .u32 (q.toNat : Int), .int .u16 (d : Int), .slice A m c] G M L (fun v M' L' => L = L' ∧ ∃ A' m' c', v = .slice A' m' c' ∧ Bytes M' A' m' c' (cPart kind n name q.toNat d text)) noPanic := by
  have hnl := hname.size
  have hml := h.size
  have hq := q.toNat_lt
  refine enter (args := [_, _, _, _, _, _]) (fn := Tryd.f81) ⟨Tryd.func81, rfl, by kernel_rfl, by kernel_rfl⟩ 29 rfl ?_
  refine x_seq (x_region ?_)
  refine tl_y rfl (y_assign rfl) ?_
  refine tl_nil (.then_normal ?_)
  refine x_seq (x_seq (x_region ?_))
  refine tl_y rfl (y_move (v := .slice _ _ _) rfl) ?_
  refine tl_y rfl (y_len rfl) ?_
  refine tl_y rfl (y_neq rfl rfl) ?_
  refine tl_nil (.then_normal ?_)
  refine x_cond rfl (fun hc1 => ?_) (fun hc1 => ?_)
  ·
    refine x_seq (x_region ?_)
    refine tl_y rfl (y_assign rfl) ?_
    refine tl_nil (.then_normal ?_)
    refine .sub (F' := [(12, _)]) (.cons rfl .nil) ?_
    refine x_ret (.then_ret (ret1 rfl rfl (Le.refl _) ⟨rfl, _, _, _, rfl, by rw [cPart, if_neg (by omega)]; exact Row.nil _ _⟩))
  ·
    refine x_skip (.then_normal ?_)
    refine .sub (F' := [(0, _), (1, _), (2, _), (3, _), (4, _), (5, _)]) (.cons rfl (.cons rfl (.cons rfl (.cons rfl (.cons rfl (.cons rfl .nil)))))) ?_
    refine x_seq (x_region ?_)
    refine tl_y rfl (y_move (v := .int _ _) rfl) ?_
    refine tl_y rfl (y_move (v := .int _ _) rfl) ?_
    refine tl_y rfl (y_move (v := .slice _ _ _) rfl) ?_
    refine tl_y rfl (y_move (v := .int _ _) rfl) ?_
    refine tl_y rfl (y_convN64 rfl (by omega)) ?_
    refine tl_e rfl (e_call' rfl (RPutV_spec q.toNat 4 (by omega) (by omega)) ?_)
    rintro _ M1 _ hM1 ⟨rfl, A1, c1, rfl, hA1⟩
    refine tl_y rfl (y_move (v := .int _ _) rfl) ?_
    refine tl_y rfl (y_convN64 rfl (by omega)) ?_
    refine tl_e rfl (e_call' rfl (RPutV_spec d 2 (by omega) (by omega)) ?_)
    rintro _ M2 _ hM2 ⟨rfl, A2, c2, rfl, hA2⟩
    refine tl_y rfl (y_move (v := .slice _ _ _) rfl) ?_
    refine tl_e rfl (e_buildSlice rfl (by decide) (fun b1 => ?_))
    refine .pub b1 inferInstance (fun M3 hM3 hb1 => ?_)
    have hm3 := hM1.trans (hM2.trans hM3)
    have hfl : [name, putB q.toNat 4, putB d 2, text].flatten = name ++ (putB q.toNat 4 ++ (putB d 2 ++ text)) := by simp
    have hfll : (name ++ (putB q.toNat 4 ++ (putB d 2 ++ text))).length = nl + 6 + m := by rw [List.length_append, List.length_append, List.length_append, putB_length, putB_length, hnl, hml]; omega
    refine tl_e rfl (e_call' rfl (RCat_own (Row.whole hb1 rfl (by omega)) (.cons (hname.mono hm3) (.cons (hA1.mono (hM2.trans hM3)) (.cons (hA2.mono hM3) (.cons (h.mono hm3) .nil)))) (by rw [hfl, hfll]; omega)) ?_)
    rintro _ _ _ _ ⟨rfl, A4, c4, E4, rfl, hE4, rfl⟩
    rw [hfl, hfll] at hE4
    rw [hfl, hfll]
    refine tl_e rfl (e_call' rfl (RSum_spec kind n (hE4.in_ inferInstance (by omega)) (by omega)) ?_)
    rintro _ M5 _ hM5 ⟨rfl, A5, m5, c5, rfl, hA5⟩
    refine tl_y rfl (y_assign (v := .slice _ _ _) rfl) ?_
    refine tl_nil (.then_normal ?_)
    refine .sub (F' := [(12, _)]) (.cons rfl .nil) ?_
    refine x_ret (.dropTo L inferInstance (ret1 rfl rfl (hm3.trans hM5) ⟨rfl, _, _, _, rfl, by rw [cPart, if_pos (by omega)]; exact hA5⟩))
theorem RRight_spec (o : OtsV) {NA XA : Option Addr} {nl nc xl xc : Nat} (i : Int) :
    Con Tryd.prog 107 #[.agg (List.toArray o.cells), .slice NA nl nc, .int .i64 i, .slice XA xl xc] G M L (fun v M' L' => M = M' ∧ L = L' ∧ v = .bool (decide (okR o nl i xl))) noPanic := by
  refine enter (args := [_, _, _, _]) (fn := Tryd.f107) ⟨Tryd.func107, rfl, by kernel_rfl, by kernel_rfl⟩ 46 rfl ?_
  refine x_seq (x_region ?_)
  refine tl_e rfl (e_box rfl (fun b1 => ?_))
  refine tl_y rfl (y_assign rfl) ?_
  refine tl_nil (.then_normal ?_)
  refine x_seq (x_region ?_)
  refine tl_y rfl (y_fieldAddr rfl) ?_
  refine tl_y rfl (y_load rfl rfl (.own inferInstance inferInstance)) ?_
  refine tl_e rfl (e_call' rfl (ROts_spec o.code) ?_)
  rintro _ _ _ _ ⟨rfl, rfl, rfl⟩
  refine tl_y rfl (y_move (v := .tuple _) rfl) ?_
  refine tl_y rfl (y_extract rfl) ?_
  refine tl_y rfl (y_extract rfl) ?_
  refine tl_e rfl (e_alloc (fun b2 => ?_))
  refine tl_e rfl (e_store rfl rfl (by rfl) (by rfl) inferInstance inferInstance inferInstance ?_)
  refine tl_y rfl (y_assign (v := .int _ _) rfl) ?_
  refine tl_nil (.then_normal ?_)
  refine .sub (F' := [(1, _), (2, _), (3, _), (4, _), (9, _), (10, _)]) (.cons rfl (.cons rfl (.cons rfl (.cons rfl (.cons rfl (.cons rfl .nil)))))) ?_
  refine x_join (I := fun F D M1 L1 => ∃ t : Bool, (t = true ↔ okR o nl i xl) ∧ D = [] ∧ M = M1 ∧ DropTo L1 L ∧ F = [(8, .bool t)]) ?_ (fun Jq2 => ?_)
  ·
    rintro _ _ M1 L1 ⟨t, ht, rfl, rfl, hdr, rfl⟩  -- slots [8]
    refine x_ret (.dropTo L hdr (ret1 rfl rfl (Le.refl _) ⟨rfl, rfl, by rw [bool_iff ht]⟩))
  ·
    refine x_region ?_
    refine tl_y rfl (y_move (v := .int _ _) rfl) ?_
    refine tl_y rfl (y_eql rfl rfl) ?_
    refine tl_y rfl (y_move (v := .bool _) rfl) ?_
    refine tl_cases (s := 19) rfl (fun hk1 => ?_) (fun hk1 => ?_)
    ·
      refine tl_y rfl (y_loadAgg rfl rfl (.own inferInstance inferInstance)) ?_
      refine tl_y rfl (y_loadAgg rfl rfl (.own inferInstance inferInstance)) ?_
      refine tl_y rfl (y_eqlS rfl rfl eqs62) ?_
      refine tl_y rfl (y_pickT rfl rfl) ?_
      refine tl_y rfl (y_move (v := .bool _) rfl) ?_
      refine tl_cases (s := 24) rfl (fun hk2 => ?_) (fun hk2 => ?_)
      ·
        refine tl_y rfl (y_move (v := .slice _ _ _) rfl) ?_
        refine tl_y rfl (y_len rfl) ?_
        refine tl_y rfl (y_eql rfl rfl) ?_
        refine tl_y rfl (y_pickT rfl rfl) ?_
        refine tl_y rfl (y_move (v := .bool _) rfl) ?_
        refine tl_cases (s := 29) rfl (fun hk3 => ?_) (fun hk3 => ?_)
        ·
          refine tl_y rfl (y_move (v := .int _ _) rfl) ?_
          refine tl_y rfl (y_geq rfl rfl) ?_
          refine tl_y rfl (y_pickT rfl rfl) ?_
          refine tl_y rfl (y_move (v := .bool _) rfl) ?_
          refine tl_cases (s := 33) rfl (fun hk4 => ?_) (fun hk4 => ?_)
          ·
            refine tl_y rfl (y_move (v := .int _ _) rfl) ?_
            refine tl_y rfl (y_fieldAddr rfl) ?_
            refine tl_y rfl (y_load rfl rfl (.own inferInstance inferInstance)) ?_
            refine tl_y rfl (y_lss rfl rfl) ?_
            refine tl_y rfl (y_pickT rfl rfl) ?_
            refine tl_y rfl (y_move (v := .bool _) rfl) ?_
            refine tl_cases (s := 39) rfl (fun hk5 => ?_) (fun hk5 => ?_)
            ·
              refine tl_y rfl (y_move (v := .slice _ _ _) rfl) ?_
              refine tl_y rfl (y_len rfl) ?_
              refine tl_y rfl (y_fieldAddr rfl) ?_
              refine tl_y rfl (y_load rfl rfl (.own inferInstance inferInstance)) ?_
              refine tl_y rfl (y_eql rfl rfl) ?_
              refine tl_y rfl (y_pickT rfl rfl) ?_
              refine tl_y rfl (y_assign (v := .bool _) rfl) ?_
              refine tl_nil (.then_normal (.sub (F' := [(8, _)]) (.cons rfl .nil) (Jq2 _ _ _ _ ?_)))
              exact ⟨_, by
                constructor
                · intro ht
                  first | (cases ht; done) | (simp at ht; exact ⟨hk1, ots_eq hk2, by omega, by omega, by omega, by omega⟩)
                · rintro ⟨a1, a2, a3, a4, a5, a6⟩
                  first | exact absurd a1 hk1 | exact absurd (eq_ots a2) hk2 | (simp; omega) | omega, rfl, rfl, inferInstance, rfl⟩
            ·
              refine tl_skip rfl ?_
              refine tl_skip rfl ?_
              refine tl_skip rfl ?_
              refine tl_skip rfl ?_
              refine tl_skip rfl ?_
              refine tl_y rfl (y_pickF rfl rfl) ?_
              refine tl_y rfl (y_assign (v := .bool _) rfl) ?_
              refine tl_nil (.then_normal (.sub (F' := [(8, _)]) (.cons rfl .nil) (Jq2 _ _ _ _ ?_)))
              exact ⟨_, by
                constructor
                · intro ht
                  first | (cases ht; done) | (simp at ht; exact ⟨hk1, ots_eq hk2, by omega, by omega, by omega, by omega⟩)
                · rintro ⟨a1, a2, a3, a4, a5, a6⟩
                  first | exact absurd a1 hk1 | exact absurd (eq_ots a2) hk2 | (simp; omega) | omega, rfl, rfl, inferInstance, rfl⟩
          ·
            refine tl_skip rfl ?_
            refine tl_skip rfl ?_
            refine tl_skip rfl ?_
            refine tl_skip rfl ?_
            refine tl_y rfl (y_pickF rfl rfl) ?_
            refine tl_y rfl (y_move (v := .bool _) rfl) ?_
            refine tl_skip rfl ?_
            refine tl_skip rfl ?_
            refine tl_skip rfl ?_
            refine tl_skip rfl ?_
            refine tl_skip rfl ?_
            refine tl_y rfl (y_pickF rfl rfl) ?_
            refine tl_y rfl (y_assign (v := .bool _) rfl) ?_
            refine tl_nil (.then_normal (.sub (F' := [(8, _)]) (.cons rfl .nil) (Jq2 _ _ _ _ ?_)))
            exact ⟨_, by
              constructor
              · intro ht
                first | (cases ht; done) | (simp at ht; exact ⟨hk1, ots_eq hk2, by omega, by omega, by omega, by omega⟩)
              · rintro ⟨a1, a2, a3, a4, a5, a6⟩
                first | exact absurd a1 hk1 | exact absurd (eq_ots a2) hk2 | (simp; omega) | omega, rfl, rfl, inferInstance, rfl⟩
        ·
          refine tl_skip rfl ?_
          refine tl_skip rfl ?_
          refine tl_y rfl (y_pickF rfl rfl) ?_
          refine tl_y rfl (y_move (v := .bool _) rfl) ?_
          refine tl_skip rfl ?_
          refine tl_skip rfl ?_
          refine tl_skip rfl ?_
          refine tl_skip rfl ?_
          refine tl_y rfl (y_pickF rfl rfl) ?_
          refine tl_y rfl (y_move (v := .bool _) rfl) ?_
          refine tl_skip rfl ?_
          refine tl_skip rfl ?_
          refine tl_skip rfl ?_
          refine tl_skip rfl ?_
          refine tl_skip rfl ?_
          refine tl_y rfl (y_pickF rfl rfl) ?_
          refine tl_y rfl (y_assign (v := .bool _) rfl) ?_
          refine tl_nil (.then_normal (.sub (F' := [(8, _)]) (.cons rfl .nil) (Jq2 _ _ _ _ ?_)))
          exact ⟨_, by
            constructor
            · intro ht
              first | (cases ht; done) | (simp at ht; exact ⟨hk1, ots_eq hk2, by omega, by omega, by omega, by omega⟩)
            · rintro ⟨a1, a2, a3, a4, a5, a6⟩
              first | exact absurd a1 hk1 | exact absurd (eq_ots a2) hk2 | (simp; omega) | omega, rfl, rfl, inferInstance, rfl⟩
      ·
        refine tl_skip rfl ?_
        refine tl_skip rfl ?_
        refine tl_skip rfl ?_
        refine tl_y rfl (y_pickF rfl rfl) ?_
        refine tl_y rfl (y_move (v := .bool _) rfl) ?_
        refine tl_skip rfl ?_
        refine tl_skip rfl ?_
        refine tl_y rfl (y_pickF rfl rfl) ?_
        refine tl_y rfl (y_move (v := .bool _) rfl) ?_
        refine tl_skip rfl ?_
        refine tl_skip rfl ?_
        refine tl_skip rfl ?_
        refine tl_skip rfl ?_
        refine tl_y rfl (y_pickF rfl rfl) ?_
        refine tl_y rfl (y_move (v := .bool _) rfl) ?_
        refine tl_skip rfl ?_
        refine tl_skip rfl ?_
        refine tl_skip rfl ?_
        refine tl_skip rfl ?_
        refine tl_skip rfl ?_
        refine tl_y rfl (y_pickF rfl rfl) ?_
        refine tl_y rfl (y_assign (v := .bool _) rfl) ?_
        refine tl_nil (.then_normal (.sub (F' := [(8, _)]) (.cons rfl .nil) (Jq2 _ _ _ _ ?_)))
        exact ⟨_, by
          constructor
          · intro ht
            first | (cases ht; done) | (simp at ht; exact ⟨hk1, ots_eq hk2, by omega, by omega, by omega, by omega⟩)
          · rintro ⟨a1, a2, a3, a4, a5, a6⟩
            first | exact absurd a1 hk1 | exact absurd (eq_ots a2) hk2 | (simp; omega) | omega, rfl, rfl, inferInstance, rfl⟩
    ·
      refine tl_skip rfl ?_
      refine tl_skip rfl ?_
      refine tl_skip rfl ?_
      refine tl_y rfl (y_pickF rfl rfl) ?_
      refine tl_y rfl (y_move (v := .bool _) rfl) ?_
      refine tl_skip rfl ?_
      refine tl_skip rfl ?_
      refine tl_skip rfl ?_
      refine tl_y rfl (y_pickF rfl rfl) ?_
      refine tl_y rfl (y_move (v := .bool _) rfl) ?_
      refine tl_skip rfl ?_
      refine tl_skip rfl ?_
      refine tl_y rfl (y_pickF rfl rfl) ?_
      refine tl_y rfl (y_move (v := .bool _) rfl) ?_
      refine tl_skip rfl ?_
      refine tl_skip rfl ?_
      refine tl_skip rfl ?_
      refine tl_skip rfl ?_
      refine tl_y rfl (y_pickF rfl rfl) ?_
      refine tl_y rfl (y_move (v := .bool _) rfl) ?_
      refine tl_skip rfl ?_
      refine tl_skip rfl ?_
      refine tl_skip rfl ?_
      refine tl_skip rfl ?_
      refine tl_skip rfl ?_
      refine tl_y rfl (y_pickF rfl rfl) ?_
      refine tl_y rfl (y_assign (v := .bool _) rfl) ?_
      refine tl_nil (.then_normal (.sub (F' := [(8, _)]) (.cons rfl .nil) (Jq2 _ _ _ _ ?_)))
      exact ⟨_, by
        constructor
        · intro ht
          first | (cases ht; done) | (simp at ht; exact ⟨hk1, ots_eq hk2, by omega, by omega, by omega, by omega⟩)
        · rintro ⟨a1, a2, a3, a4, a5, a6⟩
          first | exact absurd a1 hk1 | exact absurd (eq_ots a2) hk2 | (simp; omega) | omega, rfl, rfl, inferInstance, rfl⟩
end
end Go.Proofs.YtbjnjedfoiedeaaDoor
set_option linter.unusedVariables false
set_option linter.unusedSimpArgs false
set_option linter.constructorNameAsVariable false
namespace Go.Proofs.YtbjnjedfoiedeaaDoor
open Go Go.Eng
structure MrG (M : Mem) : Prop where
  sha : ShaG M
  kec : KecG M
  set : SetT M
theorem MrG.mono {M M' : Mem} (h : MrG M) (hle : Le M M') : MrG M' := ⟨h.sha.mono hle, h.kec.mono hle, h.set.mono hle⟩
theorem shl32_h {H : Nat} (h : H ≤ 25) : (shl32 1 H).toNat = pw2 H := by
  have h1 := pw2_25 h
  have h2 : pw2 H = 2 ^ H := rfl
  rw [shl32, UInt32.toNat_ofNat', show (1 : UInt32).toNat = 1 from rfl, Nat.one_mul, ← h2, Nat.mod_eq_of_lt (by omega)]
section
variable {G : World} {M : Mem} {L : Own}
theorem mright_spec (hg : MrG M) (t : TreeV) {NA : Option Addr} {nl nc : Nat} :
    Con Tryd.prog 49 #[.agg (List.toArray t.cells), .slice NA nl nc] G M L (fun v M' L' => L = L' ∧ v = .bool (decide (okS t nl))) noPanic := by
  refine enter (args := [_, _]) (fn := Tryd.f49) ⟨Tryd.func49, rfl, by kernel_rfl, by kernel_rfl⟩ 25 rfl ?_
  refine x_seq (x_region ?_)
  refine tl_e rfl (e_box rfl (fun b1 => ?_))
  refine tl_y rfl (y_assign rfl) ?_
  refine tl_nil (.then_normal ?_)
  refine x_seq (x_region ?_)
  refine tl_y rfl (y_fieldAddr rfl) ?_
  refine tl_y rfl (y_load rfl rfl (.own inferInstance inferInstance)) ?_
  refine tl_e rfl (e_call' rfl (Tree_spec hg.set t.code) ?_)
  rintro _ M1 _ hM1 ⟨rfl, rfl⟩
  refine tl_y rfl (y_move (v := .tuple _) rfl) ?_
  refine tl_y rfl (y_extract rfl) ?_
  refine tl_y rfl (y_extract rfl) ?_
  refine tl_e rfl (e_alloc (fun b2 => ?_))
  refine tl_e rfl (e_store rfl rfl (by rfl) (by rfl) inferInstance inferInstance inferInstance ?_)
  refine tl_y rfl (y_assign (v := .int _ _) rfl) ?_
  refine tl_nil (.then_normal ?_)
  refine .sub (F' := [(1, _), (2, _), (5, _), (6, _)]) (.cons rfl (.cons rfl (.cons rfl (.cons rfl .nil)))) ?_
  refine x_join (I := fun F D M2 L2 => ∃ b : Bool, (b = true ↔ okS t nl) ∧ D = [] ∧ M1 = M2 ∧ DropTo L2 L ∧ F = [(4, .bool b)]) ?_ (fun Jq2 => ?_)
  ·
    rintro _ _ _ L2 ⟨b, hb, rfl, rfl, hdr, rfl⟩  -- slots [4]
    refine x_ret (.dropTo L hdr (ret1 rfl rfl hM1 ⟨rfl, by rw [bool_iff hb]⟩))
  ·
    refine x_region ?_
    refine tl_y rfl (y_move (v := .int _ _) rfl) ?_
    refine tl_y rfl (y_eql rfl rfl) ?_
    refine tl_y rfl (y_move (v := .bool _) rfl) ?_
    refine tl_cases (s := 15) rfl (fun hk1 => ?_) (fun hk1 => ?_)
    ·
      refine tl_y rfl (y_loadAgg rfl rfl (.own inferInstance inferInstance)) ?_
      refine tl_y rfl (y_loadAgg rfl rfl (.own inferInstance inferInstance)) ?_
      refine tl_y rfl (y_eqlS rfl rfl eqs30) ?_
      refine tl_y rfl (y_pickT rfl rfl) ?_
      refine tl_y rfl (y_move (v := .bool _) rfl) ?_
      refine tl_cases (s := 20) rfl (fun hk2 => ?_) (fun hk2 => ?_)
      ·
        refine tl_y rfl (y_move (v := .slice _ _ _) rfl) ?_
        refine tl_y rfl (y_len rfl) ?_
        refine tl_y rfl (y_eql rfl rfl) ?_
        refine tl_y rfl (y_pickT rfl rfl) ?_
        refine tl_y rfl (y_assign (v := .bool _) rfl) ?_
        refine tl_nil (.then_normal (.sub (F' := [(4, _)]) (.cons rfl .nil) (Jq2 _ _ _ _ ?_)))
        exact ⟨_, by
          constructor
          · intro ht
            first | (cases ht; done) | (simp at ht; exact ⟨hk1, tree_eq hk2, by omega⟩)
          · rintro ⟨a1, a2, a3⟩
            first | exact absurd a1 hk1 | exact absurd (eq_tree a2) hk2 | (simp; omega) | omega, rfl, rfl, inferInstance, rfl⟩
      ·
        refine tl_skip rfl ?_
        refine tl_skip rfl ?_
        refine tl_skip rfl ?_
        refine tl_y rfl (y_pickF rfl rfl) ?_
        refine tl_y rfl (y_assign (v := .bool _) rfl) ?_
        refine tl_nil (.then_normal (.sub (F' := [(4, _)]) (.cons rfl .nil) (Jq2 _ _ _ _ ?_)))
        exact ⟨_, by
          constructor
          · intro ht
            first | (cases ht; done) | (simp at ht; exact ⟨hk1, tree_eq hk2, by omega⟩)
          · rintro ⟨a1, a2, a3⟩
            first | exact absurd a1 hk1 | exact absurd (eq_tree a2) hk2 | (simp; omega) | omega, rfl, rfl, inferInstance, rfl⟩
    ·
      refine tl_skip rfl ?_
      refine tl_skip rfl ?_
      refine tl_skip rfl ?_
      refine tl_y rfl (y_pickF rfl rfl) ?_
      refine tl_y rfl (y_move (v := .bool _) rfl) ?_
      refine tl_skip rfl ?_
      refine tl_skip rfl ?_
      refine tl_skip rfl ?_
      refine tl_y rfl (y_pickF rfl rfl) ?_
      refine tl_y rfl (y_assign (v := .bool _) rfl) ?_
      refine tl_nil (.then_normal (.sub (F' := [(4, _)]) (.cons rfl .nil) (Jq2 _ _ _ _ ?_)))
      exact ⟨_, by
        constructor
        · intro ht
          first | (cases ht; done) | (simp at ht; exact ⟨hk1, tree_eq hk2, by omega⟩)
        · rintro ⟨a1, a2, a3⟩
          first | exact absurd a1 hk1 | exact absurd (eq_tree a2) hk2 | (simp; omega) | omega, rfl, rfl, inferInstance, rfl⟩
theorem May_spec (hg : MrG M) (t : TreeV) {NA KA : Option Addr} {nl nc kl kc : Nat} (hk : kl ≤ 9223372036854775807) :
    Con Tryd.prog 22 #[.agg (List.toArray t.cells), .slice NA nl nc, .slice KA kl kc] G M L (fun v M' L' => L = L' ∧ v = .bool (decide (okM t nl kl))) noPanic := by
  refine enter (args := [_, _, _]) (fn := Tryd.f22) ⟨Tryd.func22, rfl, by kernel_rfl, by kernel_rfl⟩ 23 rfl ?_
  refine x_seq (x_region ?_)
  refine tl_e rfl (e_box rfl (fun b1 => ?_))
  refine tl_y rfl (y_assign rfl) ?_
  refine tl_nil (.then_normal ?_)
  refine x_join (I := fun F D M2 L2 => ∃ b : Bool, (b = true ↔ okM t nl kl) ∧ D = [] ∧ Le M M2 ∧ DropTo L2 L ∧ F = [(6, .bool b)]) ?_ (fun Jq1 => ?_)
  ·
    rintro _ _ _ L2 ⟨b, hb, rfl, hm, hdr, rfl⟩  -- slots [6]
    refine x_ret (.dropTo L hdr (ret1 rfl rfl hm ⟨rfl, by rw [bool_iff hb]⟩))
  ·
    refine x_region ?_
    refine tl_y rfl (y_loadAgg rfl rfl (.own inferInstance inferInstance)) ?_
    refine tl_y rfl (y_move (v := .slice _ _ _) rfl) ?_
    refine tl_e rfl (e_call' rfl (mright_spec hg t) ?_)
    rintro _ M1 _ hM1 ⟨rfl, rfl⟩
    refine tl_y rfl (y_move (v := .bool _) rfl) ?_
    refine tl_casesb (s := 10) rfl (fun hk1 => ?_) (fun hk1 => ?_)
    ·
      refine tl_y rfl (y_fieldAddr rfl) ?_
      refine tl_y rfl (y_load rfl rfl (.own inferInstance inferInstance)) ?_
      refine tl_y rfl (y_leq rfl rfl) ?_
      refine tl_y rfl (y_pickT rfl rfl) ?_
      refine tl_y rfl (y_move (v := .bool _) rfl) ?_
      refine tl_cases (s := 15) rfl (fun hk2 => ?_) (fun hk2 => ?_)
      ·
        refine tl_y rfl (y_move (v := .slice _ _ _) rfl) ?_
        refine tl_y rfl (y_len rfl) ?_
        refine tl_y rfl (y_convN64 rfl (by omega)) ?_
        refine tl_y rfl (y_loadAgg rfl rfl (.own inferInstance inferInstance)) ?_
        refine tl_e rfl (e_call' rfl (Leaves_spec t) ?_)
        rintro _ _ _ _ ⟨rfl, rfl, rfl⟩
        refine tl_y rfl (y_eql rfl rfl) ?_
        refine tl_y rfl (y_pickT rfl rfl) ?_
        refine tl_y rfl (y_assign (v := .bool _) rfl) ?_
        refine tl_nil (.then_normal (.sub (F' := [(6, _)]) (.cons rfl .nil) (Jq1 _ _ _ _ ?_)))
        exact ⟨_, by
          constructor
          · intro ht
            first | (cases ht; done) | (simp at ht; exact ⟨by simpa using hk1, by omega, by omega⟩)
          · rintro ⟨a1, a2, a3⟩
            first | exact absurd (by simpa using a1) hk1 | exact absurd (decide_eq_true a1) hk1 | (simp [a1] at hk1; done) | (simp; omega) | omega, rfl, hM1, inferInstance, rfl⟩
      ·
        refine tl_skip rfl ?_
        refine tl_skip rfl ?_
        refine tl_skip rfl ?_
        refine tl_skip rfl ?_
        refine tl_skip rfl ?_
        refine tl_skip rfl ?_
        refine tl_y rfl (y_pickF rfl rfl) ?_
        refine tl_y rfl (y_assign (v := .bool _) rfl) ?_
        refine tl_nil (.then_normal (.sub (F' := [(6, _)]) (.cons rfl .nil) (Jq1 _ _ _ _ ?_)))
        exact ⟨_, by
          constructor
          · intro ht
            first | (cases ht; done) | (simp at ht; exact ⟨by simpa using hk1, by omega, by omega⟩)
          · rintro ⟨a1, a2, a3⟩
            first | exact absurd (by simpa using a1) hk1 | exact absurd (decide_eq_true a1) hk1 | (simp [a1] at hk1; done) | (simp; omega) | omega, rfl, hM1, inferInstance, rfl⟩
    ·
      refine tl_skip rfl ?_
      refine tl_skip rfl ?_
      refine tl_skip rfl ?_
      refine tl_y rfl (y_pickF rfl rfl) ?_
      refine tl_y rfl (y_move (v := .bool _) rfl) ?_
      refine tl_skip rfl ?_
      refine tl_skip rfl ?_
      refine tl_skip rfl ?_
      refine tl_skip rfl ?_
      refine tl_skip rfl ?_
      refine tl_skip rfl ?_
      refine tl_y rfl (y_pickF rfl rfl) ?_
      refine tl_y rfl (y_assign (v := .bool _) rfl) ?_
      refine tl_nil (.then_normal (.sub (F' := [(6, _)]) (.cons rfl .nil) (Jq1 _ _ _ _ ?_)))
      exact ⟨_, by
        constructor
        · intro ht
          first | (cases ht; done) | (simp at ht; exact ⟨by simpa using hk1, by omega, by omega⟩)
        · rintro ⟨a1, a2, a3⟩
          first | exact absurd (by simpa using a1) hk1 | exact absurd (decide_eq_true a1) hk1 | (simp [a1] at hk1; done) | (simp; omega) | omega, rfl, hM1, inferInstance, rfl⟩
theorem leaf_spec (hg : MrG M) (t : TreeV) {H : Nat} (hH : t.h = (H : Int)) (hH5 : H ≤ 25) {NA : Option Addr} {nl nc : Nat} {name : List UInt8} (hname : Bytes M NA nl nc name) (q : UInt32) (hq : q.toNat < pw2 H) {A : Option Addr} {m c : Nat} {key : List UInt8} (h : Bytes M A m c key) (hm : m ≤ 1000000000000) :
    Con Tryd.prog 54 #[.agg (List.toArray t.cells), .slice NA nl nc, .int .u32 (q.toNat : Int), .slice A m c] G M L (fun v M' L' => L = L' ∧ ∃ A' m' c', v = .slice A' m' c' ∧ Bytes M' A' m' c' (leafB t name q.toNat key)) noPanic := by
  have hp := pw2_25 hH5
  have hms := h.size
  obtain ⟨x, hx⟩ : ∃ x : UInt32, x.toNat = pw2 H + q.toNat := ⟨UInt32.ofNat (pw2 H + q.toNat), by rw [UInt32.toNat_ofNat', Nat.mod_eq_of_lt (by omega)]⟩
  refine enter (args := [_, _, _, _]) (fn := Tryd.f54) ⟨Tryd.func54, rfl, by kernel_rfl, by kernel_rfl⟩ 22 rfl ?_
  refine x_seq (x_region ?_)
  refine tl_e rfl (e_box rfl (fun b1 => ?_))
  refine tl_y rfl (y_assign rfl) ?_
  refine tl_nil (.then_normal ?_)
  refine x_seq ?_
  have hd : Le M M := Le.refl _
  refine x_draw 14 hmix rfl ?_
  refine to_p 0 rfl (by kernel_rfl) rfl (y_fieldAddr rfl) ?_
  refine to_y 1 rfl (by kernel_rfl) rfl (y_load rfl rfl (.own inferInstance inferInstance)) ?_
  refine to_p 2 rfl (by kernel_rfl) rfl (y_fieldAddr rfl) ?_
  refine to_y 3 rfl (by kernel_rfl) rfl (y_load rfl rfl (.own inferInstance inferInstance)) ?_
  refine to_p 4 rfl (by kernel_rfl) rfl (y_move (v := .slice _ _ _) rfl) ?_
  refine to_p 5 rfl (by kernel_rfl) rfl (y_fieldAddr rfl) ?_
  refine to_y 6 rfl (by kernel_rfl) rfl (y_load rfl rfl (.own inferInstance inferInstance)) ?_
  rw [hH]
  refine to_p 7 rfl (by kernel_rfl) rfl (y_shl32 (a := 1) rfl rfl) ?_
  rw [show u32v (shl32 1 H) = .int .u32 ((pw2 H : Nat) : Int) from congrArg (fun (x : Nat) => Value.int .u32 (x : Int)) (shl32_h hH5)]
  refine to_p 8 rfl (by kernel_rfl) rfl (y_move (v := .int _ _) rfl) ?_
  refine to_p 9 rfl (by kernel_rfl) rfl (y_addN32 rfl rfl (by omega)) ?_
  rw [show ((pw2 H : Nat) : Int) + (q.toNat : Int) = ((x.toNat : Nat) : Int) by rw [hx]; omega]
  refine to_p 10 rfl (by kernel_rfl) rfl (y_move (v := .slice _ _ _) rfl) ?_
  refine to_e 11 rfl (by kernel_rfl) rfl (e_buildSlice rfl (by decide) (fun b2 => ?_))
  refine ⟨⟨hd, Keeps.mem⟩, ?_⟩
  refine .pub b2 inferInstance (fun M1 hM1 hb2 => ?_)
  replace hd := hd.trans hM1
  refine to_e 12 rfl (by kernel_rfl) rfl (e_call' rfl (Part_spec (hg.mono hd).sha (hg.mono hd).kec t.kind t.n (hname.mono hd) x 33410 (by omega) (Row.whole hb2 rfl (by omega)) (.cons (h.mono hd) .nil) (by simp; omega)) ?_)
  rintro _ M2 _ hM2 ⟨rfl, A2, m2, c2, rfl, hA2⟩
  rw [hx, show [key].flatten = key by simp] at hA2
  replace hd := hd.trans hM2
  refine ⟨⟨(by first | exact Le.refl _ | assumption), Keeps.mem⟩, ?_⟩
  refine to_p 13 rfl (by kernel_rfl) rfl (y_assign (v := .slice _ _ _) rfl) ?_
  refine to_nil (by kernel_rfl) (.then_normal ?_)
  refine .sub (F' := [(8, _)]) (.cons rfl .nil) ?_
  refine x_ret (.dropTo L inferInstance (ret1 rfl rfl hd ⟨rfl, _, _, _, rfl, by rw [leafB, hH, Int.toNat_natCast]; exact hA2⟩))
theorem inner_spec (hg : MrG M) (t : TreeV) {NA : Option Addr} {nl nc : Nat} {name : List UInt8} (hname : Bytes M NA nl nc name) (q : UInt32) {A B : Option Addr} {m c m2 c2 : Nat} {x y : List UInt8} (h : Bytes M A m c x) (hm : m ≤ 100000000000) (h2 : Bytes M B m2 c2 y) (hm2 : m2 ≤ 100000000000) :
    Con Tryd.prog 55 #[.agg (List.toArray t.cells), .slice NA nl nc, .int .u32 (q.toNat : Int), .slice A m c, .slice B m2 c2] G M L (fun v M' L' => L = L' ∧ ∃ A' m' c', v = .slice A' m' c' ∧ Bytes M' A' m' c' (innB t name q.toNat (x ++ y))) noPanic := by
  have hms := h.size
  have hms2 := h2.size
  refine enter (args := [_, _, _, _, _]) (fn := Tryd.f55) ⟨Tryd.func55, rfl, by kernel_rfl, by kernel_rfl⟩ 21 rfl ?_
  refine x_seq (x_region ?_)
  refine tl_e rfl (e_box rfl (fun b1 => ?_))
  refine tl_y rfl (y_assign rfl) ?_
  refine tl_nil (.then_normal ?_)
  refine x_seq (x_region ?_)
  refine tl_y rfl (y_fieldAddr rfl) ?_
  refine tl_y rfl (y_load rfl rfl (.own inferInstance inferInstance)) ?_
  refine tl_y rfl (y_fieldAddr rfl) ?_
  refine tl_y rfl (y_load rfl rfl (.own inferInstance inferInstance)) ?_
  refine tl_y rfl (y_move (v := .slice _ _ _) rfl) ?_
  refine tl_y rfl (y_move (v := .int _ _) rfl) ?_
  refine tl_y rfl (y_move (v := .slice _ _ _) rfl) ?_
  refine tl_y rfl (y_move (v := .slice _ _ _) rfl) ?_
  refine tl_e rfl (e_buildSlice rfl (by decide) (fun b2 => ?_))
  refine .pub b2 inferInstance (fun M1 hd hb2 => ?_)
  refine tl_e rfl (e_call' rfl (Part_spec (hg.mono hd).sha (hg.mono hd).kec t.kind t.n (hname.mono hd) q 33667 (by omega) (Row.whole hb2 rfl (by omega)) (.cons (h.mono hd) (.cons (h2.mono hd) .nil)) (by simp; omega)) ?_)
  rintro _ M2 _ hM2 ⟨rfl, A2, m3, c3, rfl, hA2⟩
  rw [show [x, y].flatten = x ++ y by simp] at hA2
  refine tl_y rfl (y_assign (v := .slice _ _ _) rfl) ?_
  refine tl_nil (.then_normal ?_)
  refine .sub (F' := [(10, _)]) (.cons rfl .nil) ?_
  refine x_ret (.dropTo L inferInstance (ret1 rfl rfl (hd.trans hM2) ⟨rfl, _, _, _, rfl, hA2⟩))
end
end Go.Proofs.YtbjnjedfoiedeaaDoor
set_option linter.unusedVariables false
set_option linter.unusedSimpArgs false
set_option linter.constructorNameAsVariable false
namespace Go.Proofs.YtbjnjedfoiedeaaDoor
open Go Go.Eng
/-- Rows of rows: what stands in each. -/
def RowsAt (M : Mem) (ws : List Value) (f : Nat → List (List UInt8)) : Prop := ∀ h, h < ws.length → ∃ A n c vs, ws[h]? = some (.slice A n c) ∧ Row M 1 A n c vs ∧ BRows M vs (f h)
theorem RowsAt.mono {M M' : Mem} {ws : List Value} {f : Nat → List (List UInt8)} (h : RowsAt M ws f) (hle : Le M M') : RowsAt M' ws f := fun i hi =>
  let ⟨A, n, c, vs, h1, h2, h3⟩ := h i hi
  ⟨A, n, c, vs, h1, h2.mono hle, h3.mono hle⟩
theorem RowsAt.snoc {M : Mem} {ws : List Value} {f : Nat → List (List UInt8)} (h : RowsAt M ws f) {A : Option Addr} {n c : Nat} {vs : List Value} (h2 : Row M 1 A n c vs) (h3 : BRows M vs (f ws.length)) : RowsAt M (ws ++ [.slice A n c]) f := fun i hi => by
  rw [List.length_append, List.length_singleton] at hi
  by_cases hlt : i < ws.length
  · obtain ⟨A', n', c', vs', h4, h5, h6⟩ := h i hlt
    exact ⟨A', n', c', vs', by rw [List.getElem?_append_left hlt]; exact h4, h5, h6⟩
  · obtain rfl : i = ws.length := by omega
    exact ⟨A, n, c, vs, by rw [List.getElem?_append_right (Nat.le_refl _), Nat.sub_self]; rfl, h2, h3⟩
section
variable {G : World} {M : Mem} {L : Own}
theorem pairs_spec {A : Option Addr} {n c : Nat} :
    Con Tryd.prog 83 #[.slice A n c] G M L (fun v M' L' => M = M' ∧ ∃ x0, L' = (x0, .cells (List.toArray [.slice A n c]) 23 (0, 0)) :: L ∧ v = .func (.func 106) (List.toArray []) (List.toArray [.pointer (some ⟨x0, 0, none⟩)])) noPanic := by
  refine enter (args := [_]) (fn := Tryd.f83) ⟨Tryd.func83, rfl, by kernel_rfl, by kernel_rfl⟩ 4 rfl ?_
  refine x_seq (x_region ?_)
  refine tl_e rfl (e_box rfl (fun b1 => ?_))
  refine tl_y rfl (y_assign rfl) ?_
  refine tl_nil (.then_normal ?_)
  refine x_seq (x_region ?_)
  refine tl_y rfl (y_makeFunc rfl rfl) ?_
  refine tl_y rfl (y_assign (v := .func _ _ _) rfl) ?_
  refine tl_nil (.then_normal ?_)
  refine x_ret (ret1 rfl rfl (Le.refl _) ⟨rfl, b1, rfl, rfl⟩)
theorem pairs1_spec {l x0 : Nat} {A : Option Addr} {n c : Nat} {vs : List Value} {bss : List (List UInt8)} {X0 : Own} (hr : Row M 1 A n c vs) (hb : BRows M vs bss) (hn : n ≤ 1000000000000) {Inv : Nat → Mem → Own → Prop} {Dn : Mem → Own → Prop}
    (hy : ∀ k M1 X1 A1 n1 c1 A2 n2 c2, 2 * k + 1 < n → Bytes M A1 n1 c1 (bss.getD (2 * k) []) → Bytes M A2 n2 c2 (bss.getD (2 * k + 1) []) → Le M M1 → Inv k M1 X1 → YCon Tryd.prog l [.int .i64 (k : Nat), .agg (List.toArray [.slice A1 n1 c1, .slice A2 n2 c2])] G M1 X1 (Inv (k + 1)) Dn) (h0 : Inv 0 M X0) :
    Con Tryd.prog 106 #[.func (.yield l) (List.toArray []) (List.toArray []), .pointer (some ⟨x0, 0, none⟩)] G M ((x0, .cells (List.toArray [.slice A n c]) 23 (0, 0)) :: X0)
      (fun v M' L' => ∃ X', L' = (x0, .cells (List.toArray [.slice A n c]) 23 (0, 0)) :: X' ∧ (Inv (n / 2) M' X' ∨ Dn M' X')) noPanic := by
  have hmx := hr.max
  have hle := hr.le
  have hvl := hb.len
  have hnl : vs.length = n := by have := hr.len; omega
  refine enter (args := [_, _]) (fn := Tryd.f106) ⟨Tryd.func106, rfl, by kernel_rfl, by kernel_rfl⟩ 26 rfl ?_
  refine x_seq (x_region ?_)
  refine tl_y rfl (y_assign rfl) ?_
  refine tl_nil (.then_normal ?_)
  refine x_block ?_
  refine x_loop (I := fun m' F D M1 L1 => ∃ (k : Nat) (X1 : Own), m' = n / 2 - k ∧ k ≤ n / 2 ∧ Le M M1 ∧ Inv k M1 X1 ∧ D = [] ∧ L1 = (x0, .cells (List.toArray [.slice A n c]) 23 (0, 0)) :: X1 ∧ F = [(0, .func (.yield l) (List.toArray []) (List.toArray [])), (1, .pointer (some ⟨x0, 0, none⟩)), (3, .int .i64 ((2 * k : Nat) : Int))]) (n / 2) (F0 := [(0, _), (1, _), (3, _)]) ?_ (.cons rfl (.cons rfl (.cons rfl .nil))) ?_  -- slots [0, 1, 3], written [3]
  · exact ⟨0, X0, rfl, by omega, Le.refl _, h0, rfl, rfl, rfl⟩
  rintro m _ _ M1 L1 ⟨k, X1, rfl, hk, hM1, hI, rfl, rfl, rfl⟩
  refine x_seq (x_seq (x_region ?_))
  refine tl_y rfl (y_move (v := .int _ _) rfl) ?_
  refine tl_y rfl (y_addI rfl rfl (by omega)) ?_
  refine tl_y rfl (y_load rfl rfl (.own inferInstance inferInstance)) ?_
  refine tl_y rfl (y_len rfl) ?_
  refine tl_y rfl (y_lss rfl rfl) ?_
  refine tl_nil (.then_normal ?_)
  refine .sub (F' := [(0, _), (1, _), (3, _), (8, _)]) (.cons rfl (.cons rfl (.cons rfl (.cons rfl .nil)))) ?_
  refine x_cond rfl (fun hc1 => ?_) (fun hc1 => ?_)
  ·
    have hkn : 2 * k + 1 < n := by omega
    obtain ⟨g, o, rfl, hcell⟩ := (hr.mono hM1).addr (by omega)
    obtain ⟨A1, n1, c1, hv1, hb1⟩ := hb.get (2 * k) (by omega)
    obtain ⟨A2, n2, c2, hv2, hb2⟩ := hb.get (2 * k + 1) (by omega)
    refine x_skip (.then_normal ?_)
    refine x_seq ?_
    refine x_block ?_
    refine x_seq ?_
    refine x_draw0 15 ([(x0, .cells (List.toArray [.slice (some ⟨g, o, none⟩) n c]) 23 (0, 0))]) Keeps.mem hmix rfl ?_
    refine to_p 0 rfl (by kernel_rfl) rfl (y_move (v := .func _ _ _) rfl) ?_
    refine to_p 1 rfl (by kernel_rfl) rfl (y_move (v := .int _ _) rfl) ?_
    refine to_p 2 rfl (by kernel_rfl) rfl (y_quoI rfl rfl (by omega)) ?_
    rw [show ((2 * k : Nat) : Int) / 2 = (k : Int) by omega]
    refine to_y 3 rfl (by kernel_rfl) rfl (y_load rfl rfl (.own inferInstance inferInstance)) ?_
    refine to_p 4 rfl (by kernel_rfl) rfl (y_move (v := .int _ _) rfl) ?_
    refine to_p 5 rfl (by kernel_rfl) rfl (y_indexAddr rfl rfl (by omega)) ?_
    refine to_y 6 rfl (by kernel_rfl) rfl (y_load rfl rfl (.at_ (hcell _ (2 * k) _ hv1) (by omega))) ?_
    refine to_y 7 rfl (by kernel_rfl) rfl (y_load rfl rfl (.own inferInstance inferInstance)) ?_
    refine to_p 8 rfl (by kernel_rfl) rfl (y_move (v := .int _ _) rfl) ?_
    refine to_p 9 rfl (by kernel_rfl) rfl (y_addI rfl rfl (by omega)) ?_
    refine to_p 10 rfl (by kernel_rfl) rfl (y_indexAddr rfl rfl (by omega)) ?_
    refine to_y 11 rfl (by kernel_rfl) rfl (y_load rfl rfl (.at_ (hcell _ (2 * k + 1) _ hv2) (by omega))) ?_
    refine to_p 12 rfl (by kernel_rfl) rfl (y_buildArr rfl) ?_
    refine to_e 13 rfl (by kernel_rfl) rfl (e_yieldB (R := [(x0, .cells (List.toArray [.slice (some ⟨g, o, none⟩) n c]) 23 (0, 0))]) (X := X1) rfl rfl (hy k M1 X1 _ _ _ _ _ _ hkn hb1 hb2 hM1 hI) (fun b M2 X2 hM2 hb => ?_))
    rw [List.singleton_append]
    refine ⟨⟨(by first | exact Le.refl _ | assumption), Keeps.mem⟩, ?_⟩
    refine to_p 14 rfl (by kernel_rfl) rfl (y_not rfl) ?_
    refine to_nil (by kernel_rfl) (.then_normal ?_)
    refine .sub (F' := [(0, _), (1, _), (3, _), (25, _)]) (.cons rfl (.cons rfl (.cons rfl (.cons rfl .nil)))) ?_
    refine x_condb rfl (fun hc2 => ?_) (fun hc2 => ?_)
    ·
      refine x_ret (.block_ret (.then_ret (.loop_ret (.block_ret (ret0 rfl (hM1.trans hM2) ⟨X2, rfl, by
        rcases hb with ⟨rfl, _⟩ | ⟨_, hb⟩
        · simp at hc2
        · exact .inr hb⟩)))))
    ·
      refine x_skip (.block_normal (.then_normal ?_))
      refine x_region ?_
      refine tl_y rfl (y_move (v := .int _ _) rfl) ?_
      refine tl_y rfl (y_addI rfl rfl (by omega)) ?_
      rw [show ((2 * k : Nat) : Int) + 2 = ((2 * (k + 1) : Nat) : Int) by omega]
      refine tl_y rfl (y_assign (v := .int _ _) rfl) ?_
      refine tl_nil (.loop_next (m' := n / 2 - (k + 1)) (by omega) (F' := [(0, _), (1, _), (3, _)]) (.cons rfl (.cons rfl (.cons rfl .nil))) ?_)
      exact ⟨k + 1, X2, rfl, by omega, hM1.trans hM2, by
        rcases hb with ⟨_, hb⟩ | ⟨rfl, hb⟩
        · exact hb
        · simp at hc2, rfl, rfl, rfl⟩
  ·
    refine x_exit (.then_exit (.loop_exit (.block_exit (end0 rfl hM1 ⟨X1, rfl, .inl (by
      obtain rfl : k = n / 2 := by omega
      exact hI)⟩))))
end
end Go.Proofs.YtbjnjedfoiedeaaDoor
