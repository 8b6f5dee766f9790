/-
Contracts of functions, each proved by a walk through its code.
-/
import Derived.Test.YtbjnjedfoiedeaaDoorSets3Etc
import Derived.Test.YtbjnjedfoiedeaaDoorRef8Etc
import Derived.Test.YtbjnjedfoiedeaaDoorMerkle3Etc
import Derived.Test.YtbjnjedfoiedeaaDoorEngWEtc
set_option linter.unusedVariables false
set_option linter.unusedSimpArgs false
set_option linter.constructorNameAsVariable false
namespace Go.Proofs.YtbjnjedfoiedeaaDoor
open Go Go.Eng
section
variable {G : World} {M : Mem} {L : Own}
theorem RLeaves_spec (t : TreeV) :
    Con Tryd.prog 43 #[.agg (List.toArray t.cells)] G M L (fun v M' L' => M = M' ∧ L = L' ∧ v = .int .u64 (leavesN t.h : Nat)) noPanic := by
  refine enter (args := [_]) (fn := Tryd.f43) ⟨Tryd.func43, rfl, by kernel_rfl, by kernel_rfl⟩ 22 rfl ?_
  refine x_seq (x_region ?_)
  refine tl_e rfl (e_box rfl (fun b1 => ?_))
  refine tl_y rfl (y_assign rfl) ?_
  refine tl_nil (.then_normal ?_)
  refine x_seq (x_region ?_)
  refine tl_y rfl (y_assign rfl) ?_
  refine tl_nil (.then_normal ?_)
  refine x_seq (x_seq (x_region ?_))
  refine tl_y rfl (y_fieldAddr rfl) ?_
  refine tl_y rfl (y_load rfl rfl (.own inferInstance inferInstance)) ?_
  refine tl_y rfl (y_lss rfl rfl) ?_
  refine tl_y rfl (y_move (v := .bool _) rfl) ?_
  refine tl_cases (s := 8) rfl (fun hk1 => ?_) (fun hk1 => ?_)
  ·
    refine tl_skip rfl ?_
    refine tl_skip rfl ?_
    refine tl_skip rfl ?_
    refine tl_y rfl (y_pickT rfl rfl) ?_
    refine tl_nil (.then_normal ?_)
    refine .sub (F' := [(1, _), (3, _), (12, _)]) (.cons rfl (.cons rfl (.cons rfl .nil))) ?_
    refine x_true rfl rfl ?_
    refine x_seq (x_region ?_)
    refine tl_y rfl (y_assign rfl) ?_
    refine tl_nil (.then_normal ?_)
    refine x_ret (.then_ret (.dropTo L inferInstance (ret1 rfl rfl (Le.refl _) ⟨rfl, rfl, by rw [leavesN, if_pos (by omega)]; rfl⟩)))
  ·
    refine tl_y rfl (y_fieldAddr rfl) ?_
    refine tl_y rfl (y_load rfl rfl (.own inferInstance inferInstance)) ?_
    refine tl_y rfl (y_gtr rfl rfl) ?_
    refine tl_y rfl (y_pickF rfl rfl) ?_
    refine tl_nil (.then_normal ?_)
    refine .sub (F' := [(1, _), (3, _), (12, _)]) (.cons rfl (.cons rfl (.cons rfl .nil))) ?_
    refine x_cond rfl (fun hc1 => ?_) (fun hc1 => ?_)
    ·
      refine x_seq (x_region ?_)
      refine tl_y rfl (y_assign rfl) ?_
      refine tl_nil (.then_normal ?_)
      refine x_ret (.then_ret (.dropTo L inferInstance (ret1 rfl rfl (Le.refl _) ⟨rfl, rfl, by rw [leavesN, if_pos (by omega)]; rfl⟩)))
    ·
      obtain ⟨h', hh⟩ : ∃ h' : Nat, t.h = (h' : Int) := ⟨t.h.toNat, by omega⟩
      have hlv : leavesN t.h = pw2 h' := by rw [leavesN, if_neg (by omega), hh, Int.toNat_natCast]
      rw [hlv]
      refine x_skip (.then_normal ?_)
      refine x_seq (x_seq (x_region ?_))
      refine tl_y rfl (y_assign rfl) ?_
      refine tl_nil (.then_normal ?_)
      refine x_block ?_
      refine x_loop (I := fun m' F D M2 L2 => ∃ k : Nat, m' = h' - k ∧ k ≤ h' ∧ D = [] ∧ M = M2 ∧ (b1, .cells (List.toArray t.cells) 30 (0, 0)) :: L = L2 ∧ F = [(1, .pointer (some ⟨b1, 0, none⟩)), (3, .int .u64 (pw2 k : Nat)), (4, .int .i64 k)]) (h') (F0 := [(1, _), (3, _), (4, _)]) ?_ (.cons rfl (.cons rfl (.cons rfl .nil))) ?_  -- slots [1, 3, 4], written [3, 4]
      · exact ⟨0, rfl, by omega, rfl, rfl, rfl, rfl⟩
      rintro m _ _ _ _ ⟨k, rfl, hk, rfl, rfl, rfl, rfl⟩
      refine x_seq (x_seq (x_region ?_))
      refine tl_y rfl (y_move (v := .int _ _) rfl) ?_
      refine tl_y rfl (y_fieldAddr rfl) ?_
      refine tl_y rfl (y_load rfl rfl (.own inferInstance inferInstance)) ?_
      refine tl_y rfl (y_lss rfl rfl) ?_
      refine tl_nil (.then_normal ?_)
      refine x_cond rfl (fun hc2 => ?_) (fun hc2 => ?_)
      ·
        have hpk := pw2_25 (h := k) (by omega)
        refine x_skip (.then_normal ?_)
        refine .sub (F' := [(1, _), (3, _), (4, _)]) (.cons rfl (.cons rfl (.cons rfl .nil))) ?_
        refine x_seq ?_
        refine x_block ?_
        refine x_region ?_
        refine tl_y rfl (y_move (v := .int _ _) rfl) ?_
        refine tl_y rfl (y_mulN64 rfl rfl (by omega)) ?_
        rw [pw2_succ]
        refine tl_y rfl (y_assign (v := .int _ _) rfl) ?_
        refine tl_nil (.block_normal (.then_normal ?_))
        refine x_region ?_
        refine tl_y rfl (y_move (v := .int _ _) rfl) ?_
        refine tl_y rfl (y_addI rfl rfl (by omega)) ?_
        refine tl_y rfl (y_assign (v := .int _ _) rfl) ?_
        refine tl_nil (.loop_next (m' := h' - (k + 1)) (by omega) (F' := [(1, _), (3, _), (4, _)]) (.cons rfl (.cons rfl (.cons rfl .nil))) ?_)
        exact ⟨k + 1, rfl, by omega, rfl, rfl, rfl, rfl⟩
      ·
        obtain rfl : k = h' := by omega
        refine x_exit (.then_exit (.loop_exit (.block_exit (.then_normal ?_))))
        refine .sub (F' := [(3, _)]) (.cons rfl .nil) ?_
        refine x_seq (x_region ?_)
        refine tl_y rfl (y_move (v := .int _ _) rfl) ?_
        refine tl_y rfl (y_assign (v := .int _ _) rfl) ?_
        refine tl_nil (.then_normal ?_)
        refine x_ret (.dropTo L inferInstance (ret1 rfl rfl (Le.refl _) ⟨rfl, rfl, rfl⟩))
theorem RTree_spec (code : UInt32) :
    Con Tryd.prog 42 #[.int .u32 (code.toNat : Int)] G M L (fun v M' L' => M = M' ∧ L = L' ∧ v = .tuple #[.agg (List.toArray (treeV code).cells), .int .i64 (treeE code)]) noPanic := by
  have hc := code.toNat_lt
  refine enter (args := [_]) (fn := Tryd.f42) ⟨Tryd.func42, rfl, by kernel_rfl, by kernel_rfl⟩ 56 rfl ?_
  refine x_seq (x_region ?_)
  refine tl_e rfl (e_alloc (fun b1 => ?_))
  refine tl_y rfl (y_assign rfl) ?_
  refine tl_nil (.then_normal ?_)
  refine x_seq ?_
  refine x_join (I := fun F D M2 L2 => ∃ b : Bool, (b = true ↔ (5 ≤ code.toNat ∧ code.toNat ≤ 24)) ∧ D = [] ∧ M = M2 ∧ (b1, .cells (List.toArray tree0.cells) 30 (0, 0)) :: L = L2 ∧ F = [(0, .int .u32 (code.toNat : Int)), (2, .pointer (some ⟨b1, 0, none⟩)), (13, .bool b)]) ?_ (fun Jq1 => ?_)
  ·
    rintro _ _ _ _ ⟨t1, ht1, rfl, rfl, rfl, rfl⟩  -- slots [0, 2, 13]
    refine x_condb rfl (fun hc1 => ?_) (fun hc1 => ?_)
    ·
      have h5 := ht1.1 hc1
      obtain ⟨i, hi⟩ : ∃ i, i = code.toNat - 5 := ⟨_, rfl⟩
      have hto : treeOf code = some (treeT code i 5) := by rw [treeOf, if_pos h5, hi]
      refine x_seq (x_region ?_)
      refine tl_y rfl (y_move (v := .int _ _) rfl) ?_
      refine tl_y rfl (y_subN32 rfl rfl (by omega)) ?_
      refine tl_y rfl (y_convI rfl (by omega)) ?_
      rw [show (code.toNat : Int) - 5 = (i : Int) by omega]
      refine tl_y rfl (y_quoI rfl rfl (by omega)) ?_
      rw [show (i : Int) / 5 = ((i / 5 : Nat) : Int) by omega]
      refine tl_e rfl (e_call' rfl (Rsize_spec (i / 5) (by omega)) ?_)
      rintro _ _ _ _ ⟨rfl, rfl, rfl⟩
      refine tl_y rfl (y_move (v := .tuple _) rfl) ?_
      refine tl_y rfl (y_extract rfl) ?_
      refine tl_y rfl (y_extract rfl) ?_
      refine tl_y rfl (y_assign (v := .int _ _) rfl) ?_
      refine tl_y rfl (y_assign (v := .int _ _) rfl) ?_
      refine tl_nil (.then_normal ?_)
      refine .sub (F' := [(0, _), (2, _), (4, _), (5, _)]) (.cons rfl (.cons rfl (.cons rfl (.cons rfl .nil)))) ?_
      refine x_seq (x_region ?_)
      refine tl_y rfl (y_move (v := .int _ _) rfl) ?_
      refine tl_y rfl (y_move (v := .int _ _) rfl) ?_
      refine tl_y rfl (y_move (v := .int _ _) rfl) ?_
      refine tl_y rfl (y_move (v := .int _ _) rfl) ?_
      refine tl_y rfl (y_subN32 rfl rfl (by omega)) ?_
      refine tl_y rfl (y_convI rfl (by omega)) ?_
      refine tl_y rfl (y_remI rfl rfl (by omega)) ?_
      refine tl_y rfl (y_addI rfl rfl (by omega)) ?_
      refine tl_y rfl (y_mulI rfl rfl (by omega)) ?_
      rw [show 5 * ((1 : Int) + ((code.toNat : Int) - 5) % 5) = ((5 * (1 + i % 5) : Nat) : Int) by omega]
      refine tl_y rfl (y_build rfl) ?_
      refine tl_e rfl (e_store rfl rfl (by rfl) (by rfl) inferInstance inferInstance inferInstance ?_)
      refine tl_y rfl (y_assign rfl) ?_
      refine tl_nil (.then_normal ?_)
      refine .sub (F' := [(2, _), (3, _)]) (.cons rfl (.cons rfl .nil)) ?_
      refine x_ret (.then_ret (retRV (L' := L) (rv2 rfl (rc_cellAgg (by rfl) rfl (.own inferInstance inferInstance)) (rc_tmp (by rfl))) inferInstance (Le.refl _) ⟨rfl, rfl, by rw [treeV, treeE, hto]; rfl⟩))
    ·
      have hn5 : ¬ (5 ≤ code.toNat ∧ code.toNat ≤ 24) := fun h => by rw [ht1.2 h] at hc1; cases hc1
      refine x_skip (.then_normal ?_)
      refine x_seq ?_
      refine x_join (I := fun F D M2 L2 => ∃ b : Bool, (b = true ↔ (4026531841 ≤ code.toNat ∧ code.toNat ≤ 4026531856)) ∧ D = [] ∧ M = M2 ∧ (b1, .cells (List.toArray tree0.cells) 30 (0, 0)) :: L = L2 ∧ F = [(0, .int .u32 (code.toNat : Int)), (2, .pointer (some ⟨b1, 0, none⟩)), (37, .bool b)]) ?_ (fun Jq4 => ?_)
      ·
        rintro _ _ _ _ ⟨t2, ht2, rfl, rfl, rfl, rfl⟩  -- slots [0, 2, 37]
        refine x_condb rfl (fun hc2 => ?_) (fun hc2 => ?_)
        ·
          have h5 := ht2.1 hc2
          obtain ⟨i, hi⟩ : ∃ i, i = code.toNat - 4026531841 := ⟨_, rfl⟩
          have hto : treeOf code = some (treeT code i 4) := by rw [treeOf, if_neg (by omega), if_pos h5, hi]
          refine x_seq (x_region ?_)
          refine tl_y rfl (y_move (v := .int _ _) rfl) ?_
          refine tl_y rfl (y_subN32 rfl rfl (by omega)) ?_
          refine tl_y rfl (y_convI rfl (by omega)) ?_
          rw [show (code.toNat : Int) - 4026531841 = (i : Int) by omega]
          refine tl_y rfl (y_quoI rfl rfl (by omega)) ?_
          rw [show (i : Int) / 4 = ((i / 4 : Nat) : Int) by omega]
          refine tl_e rfl (e_call' rfl (Rsize_spec (i / 4) (by omega)) ?_)
          rintro _ _ _ _ ⟨rfl, rfl, rfl⟩
          refine tl_y rfl (y_move (v := .tuple _) rfl) ?_
          refine tl_y rfl (y_extract rfl) ?_
          refine tl_y rfl (y_extract rfl) ?_
          refine tl_y rfl (y_assign (v := .int _ _) rfl) ?_
          refine tl_y rfl (y_assign (v := .int _ _) rfl) ?_
          refine tl_nil (.then_normal ?_)
          refine .sub (F' := [(0, _), (2, _), (6, _), (7, _)]) (.cons rfl (.cons rfl (.cons rfl (.cons rfl .nil)))) ?_
          refine x_seq (x_region ?_)
          refine tl_y rfl (y_move (v := .int _ _) rfl) ?_
          refine tl_y rfl (y_move (v := .int _ _) rfl) ?_
          refine tl_y rfl (y_move (v := .int _ _) rfl) ?_
          refine tl_y rfl (y_move (v := .int _ _) rfl) ?_
          refine tl_y rfl (y_subN32 rfl rfl (by omega)) ?_
          refine tl_y rfl (y_convI rfl (by omega)) ?_
          refine tl_y rfl (y_remI rfl rfl (by omega)) ?_
          refine tl_y rfl (y_addI rfl rfl (by omega)) ?_
          rw [show (1 : Int) + ((code.toNat : Int) - 4026531841) % 4 = ((1 + i % 4 : Nat) : Int) by omega]
          refine tl_y rfl (y_build rfl) ?_
          refine tl_e rfl (e_store rfl rfl (by rfl) (by rfl) inferInstance inferInstance inferInstance ?_)
          refine tl_y rfl (y_assign rfl) ?_
          refine tl_nil (.then_normal ?_)
          refine .sub (F' := [(2, _), (3, _)]) (.cons rfl (.cons rfl .nil)) ?_
          refine x_ret (.then_ret (retRV (L' := L) (rv2 rfl (rc_cellAgg (by rfl) rfl (.own inferInstance inferInstance)) (rc_tmp (by rfl))) inferInstance (Le.refl _) ⟨rfl, rfl, by rw [treeV, treeE, hto]; rfl⟩))
        ·
          have hn6 : ¬ (4026531841 ≤ code.toNat ∧ code.toNat ≤ 4026531856) := fun h => by rw [ht2.2 h] at hc2; cases hc2
          have hto : treeOf code = none := by rw [treeOf, if_neg hn5, if_neg hn6]
          refine x_skip (.then_normal ?_)
          refine x_seq (x_region ?_)
          refine tl_y rfl (y_build rfl) ?_
          refine tl_e rfl (e_store rfl rfl (by rfl) (by rfl) inferInstance inferInstance inferInstance ?_)
          refine tl_y rfl (y_assign rfl) ?_
          refine tl_nil (.then_normal ?_)
          refine x_ret (retRV (L' := L) (rv2 rfl (rc_cellAgg (by rfl) rfl (.own inferInstance inferInstance)) (rc_tmp (by rfl))) inferInstance (Le.refl _) ⟨rfl, rfl, by rw [treeV, treeE, hto]; rfl⟩)
      ·
        refine x_region ?_
        refine tl_y rfl (y_move (v := .int _ _) rfl) ?_
        refine tl_y rfl (y_geq rfl rfl) ?_
        refine tl_y rfl (y_move (v := .bool _) rfl) ?_
        refine tl_cases (s := 34) rfl (fun hk1 => ?_) (fun hk1 => ?_)
        ·
          refine tl_y rfl (y_move (v := .int _ _) rfl) ?_
          refine tl_y rfl (y_leq rfl rfl) ?_
          refine tl_y rfl (y_pickT rfl rfl) ?_
          refine tl_nil (.then_normal (.sub (F' := [(0, _), (2, _), (37, _)]) (.cons rfl (.cons rfl (.cons rfl .nil))) (Jq4 _ _ _ _ ?_)))
          exact ⟨_, by first | (simp; done) | (simp; omega) | omega, rfl, rfl, rfl, rfl⟩
        ·
          refine tl_skip rfl ?_
          refine tl_skip rfl ?_
          refine tl_y rfl (y_pickF rfl rfl) ?_
          refine tl_nil (.then_normal (.sub (F' := [(0, _), (2, _), (37, _)]) (.cons rfl (.cons rfl (.cons rfl .nil))) (Jq4 _ _ _ _ ?_)))
          exact ⟨_, by first | (simp; done) | (simp; omega) | omega, rfl, rfl, rfl, rfl⟩
  ·
    refine x_region ?_
    refine tl_y rfl (y_move (v := .int _ _) rfl) ?_
    refine tl_y rfl (y_geq rfl rfl) ?_
    refine tl_y rfl (y_move (v := .bool _) rfl) ?_
    refine tl_cases (s := 10) rfl (fun hk2 => ?_) (fun hk2 => ?_)
    ·
      refine tl_y rfl (y_move (v := .int _ _) rfl) ?_
      refine tl_y rfl (y_leq rfl rfl) ?_
      refine tl_y rfl (y_pickT rfl rfl) ?_
      refine tl_nil (.then_normal (.sub (F' := [(0, _), (2, _), (13, _)]) (.cons rfl (.cons rfl (.cons rfl .nil))) (Jq1 _ _ _ _ ?_)))
      exact ⟨_, by first | (simp; done) | (simp; omega) | omega, rfl, rfl, rfl, rfl⟩
    ·
      refine tl_skip rfl ?_
      refine tl_skip rfl ?_
      refine tl_y rfl (y_pickF rfl rfl) ?_
      refine tl_nil (.then_normal (.sub (F' := [(0, _), (2, _), (13, _)]) (.cons rfl (.cons rfl (.cons rfl .nil))) (Jq1 _ _ _ _ ?_)))
      exact ⟨_, by first | (simp; done) | (simp; omega) | omega, rfl, rfl, rfl, rfl⟩
end
end Go.Proofs.YtbjnjedfoiedeaaDoor
set_option linter.unusedVariables false
set_option linter.unusedSimpArgs false
set_option linter.constructorNameAsVariable false
namespace Go.Proofs.YtbjnjedfoiedeaaDoor
open Go Go.Eng
section
variable {G : World} {M : Mem} {L : Own}
theorem RSet_spec (t : TreeV) {NA : Option Addr} {nl nc : Nat} :
    Con Tryd.prog 48 #[.agg (List.toArray t.cells), .slice NA nl nc] G M L (fun v M' L' => M = M' ∧ L = L' ∧ v = .bool (decide (okS t nl))) noPanic := by
  refine enter (args := [_, _]) (fn := Tryd.f48) ⟨Tryd.func48, rfl, by kernel_rfl, by kernel_rfl⟩ 25 rfl ?_
  refine x_seq (x_region ?_)
  refine tl_e rfl (e_box rfl (fun b1 => ?_))
  refine tl_y rfl (y_assign rfl) ?_
  refine tl_nil (.then_normal ?_)
  refine x_seq (x_region ?_)
  refine tl_y rfl (y_fieldAddr rfl) ?_
  refine tl_y rfl (y_load rfl rfl (.own inferInstance inferInstance)) ?_
  refine tl_e rfl (e_call' rfl (RTree_spec t.code) ?_)
  rintro _ _ _ _ ⟨rfl, rfl, rfl⟩
  refine tl_y rfl (y_move (v := .tuple _) rfl) ?_
  refine tl_y rfl (y_extract rfl) ?_
  refine tl_y rfl (y_extract rfl) ?_
  refine tl_e rfl (e_alloc (fun b2 => ?_))
  refine tl_e rfl (e_store rfl rfl (by rfl) (by rfl) inferInstance inferInstance inferInstance ?_)
  refine tl_y rfl (y_assign (v := .int _ _) rfl) ?_
  refine tl_nil (.then_normal ?_)
  refine .sub (F' := [(1, _), (2, _), (5, _), (6, _)]) (.cons rfl (.cons rfl (.cons rfl (.cons rfl .nil)))) ?_
  refine x_join (I := fun F D M2 L2 => ∃ b : Bool, (b = true ↔ okS t nl) ∧ D = [] ∧ M = M2 ∧ DropTo L2 L ∧ F = [(4, .bool b)]) ?_ (fun Jq2 => ?_)
  ·
    rintro _ _ _ L2 ⟨b, hb, rfl, rfl, hdr, rfl⟩  -- slots [4]
    refine x_ret (.dropTo L hdr (ret1 rfl rfl (Le.refl _) ⟨rfl, rfl, by rw [bool_iff hb]⟩))
  ·
    refine x_region ?_
    refine tl_y rfl (y_move (v := .int _ _) rfl) ?_
    refine tl_y rfl (y_eql rfl rfl) ?_
    refine tl_y rfl (y_move (v := .bool _) rfl) ?_
    refine tl_cases (s := 15) rfl (fun hk1 => ?_) (fun hk1 => ?_)
    ·
      refine tl_y rfl (y_loadAgg rfl rfl (.own inferInstance inferInstance)) ?_
      refine tl_y rfl (y_loadAgg rfl rfl (.own inferInstance inferInstance)) ?_
      refine tl_y rfl (y_eqlS rfl rfl eqs30) ?_
      refine tl_y rfl (y_pickT rfl rfl) ?_
      refine tl_y rfl (y_move (v := .bool _) rfl) ?_
      refine tl_cases (s := 20) rfl (fun hk2 => ?_) (fun hk2 => ?_)
      ·
        refine tl_y rfl (y_move (v := .slice _ _ _) rfl) ?_
        refine tl_y rfl (y_len rfl) ?_
        refine tl_y rfl (y_eql rfl rfl) ?_
        refine tl_y rfl (y_pickT rfl rfl) ?_
        refine tl_y rfl (y_assign (v := .bool _) rfl) ?_
        refine tl_nil (.then_normal (.sub (F' := [(4, _)]) (.cons rfl .nil) (Jq2 _ _ _ _ ?_)))
        exact ⟨_, by
          constructor
          · intro ht
            first | (cases ht; done) | (simp at ht; exact ⟨hk1, tree_eq hk2, by omega⟩)
          · rintro ⟨a1, a2, a3⟩
            first | exact absurd a1 hk1 | exact absurd (eq_tree a2) hk2 | (simp; omega) | omega, rfl, rfl, inferInstance, rfl⟩
      ·
        refine tl_skip rfl ?_
        refine tl_skip rfl ?_
        refine tl_skip rfl ?_
        refine tl_y rfl (y_pickF rfl rfl) ?_
        refine tl_y rfl (y_assign (v := .bool _) rfl) ?_
        refine tl_nil (.then_normal (.sub (F' := [(4, _)]) (.cons rfl .nil) (Jq2 _ _ _ _ ?_)))
        exact ⟨_, by
          constructor
          · intro ht
            first | (cases ht; done) | (simp at ht; exact ⟨hk1, tree_eq hk2, by omega⟩)
          · rintro ⟨a1, a2, a3⟩
            first | exact absurd a1 hk1 | exact absurd (eq_tree a2) hk2 | (simp; omega) | omega, rfl, rfl, inferInstance, rfl⟩
    ·
      refine tl_skip rfl ?_
      refine tl_skip rfl ?_
      refine tl_skip rfl ?_
      refine tl_y rfl (y_pickF rfl rfl) ?_
      refine tl_y rfl (y_move (v := .bool _) rfl) ?_
      refine tl_skip rfl ?_
      refine tl_skip rfl ?_
      refine tl_skip rfl ?_
      refine tl_y rfl (y_pickF rfl rfl) ?_
      refine tl_y rfl (y_assign (v := .bool _) rfl) ?_
      refine tl_nil (.then_normal (.sub (F' := [(4, _)]) (.cons rfl .nil) (Jq2 _ _ _ _ ?_)))
      exact ⟨_, by
        constructor
        · intro ht
          first | (cases ht; done) | (simp at ht; exact ⟨hk1, tree_eq hk2, by omega⟩)
        · rintro ⟨a1, a2, a3⟩
          first | exact absurd a1 hk1 | exact absurd (eq_tree a2) hk2 | (simp; omega) | omega, rfl, rfl, inferInstance, rfl⟩
theorem RMay_spec (t : TreeV) {NA KA : Option Addr} {nl nc kl kc : Nat} (hk : kl ≤ 9223372036854775807) :
    Con Tryd.prog 21 #[.agg (List.toArray t.cells), .slice NA nl nc, .slice KA kl kc] G M L (fun v M' L' => M = M' ∧ L = L' ∧ v = .bool (decide (okM t nl kl))) noPanic := by
  refine enter (args := [_, _, _]) (fn := Tryd.f21) ⟨Tryd.func21, rfl, by kernel_rfl, by kernel_rfl⟩ 23 rfl ?_
  refine x_seq (x_region ?_)
  refine tl_e rfl (e_box rfl (fun b1 => ?_))
  refine tl_y rfl (y_assign rfl) ?_
  refine tl_nil (.then_normal ?_)
  refine x_join (I := fun F D M2 L2 => ∃ b : Bool, (b = true ↔ okM t nl kl) ∧ D = [] ∧ M = M2 ∧ DropTo L2 L ∧ F = [(6, .bool b)]) ?_ (fun Jq1 => ?_)
  ·
    rintro _ _ _ L2 ⟨b, hb, rfl, rfl, hdr, rfl⟩  -- slots [6]
    refine x_ret (.dropTo L hdr (ret1 rfl rfl (Le.refl _) ⟨rfl, rfl, by rw [bool_iff hb]⟩))
  ·
    refine x_region ?_
    refine tl_y rfl (y_loadAgg rfl rfl (.own inferInstance inferInstance)) ?_
    refine tl_y rfl (y_move (v := .slice _ _ _) rfl) ?_
    refine tl_e rfl (e_call' rfl (RSet_spec t) ?_)
    rintro _ _ _ _ ⟨rfl, rfl, rfl⟩
    refine tl_y rfl (y_move (v := .bool _) rfl) ?_
    refine tl_casesb (s := 10) rfl (fun hk1 => ?_) (fun hk1 => ?_)
    ·
      refine tl_y rfl (y_fieldAddr rfl) ?_
      refine tl_y rfl (y_load rfl rfl (.own inferInstance inferInstance)) ?_
      refine tl_y rfl (y_leq rfl rfl) ?_
      refine tl_y rfl (y_pickT rfl rfl) ?_
      refine tl_y rfl (y_move (v := .bool _) rfl) ?_
      refine tl_cases (s := 15) rfl (fun hk2 => ?_) (fun hk2 => ?_)
      ·
        refine tl_y rfl (y_move (v := .slice _ _ _) rfl) ?_
        refine tl_y rfl (y_len rfl) ?_
        refine tl_y rfl (y_convN64 rfl (by omega)) ?_
        refine tl_y rfl (y_loadAgg rfl rfl (.own inferInstance inferInstance)) ?_
        refine tl_e rfl (e_call' rfl (RLeaves_spec t) ?_)
        rintro _ _ _ _ ⟨rfl, rfl, rfl⟩
        refine tl_y rfl (y_eql rfl rfl) ?_
        refine tl_y rfl (y_pickT rfl rfl) ?_
        refine tl_y rfl (y_assign (v := .bool _) rfl) ?_
        refine tl_nil (.then_normal (.sub (F' := [(6, _)]) (.cons rfl .nil) (Jq1 _ _ _ _ ?_)))
        exact ⟨_, by
          constructor
          · intro ht
            first | (cases ht; done) | (simp at ht; exact ⟨by simpa using hk1, by omega, by omega⟩)
          · rintro ⟨a1, a2, a3⟩
            first | exact absurd (by simpa using a1) hk1 | exact absurd (decide_eq_true a1) hk1 | (simp [a1] at hk1; done) | (simp; omega) | omega, rfl, rfl, inferInstance, rfl⟩
      ·
        refine tl_skip rfl ?_
        refine tl_skip rfl ?_
        refine tl_skip rfl ?_
        refine tl_skip rfl ?_
        refine tl_skip rfl ?_
        refine tl_skip rfl ?_
        refine tl_y rfl (y_pickF rfl rfl) ?_
        refine tl_y rfl (y_assign (v := .bool _) rfl) ?_
        refine tl_nil (.then_normal (.sub (F' := [(6, _)]) (.cons rfl .nil) (Jq1 _ _ _ _ ?_)))
        exact ⟨_, by
          constructor
          · intro ht
            first | (cases ht; done) | (simp at ht; exact ⟨by simpa using hk1, by omega, by omega⟩)
          · rintro ⟨a1, a2, a3⟩
            first | exact absurd (by simpa using a1) hk1 | exact absurd (decide_eq_true a1) hk1 | (simp [a1] at hk1; done) | (simp; omega) | omega, rfl, rfl, inferInstance, rfl⟩
    ·
      refine tl_skip rfl ?_
      refine tl_skip rfl ?_
      refine tl_skip rfl ?_
      refine tl_y rfl (y_pickF rfl rfl) ?_
      refine tl_y rfl (y_move (v := .bool _) rfl) ?_
      refine tl_skip rfl ?_
      refine tl_skip rfl ?_
      refine tl_skip rfl ?_
      refine tl_skip rfl ?_
      refine tl_skip rfl ?_
      refine tl_skip rfl ?_
      refine tl_y rfl (y_pickF rfl rfl) ?_
      refine tl_y rfl (y_assign (v := .bool _) rfl) ?_
      refine tl_nil (.then_normal (.sub (F' := [(6, _)]) (.cons rfl .nil) (Jq1 _ _ _ _ ?_)))
      exact ⟨_, by
        constructor
        · intro ht
          first | (cases ht; done) | (simp at ht; exact ⟨by simpa using hk1, by omega, by omega⟩)
        · rintro ⟨a1, a2, a3⟩
          first | exact absurd (by simpa using a1) hk1 | exact absurd (decide_eq_true a1) hk1 | (simp [a1] at hk1; done) | (simp; omega) | omega, rfl, rfl, inferInstance, rfl⟩
theorem RAt0_spec (t : TreeV) {H : Nat} (hH : t.h = (H : Int)) (hH5 : H ≤ 20) {NA : Option Addr} {nl nc : Nat} {name : List UInt8} (hname : Bytes M NA nl nc name) {KA : Option Addr} {kl kc : Nat} {kvs : List Value} {keys : List (List UInt8)} (hk : Row M 1 KA kl kc kvs) (hkb : BRows M kvs keys) (hkl : kl = pw2 H) (hks : ∀ b ∈ keys, b.length ≤ 1000000000000) (i : Nat) (hi : i < pw2 H) (place : UInt32) (hp : place.toNat = pw2 H + i) :
    Con Tryd.prog 46 #[.agg (List.toArray t.cells), .slice NA nl nc, .slice KA kl kc, .int .u32 (place.toNat : Int)] G M L (fun v M' L' => L = L' ∧ ∃ A' m' c', v = .slice A' m' c' ∧ Bytes M' A' m' c' ((lvl t name keys 0).getD i [])) noPanic := by
  have hpw := pw2_25 (h := H) (by omega)
  have hle := hk.le
  have hvl := hkb.len
  have hkn : kvs.length = kl := by have := hk.len; omega
  obtain ⟨g, o, rfl, hcell⟩ := hk.addr (by omega)
  obtain ⟨A2, n2, c2, hv2, hb2⟩ := hkb.get i (by omega)
  have hn2 := hb2.size
  have hn2' := hks _ (getD_mem keys i [] (by omega))
  refine enter (args := [_, _, _, _]) (fn := Tryd.f46) ⟨Tryd.func46, rfl, by kernel_rfl, by kernel_rfl⟩ 56 rfl ?_
  refine x_seq (x_region ?_)
  refine tl_e rfl (e_box rfl (fun b1 => ?_))
  refine tl_y rfl (y_assign rfl) ?_
  refine tl_nil (.then_normal ?_)
  refine x_seq (x_region ?_)
  refine tl_y rfl (y_move (v := .slice _ _ _) rfl) ?_
  refine tl_y rfl (y_len rfl) ?_
  refine tl_y rfl (y_convN32 rfl (by omega)) ?_
  refine tl_y rfl (y_assign (v := .int _ _) rfl) ?_
  refine tl_nil (.then_normal ?_)
  refine .sub (F' := [(1, _), (2, _), (3, _), (4, _), (9, _)]) (.cons rfl (.cons rfl (.cons rfl (.cons rfl (.cons rfl .nil))))) ?_
  refine x_seq (x_seq (x_region ?_))
  refine tl_y rfl (y_move (v := .int _ _) rfl) ?_
  refine tl_y rfl (y_move (v := .int _ _) rfl) ?_
  refine tl_y rfl (y_geq rfl rfl) ?_
  refine tl_nil (.then_normal ?_)
  refine x_true rfl (by rw [decide_eq_true_iff]; omega) ?_
  refine x_seq ?_
  refine x_draw 14 hmix rfl ?_
  refine to_p 0 rfl (by kernel_rfl) rfl (y_fieldAddr rfl) ?_
  refine to_y 1 rfl (by kernel_rfl) rfl (y_load rfl rfl (.own inferInstance inferInstance)) ?_
  refine to_p 2 rfl (by kernel_rfl) rfl (y_fieldAddr rfl) ?_
  refine to_y 3 rfl (by kernel_rfl) rfl (y_load rfl rfl (.own inferInstance inferInstance)) ?_
  refine to_p 4 rfl (by kernel_rfl) rfl (y_move (v := .slice _ _ _) rfl) ?_
  refine to_p 5 rfl (by kernel_rfl) rfl (y_move (v := .int _ _) rfl) ?_
  refine to_p 6 rfl (by kernel_rfl) rfl (y_move (v := .slice _ _ _) rfl) ?_
  refine to_p 7 rfl (by kernel_rfl) rfl (y_move (v := .int _ _) rfl) ?_
  refine to_p 8 rfl (by kernel_rfl) rfl (y_move (v := .int _ _) rfl) ?_
  refine to_p 9 rfl (by kernel_rfl) rfl (y_subN32 rfl rfl (by omega)) ?_
  rw [show (place.toNat : Int) - (kl : Int) = (i : Int) by omega]
  refine to_p 10 rfl (by kernel_rfl) rfl (y_indexAddr rfl rfl (by omega)) ?_
  refine to_y 11 rfl (by kernel_rfl) rfl (y_load rfl rfl (.at_ (hcell _ i _ hv2) (by omega))) ?_
  refine to_e 12 rfl (by kernel_rfl) rfl (e_call' rfl (RPart_spec t.kind t.n hname place 33410 (by omega) hb2 (by omega)) ?_)
  rintro _ M2 _ hM2 ⟨rfl, A3, m3, c3, rfl, hA3⟩
  refine ⟨⟨(by first | exact Le.refl _ | assumption), Keeps.mem⟩, ?_⟩
  refine to_p 13 rfl (by kernel_rfl) rfl (y_assign (v := .slice _ _ _) rfl) ?_
  refine to_nil (by kernel_rfl) (.then_normal ?_)
  refine .sub (F' := [(8, _)]) (.cons rfl .nil) ?_
  refine x_ret (.then_ret (.dropTo L inferInstance (ret1 rfl rfl hM2 ⟨rfl, _, _, _, rfl, by
    rw [lvl, leavesB_get _ _ _ (by omega), leafB, hH, Int.toNat_natCast, ← hp]
    exact hA3⟩)))
theorem RAtS_spec (t : TreeV) {H : Nat} (hH : t.h = (H : Int)) (hH5 : H ≤ 20) {NA : Option Addr} {nl nc : Nat} {name : List UInt8} (hname : Bytes M NA nl nc name) {KA : Option Addr} {kl kc : Nat} {kvs : List Value} {keys : List (List UInt8)} (hk : Row M 1 KA kl kc kvs) (hkb : BRows M kvs keys) (hkl : kl = pw2 H) (h : Nat) (hh : h < H)
    (ih : ∀ (M' : Mem) (L' : Own) (i : Nat) (place : UInt32), Le M M' → i < pw2 (H - h) → place.toNat = pw2 (H - h) + i → Con Tryd.prog 46 #[.agg (List.toArray t.cells), .slice NA nl nc, .slice KA kl kc, .int .u32 (place.toNat : Int)] G M' L' (fun v M2 L2 => L' = L2 ∧ ∃ A' m' c', v = .slice A' m' c' ∧ Bytes M2 A' m' c' ((lvl t name keys h).getD i [])) noPanic)
    (i : Nat) (hi : i < pw2 (H - (h + 1))) (place : UInt32) (hp : place.toNat = pw2 (H - (h + 1)) + i) :
    Con Tryd.prog 46 #[.agg (List.toArray t.cells), .slice NA nl nc, .slice KA kl kc, .int .u32 (place.toNat : Int)] G M L (fun v M' L' => L = L' ∧ ∃ A' m' c', v = .slice A' m' c' ∧ Bytes M' A' m' c' ((lvl t name keys (h + 1)).getD i [])) noPanic := by
  have hpw := pw2_25 (h := H) (by omega)
  have hle := hk.le
  have hvl := hkb.len
  have hkn : kvs.length = kl := by have := hk.len; omega
  have hhf := pw2_half hh
  have hll := lvl_len t name keys (H := H) (by omega) h (by omega)
  have hmono := pw2_le (j := H - h) (k := H) (by omega)
  obtain ⟨x, hx⟩ : ∃ x : UInt32, x.toNat = 2 * place.toNat := ⟨UInt32.ofNat (2 * place.toNat), by rw [UInt32.toNat_ofNat', Nat.mod_eq_of_lt (by omega)]⟩
  obtain ⟨y, hy⟩ : ∃ y : UInt32, y.toNat = 2 * place.toNat + 1 := ⟨UInt32.ofNat (2 * place.toNat + 1), by rw [UInt32.toNat_ofNat', Nat.mod_eq_of_lt (by omega)]⟩
  have hsx := (lvl_short t name keys h).get (2 * i)
  have hsy := (lvl_short t name keys h).get (2 * i + 1)
  refine enter (args := [_, _, _, _]) (fn := Tryd.f46) ⟨Tryd.func46, rfl, by kernel_rfl, by kernel_rfl⟩ 56 rfl ?_
  refine x_seq (x_region ?_)
  refine tl_e rfl (e_box rfl (fun b1 => ?_))
  refine tl_y rfl (y_assign rfl) ?_
  refine tl_nil (.then_normal ?_)
  refine x_seq (x_region ?_)
  refine tl_y rfl (y_move (v := .slice _ _ _) rfl) ?_
  refine tl_y rfl (y_len rfl) ?_
  refine tl_y rfl (y_convN32 rfl (by omega)) ?_
  refine tl_y rfl (y_assign (v := .int _ _) rfl) ?_
  refine tl_nil (.then_normal ?_)
  refine .sub (F' := [(1, _), (2, _), (3, _), (4, _), (9, _)]) (.cons rfl (.cons rfl (.cons rfl (.cons rfl (.cons rfl .nil))))) ?_
  refine x_seq (x_seq (x_region ?_))
  refine tl_y rfl (y_move (v := .int _ _) rfl) ?_
  refine tl_y rfl (y_move (v := .int _ _) rfl) ?_
  refine tl_y rfl (y_geq rfl rfl) ?_
  refine tl_nil (.then_normal ?_)
  refine x_false rfl (by rw [decide_eq_false_iff_not]; omega) ?_
  refine x_skip (.then_normal ?_)
  refine .sub (F' := [(1, _), (2, _), (3, _), (4, _)]) (.cons rfl (.cons rfl (.cons rfl (.cons rfl .nil)))) ?_
  refine x_seq (x_region ?_)
  refine tl_y rfl (y_loadAgg rfl rfl (.own inferInstance inferInstance)) ?_
  refine tl_y rfl (y_move (v := .slice _ _ _) rfl) ?_
  refine tl_y rfl (y_move (v := .slice _ _ _) rfl) ?_
  refine tl_y rfl (y_move (v := .int _ _) rfl) ?_
  refine tl_y rfl (y_mulN32 rfl rfl (by omega)) ?_
  rw [show (2 : Int) * (place.toNat : Int) = ((x.toNat : Nat) : Int) by rw [hx]; omega]
  refine tl_e rfl (e_call' rfl (ih M _ (2 * i) x (Le.refl _) (by omega) (by omega)) ?_)
  rintro _ M1 _ hM1 ⟨rfl, A1, n1, c1, rfl, hA1⟩
  have hn1 := hA1.size
  refine tl_y rfl (y_assign (v := .slice _ _ _) rfl) ?_
  refine tl_nil (.then_normal ?_)
  refine .sub (F' := [(1, _), (2, _), (3, _), (4, _), (10, _)]) (.cons rfl (.cons rfl (.cons rfl (.cons rfl (.cons rfl .nil))))) ?_
  refine x_seq (x_region ?_)
  refine tl_y rfl (y_loadAgg rfl rfl (.own inferInstance inferInstance)) ?_
  refine tl_y rfl (y_move (v := .slice _ _ _) rfl) ?_
  refine tl_y rfl (y_move (v := .slice _ _ _) rfl) ?_
  refine tl_y rfl (y_move (v := .int _ _) rfl) ?_
  refine tl_y rfl (y_mulN32 rfl rfl (by omega)) ?_
  refine tl_y rfl (y_addN32 rfl rfl (by omega)) ?_
  rw [show (2 : Int) * (place.toNat : Int) + 1 = ((y.toNat : Nat) : Int) by rw [hy]; omega]
  refine tl_e rfl (e_call' rfl (ih M1 _ (2 * i + 1) y hM1 (by omega) (by omega)) ?_)
  rintro _ M2 _ hM2 ⟨rfl, A2, n2, c2, rfl, hA2⟩
  have hn2 := hA2.size
  have hm := hM1.trans hM2
  refine tl_y rfl (y_assign (v := .slice _ _ _) rfl) ?_
  refine tl_nil (.then_normal ?_)
  refine .sub (F' := [(1, _), (3, _), (4, _), (10, _), (11, _)]) (.cons rfl (.cons rfl (.cons rfl (.cons rfl (.cons rfl .nil))))) ?_
  refine x_seq ?_
  refine x_draw0 11 ([(b1, .cells (List.toArray t.cells) 30 (0, 0))]) Keeps.mem hmix rfl ?_
  refine to_p 0 rfl (by kernel_rfl) rfl (y_fieldAddr rfl) ?_
  refine to_y 1 rfl (by kernel_rfl) rfl (y_load rfl rfl (.own inferInstance inferInstance)) ?_
  refine to_p 2 rfl (by kernel_rfl) rfl (y_fieldAddr rfl) ?_
  refine to_y 3 rfl (by kernel_rfl) rfl (y_load rfl rfl (.own inferInstance inferInstance)) ?_
  refine to_p 4 rfl (by kernel_rfl) rfl (y_move (v := .slice _ _ _) rfl) ?_
  refine to_p 5 rfl (by kernel_rfl) rfl (y_move (v := .int _ _) rfl) ?_
  refine to_p 7 rfl (by kernel_rfl) rfl (y_move (v := .slice _ _ _) rfl) ?_
  refine to_p 9 rfl (by kernel_rfl) rfl (y_move (v := .slice _ _ _) rfl) ?_
  refine to_e 6 rfl (by kernel_rfl) rfl (e_buildSlice0 (fun b2 => ?_))
  refine ⟨⟨Le.refl _, Keeps.mem⟩, ?_⟩
  refine to_e 8 rfl (by kernel_rfl) rfl (e_append1 (by decide) rfl rfl OwnRow.made00 (.row (hA1.mono hM2)) (all_one_bv _) (by omega) (by omega) (fun A3 c3 E3 hE3 => ?_))
  rw [Nat.zero_add, List.nil_append] at hE3
  rw [Nat.zero_add]
  refine ⟨⟨Le.refl _, Keeps.mem⟩, ?_⟩
  refine to_e 10 rfl (by kernel_rfl) rfl (e_append (by decide) rfl rfl hE3 (.row hA2) (all_one_bv _) (by omega) (by omega) (fun A4 c4 E4 hE4 => ?_))
  rw [← List.map_append] at hE4
  refine ⟨⟨Le.refl _, Keeps.mem⟩, ?_⟩
  refine .pubRow hE4 (fun M3 hM3 htext => ?_)
  refine to_t 11 rfl (by kernel_rfl) (by kernel_rfl) rfl (e_call' rfl (RPart_spec t.kind t.n (hname.mono (hm.trans hM3)) place 33667 (by omega) htext (by omega)) ?_)
  rintro _ M4 _ hM4 ⟨rfl, A5, m5, c5, rfl, hA5⟩
  refine to_p 12 rfl (by kernel_rfl) rfl (y_assign (v := .slice _ _ _) rfl) ?_
  refine to_nil (by kernel_rfl) (.then_normal ?_)
  refine .sub (F' := [(8, _)]) (.cons rfl .nil) ?_
  refine x_ret (.dropTo L inferInstance (ret1 rfl rfl (hm.trans (hM3.trans hM4)) ⟨rfl, _, _, _, rfl, by
    rw [lvl, nextB_get _ _ _ (by omega), innB, show (lvl t name keys h).length / 2 + i = place.toNat by omega]
    exact hA5⟩))
theorem RAt_spec (t : TreeV) {H : Nat} (hH : t.h = (H : Int)) (hH5 : H ≤ 20) {NA : Option Addr} {nl nc : Nat} {name : List UInt8} {KA : Option Addr} {kl kc : Nat} {kvs : List Value} {keys : List (List UInt8)} (hkl : kl = pw2 H) (hks : ∀ b ∈ keys, b.length ≤ 1000000000000) :
    ∀ (h : Nat), h ≤ H → ∀ (M : Mem) (L : Own) (i : Nat) (place : UInt32), Bytes M NA nl nc name → Row M 1 KA kl kc kvs → BRows M kvs keys → i < pw2 (H - h) → place.toNat = pw2 (H - h) + i →
    Con Tryd.prog 46 #[.agg (List.toArray t.cells), .slice NA nl nc, .slice KA kl kc, .int .u32 (place.toNat : Int)] G M L (fun v M' L' => L = L' ∧ ∃ A' m' c', v = .slice A' m' c' ∧ Bytes M' A' m' c' ((lvl t name keys h).getD i [])) noPanic
  | 0, _, M, L, i, place, hname, hk, hkb, hi, hp => RAt0_spec t hH hH5 hname hk hkb hkl hks i hi place hp
  | h + 1, hh, M, L, i, place, hname, hk, hkb, hi, hp => RAtS_spec t hH hH5 hname hk hkb hkl h (by omega) (fun M' L' i' place' hle hi' hp' => RAt_spec t hH hH5 hkl hks h (by omega) M' L' i' place' (hname.mono hle) (hk.mono hle) (hkb.mono hle) hi' hp') i hi place hp
theorem RWay_spec (t : TreeV) {NA : Option Addr} {nl nc : Nat} {name : List UInt8} (hname : Bytes M NA nl nc name) {KA : Option Addr} {kl kc : Nat} {kvs : List Value} {keys : List (List UInt8)} (hk : Row M 1 KA kl kc kvs) (hkb : BRows M kvs keys) (hks : ∀ b ∈ keys, b.length ≤ 1000000000000) (q : UInt32) :
    Con Tryd.prog 18 #[.agg (List.toArray t.cells), .slice NA nl nc, .slice KA kl kc, .int .u32 (q.toNat : Int)] G M L (fun v M' L' => L = L' ∧ ∃ A' m' c' vs', v = .slice A' m' c' ∧ Row M' 1 A' m' c' vs' ∧ BRows M' vs' (if okM t nl kl ∧ q.toNat < kl then wayB t name keys q.toNat t.h.toNat else [])) noPanic := by
  have hmx := hk.max
  have hle := hk.le
  have hqq := q.toNat_lt
  refine enter (args := [_, _, _, _]) (fn := Tryd.f18) ⟨Tryd.func18, rfl, by kernel_rfl, by kernel_rfl⟩ 50 rfl ?_
  refine x_seq (x_region ?_)
  refine tl_e rfl (e_box rfl (fun b1 => ?_))
  refine tl_y rfl (y_assign rfl) ?_
  refine tl_nil (.then_normal ?_)
  refine x_seq (x_region ?_)
  refine tl_y rfl (y_assign rfl) ?_
  refine tl_nil (.then_normal ?_)
  refine x_seq (x_seq (x_region ?_))
  refine tl_y rfl (y_loadAgg rfl rfl (.own inferInstance inferInstance)) ?_
  refine tl_y rfl (y_move (v := .slice _ _ _) rfl) ?_
  refine tl_y rfl (y_move (v := .slice _ _ _) rfl) ?_
  refine tl_e rfl (e_call' rfl (RMay_spec t (by omega)) ?_)
  rintro _ _ _ _ ⟨rfl, rfl, rfl⟩
  refine tl_y rfl (y_notd rfl) ?_
  refine tl_y rfl (y_move (v := .bool _) rfl) ?_
  refine tl_cases (s := 17) rfl (fun hk1 => ?_) (fun hk1 => ?_)
  ·
    refine tl_skip rfl ?_
    refine tl_skip rfl ?_
    refine tl_skip rfl ?_
    refine tl_skip rfl ?_
    refine tl_skip rfl ?_
    refine tl_skip rfl ?_
    refine tl_y rfl (y_pickT rfl rfl) ?_
    refine tl_nil (.then_normal ?_)
    refine .sub (F' := [(1, _), (2, _), (3, _), (4, _), (9, _), (24, _)]) (.cons rfl (.cons rfl (.cons rfl (.cons rfl (.cons rfl (.cons rfl .nil)))))) ?_
    refine x_true rfl rfl ?_
    refine x_seq (x_region ?_)
    refine tl_y rfl (y_assign rfl) ?_
    refine tl_nil (.then_normal ?_)
    refine .sub (F' := [(8, _)]) (.cons rfl .nil) ?_
    refine x_ret (.then_ret (.dropTo L inferInstance (ret1 rfl rfl (Le.refl _) ⟨rfl, _, _, _, _, rfl, Row.nil _ _, by rw [if_neg (fun h => hk1 h.1)]; exact .nil⟩)))
  ·
    have hok : okM t nl kl := Classical.not_not.1 hk1
    obtain ⟨hokc, H, hH, hH1, hH25, hlv⟩ := okS_facts hok.1
    have hkl : kl = pw2 H := by rw [← hlv]; exact hok.2.2
    have hH10 := hok.2.1
    have hpw := pw2_25 hH25
    refine tl_y rfl (y_move (v := .int _ _) rfl) ?_
    refine tl_y rfl (y_convN64 rfl (by omega)) ?_
    refine tl_y rfl (y_move (v := .slice _ _ _) rfl) ?_
    refine tl_y rfl (y_len rfl) ?_
    refine tl_y rfl (y_convN64 rfl (by omega)) ?_
    refine tl_y rfl (y_geq rfl rfl) ?_
    refine tl_y rfl (y_pickF rfl rfl) ?_
    refine tl_nil (.then_normal ?_)
    refine .sub (F' := [(1, _), (2, _), (3, _), (4, _), (9, _), (24, _)]) (.cons rfl (.cons rfl (.cons rfl (.cons rfl (.cons rfl (.cons rfl .nil)))))) ?_
    refine x_cond rfl (fun hc1 => ?_) (fun hc1 => ?_)
    ·
      refine x_seq (x_region ?_)
      refine tl_y rfl (y_assign rfl) ?_
      refine tl_nil (.then_normal ?_)
      refine .sub (F' := [(8, _)]) (.cons rfl .nil) ?_
      refine x_ret (.then_ret (.dropTo L inferInstance (ret1 rfl rfl (Le.refl _) ⟨rfl, _, _, _, _, rfl, Row.nil _ _, by rw [if_neg (fun h => by have := h.2; omega)]; exact .nil⟩)))
    ·
      have hq : q.toNat < pw2 H := by omega
      have hq2 : q.toNat < kl := by omega
      subst hkl
      refine x_skip (.then_normal ?_)
      refine x_seq (x_seq (x_region ?_))
      refine tl_y rfl (y_move (v := .slice _ _ _) rfl) ?_
      refine tl_y rfl (y_len rfl) ?_
      refine tl_y rfl (y_convN32 rfl (by omega)) ?_
      refine tl_y rfl (y_move (v := .int _ _) rfl) ?_
      refine tl_y rfl (y_addN32 rfl rfl (by omega)) ?_
      rw [show ((pw2 H : Nat) : Int) + (q.toNat : Int) = ((pw2 (H - 0) + q.toNat / pw2 0 : Nat) : Int) by rw [show pw2 0 = 1 from rfl, Nat.div_one, Nat.sub_zero]; omega]
      refine tl_y rfl (y_assign (v := .int _ _) rfl) ?_
      refine tl_nil (.then_normal ?_)
      refine .sub (F' := [(1, _), (2, _), (4, _), (9, _), (10, _)]) (.cons rfl (.cons rfl (.cons rfl (.cons rfl (.cons rfl .nil))))) ?_
      refine x_block ?_
      refine x_loop (I := fun m' F D M1 L1 => ∃ (k : Nat) (A1 : Option Addr) (c1 : Nat) (E : Own) (vs : List Value), m' = H - k ∧ k ≤ H ∧ Le M M1 ∧ OwnRow 22 1 A1 k c1 vs E ∧ BRows M1 vs (wayB t name keys q.toNat k) ∧ D = [] ∧ L1 = E ++ ((b1, .cells (List.toArray t.cells) 30 (0, 0)) :: L) ∧ F = [(1, .slice NA nl nc), (2, .slice KA (pw2 H) kc), (4, .pointer (some ⟨b1, 0, none⟩)), (9, .slice A1 k c1), (10, .int .u32 ((pw2 (H - k) + q.toNat / pw2 k : Nat) : Int))]) (H) (F0 := [(1, _), (2, _), (4, _), (9, _), (10, _)]) ?_ (.cons rfl (.cons rfl (.cons rfl (.cons rfl (.cons rfl .nil))))) ?_  -- slots [1, 2, 4, 9, 10], written [9, 10]
      · exact ⟨0, none, 0, [], [], rfl, by omega, Le.refl _, .nil, .nil, rfl, rfl, rfl⟩
      rintro m _ _ M1 L1 ⟨k, A1, c1, E, vs, rfl, hkk, he, hE, hB, rfl, rfl, rfl⟩
      obtain ⟨z, hz⟩ : ∃ z, q.toNat / pw2 k = z := ⟨_, rfl⟩
      have hzl : z < pw2 (H - k) := by rw [← hz]; exact div_lt hkk hq
      obtain ⟨w, hw⟩ : ∃ w, w = pw2 (H - k) + z := ⟨_, rfl⟩
      have hp2 := pw2_25 (h := H - k) (by omega)
      rw [hz, ← hw]
      refine x_seq (x_seq (x_region ?_))
      refine tl_y rfl (y_move (v := .int _ _) rfl) ?_
      refine tl_y rfl (y_gtr rfl rfl) ?_
      refine tl_nil (.then_normal ?_)
      refine x_cond rfl (fun hc2 => ?_) (fun hc2 => ?_)
      ·
        have hkH : k < H := by
          rcases Nat.lt_or_ge k H with hlt | hge
          · exact hlt
          · obtain rfl : k = H := by omega
            rw [Nat.sub_self, show pw2 0 = 1 from rfl] at hw hzl
            omega
        have hhf := (pw2_half hkH).2
        have hsl : sib z < pw2 (H - k) := by rw [← hz]; exact sib_lt hkH hq
        have hs1 : z % 2 = 1 → sib z = z - 1 := fun h => by rw [sib, if_pos h]
        have hs0 : ¬ z % 2 = 1 → sib z = z + 1 := fun h => by rw [sib, if_neg h]
        obtain ⟨y, hy⟩ : ∃ y : UInt32, y.toNat = pw2 (H - k) + sib z := ⟨UInt32.ofNat (pw2 (H - k) + sib z), by rw [UInt32.toNat_ofNat', Nat.mod_eq_of_lt (by omega)]⟩
        refine x_skip (.then_normal ?_)
        refine x_seq ?_
        refine x_block ?_
        refine x_seq (x_region ?_)
        refine tl_y rfl (y_move (v := .int _ _) rfl) ?_
        refine tl_y rfl (y_addN32 rfl rfl (by omega)) ?_
        refine tl_y rfl (y_assign (v := .int _ _) rfl) ?_
        refine tl_nil (.then_normal ?_)
        refine .sub (F' := [(1, _), (2, _), (4, _), (9, _), (10, _), (11, _)]) (.cons rfl (.cons rfl (.cons rfl (.cons rfl (.cons rfl (.cons rfl .nil)))))) ?_
        refine x_seq (x_seq (x_region ?_))
        refine tl_y rfl (y_move (v := .int _ _) rfl) ?_
        refine tl_y rfl (y_remI rfl rfl (by omega)) ?_
        refine tl_y rfl (y_eql rfl rfl) ?_
        refine tl_nil (.then_normal ?_)
        refine x_cond rfl (fun hc3 => ?_) (fun hc3 => ?_)
        ·
          refine x_region ?_
          refine tl_y rfl (y_move (v := .int _ _) rfl) ?_
          refine tl_y rfl (y_subN32 rfl rfl (by omega)) ?_
          rw [show ((w : Nat) : Int) - 1 = ((y.toNat : Nat) : Int) by have := hs1 (by omega); omega]
          refine tl_y rfl (y_assign (v := .int _ _) rfl) ?_
          refine tl_nil (.then_normal ?_)
          refine .sub (F' := [(1, _), (2, _), (4, _), (9, _), (10, _), (11, _)]) (.cons rfl (.cons rfl (.cons rfl (.cons rfl (.cons rfl (.cons rfl .nil)))))) ?_
          refine x_region ?_
          refine tl_y rfl (y_move (v := .slice _ _ _) rfl) ?_
          refine tl_y rfl (y_loadAgg rfl rfl (.own inferInstance inferInstance)) ?_
          refine tl_y rfl (y_move (v := .slice _ _ _) rfl) ?_
          refine tl_y rfl (y_move (v := .slice _ _ _) rfl) ?_
          refine tl_y rfl (y_move (v := .int _ _) rfl) ?_
          refine tl_e rfl (e_call' rfl (RAt_spec t hH (by omega) rfl hks k (by omega) M1 _ (sib z) y (hname.mono he) (hk.mono he) (hkb.mono he) hsl hy) ?_)
          rintro _ M2 _ hM2 ⟨rfl, A2, n2, c2, rfl, hA2⟩
          refine tl_e rfl (e_buildSlice rfl (by decide) (fun b2 => ?_))
          refine .pub b2 inferInstance (fun M3 hM3 hb3 => ?_)
          refine tl_e rfl (e_append (by decide) rfl rfl hE (.row (Row.whole (s := 1) hb3 rfl (by omega))) rfl (by omega) (by omega) (fun A7 c7 E7 hE7 => ?_))
          refine tl_y rfl (y_assign (v := .slice _ _ _) rfl) ?_
          refine tl_nil (.block_normal (.then_normal ?_))
          refine .sub (F' := [(1, _), (2, _), (4, _), (9, _), (10, _)]) (.cons rfl (.cons rfl (.cons rfl (.cons rfl (.cons rfl .nil))))) ?_
          refine x_region ?_
          refine tl_y rfl (y_move (v := .int _ _) rfl) ?_
          refine tl_y rfl (y_quoN32 rfl rfl (by omega)) ?_
          rw [show ((w : Nat) : Int) / 2 = ((pw2 (H - (k + 1)) + q.toNat / pw2 (k + 1) : Nat) : Int) by rw [← div_pw2, hz]; omega]
          refine tl_y rfl (y_assign (v := .int _ _) rfl) ?_
          refine tl_nil (.loop_next (m' := H - (k + 1)) (by omega) (F' := [(1, _), (2, _), (4, _), (9, _), (10, _)]) (.cons rfl (.cons rfl (.cons rfl (.cons rfl (.cons rfl .nil))))) ?_)
          exact ⟨k + 1, A7, c7, E7, _, rfl, by omega, he.trans (hM2.trans hM3), hE7, by
            rw [wayB_succ, hz]
            exact (hB.mono (hM2.trans hM3)).snoc (hA2.mono hM3), rfl, rfl, rfl⟩
        ·
          rw [show ((w : Nat) : Int) + 1 = ((y.toNat : Nat) : Int) by have := hs0 (by omega); omega]
          refine x_skip (.then_normal ?_)
          refine x_region ?_
          refine tl_y rfl (y_move (v := .slice _ _ _) rfl) ?_
          refine tl_y rfl (y_loadAgg rfl rfl (.own inferInstance inferInstance)) ?_
          refine tl_y rfl (y_move (v := .slice _ _ _) rfl) ?_
          refine tl_y rfl (y_move (v := .slice _ _ _) rfl) ?_
          refine tl_y rfl (y_move (v := .int _ _) rfl) ?_
          refine tl_e rfl (e_call' rfl (RAt_spec t hH (by omega) rfl hks k (by omega) M1 _ (sib z) y (hname.mono he) (hk.mono he) (hkb.mono he) hsl hy) ?_)
          rintro _ M2 _ hM2 ⟨rfl, A2, n2, c2, rfl, hA2⟩
          refine tl_e rfl (e_buildSlice rfl (by decide) (fun b2 => ?_))
          refine .pub b2 inferInstance (fun M3 hM3 hb3 => ?_)
          refine tl_e rfl (e_append (by decide) rfl rfl hE (.row (Row.whole (s := 1) hb3 rfl (by omega))) rfl (by omega) (by omega) (fun A7 c7 E7 hE7 => ?_))
          refine tl_y rfl (y_assign (v := .slice _ _ _) rfl) ?_
          refine tl_nil (.block_normal (.then_normal ?_))
          refine .sub (F' := [(1, _), (2, _), (4, _), (9, _), (10, _)]) (.cons rfl (.cons rfl (.cons rfl (.cons rfl (.cons rfl .nil))))) ?_
          refine x_region ?_
          refine tl_y rfl (y_move (v := .int _ _) rfl) ?_
          refine tl_y rfl (y_quoN32 rfl rfl (by omega)) ?_
          rw [show ((w : Nat) : Int) / 2 = ((pw2 (H - (k + 1)) + q.toNat / pw2 (k + 1) : Nat) : Int) by rw [← div_pw2, hz]; omega]
          refine tl_y rfl (y_assign (v := .int _ _) rfl) ?_
          refine tl_nil (.loop_next (m' := H - (k + 1)) (by omega) (F' := [(1, _), (2, _), (4, _), (9, _), (10, _)]) (.cons rfl (.cons rfl (.cons rfl (.cons rfl (.cons rfl .nil))))) ?_)
          exact ⟨k + 1, A7, c7, E7, _, rfl, by omega, he.trans (hM2.trans hM3), hE7, by
            rw [wayB_succ, hz]
            exact (hB.mono (hM2.trans hM3)).snoc (hA2.mono hM3), rfl, rfl, rfl⟩
      ·
        obtain rfl : k = H := by
          rcases Nat.lt_or_ge k H with hlt | hge
          · have h1 := (pw2_half hlt).2
            have h2 := pw2_pos (H - (k + 1))
            omega
          · omega
        refine .pubRow hE (fun M4 hM4 hrow4 => ?_)
        refine x_exit (.then_exit (.loop_exit (.block_exit (.then_normal ?_))))
        refine .sub (F' := [(9, _)]) (.cons rfl .nil) ?_
        refine x_seq (x_region ?_)
        refine tl_y rfl (y_move (v := .slice _ _ _) rfl) ?_
        refine tl_y rfl (y_assign (v := .slice _ _ _) rfl) ?_
        refine tl_nil (.then_normal ?_)
        refine x_ret (.dropTo L inferInstance (ret1 rfl rfl (he.trans hM4) ⟨rfl, _, _, _, _, rfl, hrow4, by rw [if_pos ⟨hok, by omega⟩, hH, Int.toNat_natCast]; exact hB.mono hM4⟩))
end
end Go.Proofs.YtbjnjedfoiedeaaDoor
set_option linter.unusedVariables false
set_option linter.unusedSimpArgs false
set_option linter.constructorNameAsVariable false
namespace Go.Proofs.YtbjnjedfoiedeaaDoor
open Go Go.Eng
section
variable {G : World} {M : Mem} {L : Own}
end
end Go.Proofs.YtbjnjedfoiedeaaDoor
set_option linter.unusedVariables false
set_option linter.unusedSimpArgs false
set_option linter.constructorNameAsVariable false
namespace Go.Proofs.YtbjnjedfoiedeaaDoor
open Go Go.Eng
/-! ### From each leaf's key its way leads to the root -/
theorem cPart_len {kind n : Int} (h : okC kind n) {name : List UInt8} (hn : name.length = 16) (q d : Nat) (text : List UInt8) : ((cPart kind n name q d text).length : Int) = n := by
  rw [cPart, if_pos hn, cSum, if_pos h, csum_length h _ (sha_length _)]
  rcases h.2 with h | h <;> subst h <;> rfl
theorem lvl_each {t : TreeV} (h : okC t.kind t.n) {name : List UInt8} (hn : name.length = 16) (keys : List (List UInt8)) : ∀ j, ∀ b ∈ lvl t name keys j, (b.length : Int) = t.n
  | 0, b, hb => by
    rw [lvl, leavesB, List.mem_map] at hb
    obtain ⟨q, _, rfl⟩ := hb
    exact cPart_len h hn _ _ _
  | j + 1, b, hb => by
    rw [lvl, nextB, List.mem_map] at hb
    obtain ⟨q, _, rfl⟩ := hb
    exact cPart_len h hn _ _ _
theorem lvl_getLen {t : TreeV} (h : okC t.kind t.n) {name : List UInt8} (hn : name.length = 16) {keys : List (List UInt8)} {H : Nat} (hk : keys.length = pw2 H) {j i : Nat} (hj : j ≤ H) (hi : i < pw2 (H - j)) : (((lvl t name keys j).getD i []).length : Int) = t.n :=
  lvl_each h hn keys j _ (getD_mem _ _ _ (by rw [lvl_len t name keys hk j hj]; exact hi))
theorem wayB_get (t : TreeV) (name : List UInt8) (keys : List (List UInt8)) (q : Nat) {k j : Nat} (h : j < k) : (wayB t name keys q k).getD j [] = (lvl t name keys j).getD (sib (q / pw2 j)) [] := by
  rw [List.getD_eq_getElem?_getD, wayB, List.getElem?_map, List.getElem?_range h]; rfl
theorem add_div_pw2 {H j q : Nat} (hj : j ≤ H) : (pw2 H + q) / pw2 j = pw2 (H - j) + q / pw2 j := by
  rw [pw2_mul hj, Nat.mul_add_div (pw2_pos j)]
theorem leads {t : TreeV} {H : Nat} (hH : t.h = (H : Int)) (name : List UInt8) {keys : List (List UInt8)} (hk : keys.length = pw2 H) {q : Nat} (hq : q < pw2 H) : ∀ j, j ≤ H →
    clX t name (wayB t name keys q H) (pw2 H + q) (leafB t name q (keys.getD q [])) j = (lvl t name keys j).getD (q / pw2 j) []
  | 0, _ => by
    rw [clX, lvl, show pw2 0 = 1 from rfl, Nat.div_one, leavesB_get _ _ _ (by omega)]
  | j + 1, hj => by
    have hlt : j < H := hj
    have hhf := (pw2_half hlt).2
    have hl := lvl_len t name keys hk j (by omega)
    have hz := div_lt (h := j + 1) hj hq
    rw [clX, leads hH name hk hq j (by omega), wayB_get _ _ _ _ hlt, lvl, nextB_get _ _ _ (by omega), add_div_pw2 (Nat.le_of_lt hlt), add_div_pw2 hj, hl, ← div_pw2]
    rw [← div_pw2] at hz
    generalize q / pw2 j = z at hz
    rw [show pw2 (H - j) / 2 = pw2 (H - (j + 1)) by omega]
    unfold sib
    by_cases hodd : z % 2 = 1
    · rw [if_pos (by omega), if_pos hodd, show z - 1 = 2 * (z / 2) by omega]
      conv => lhs; rw [show z = 2 * (z / 2) + 1 by omega]
      congr 3 <;> omega
    · rw [if_neg (by omega), if_neg hodd]
      conv => lhs; rw [show z = 2 * (z / 2) by omega]
      congr 3 <;> omega
/-- A leaf's way may be gone up, and leads to the root. -/
theorem way_ok {t : TreeV} {nl : Nat} (hs : okS t nl) {name : List UInt8} (hn : name.length = 16) {keys : List (List UInt8)} {H : Nat} (hH : t.h = (H : Int)) (hk : keys.length = pw2 H) {q : Nat} (hq : q < pw2 H) : okW t nl q (wayB t name keys q H) := by
  obtain ⟨hokc, H', hH', _, _, hlv⟩ := okS_facts hs
  obtain rfl : H = H' := by omega
  refine ⟨hs, by rw [hlv]; exact hq, by rw [wayB_len]; exact hH.symm, fun b hb => ?_⟩
  rw [wayB, List.mem_map] at hb
  obtain ⟨j, hj, rfl⟩ := hb
  have hj' := List.mem_range.1 hj
  exact lvl_getLen hokc hn hk (Nat.le_of_lt hj') (sib_lt hj' hq)
theorem climb_root {t : TreeV} {nl : Nat} (hs : okS t nl) {name : List UInt8} (hn : name.length = nl) {keys : List (List UInt8)} {H : Nat} (hH : t.h = (H : Int)) (hk : keys.length = pw2 H) {q : Nat} (hq : q < pw2 H) : climbB t name q (keys.getD q []) (wayB t name keys q H) = rootB t name keys := by
  have h16 := hs.2.2
  rw [climbB, if_pos (by rw [hn]; exact way_ok hs (by omega) hH hk hq), hH, Int.toNat_natCast, wayB_len, leads hH name hk hq H (Nat.le_refl _), rootB, hH, Int.toNat_natCast, Nat.div_eq_of_lt hq]
theorem root_len {t : TreeV} {nl : Nat} (hs : okS t nl) {name : List UInt8} (hn : name.length = nl) {keys : List (List UInt8)} {H : Nat} (hH : t.h = (H : Int)) (hk : keys.length = pw2 H) : ((rootB t name keys).length : Int) = t.n := by
  have h16 := hs.2.2
  rw [rootB, hH, Int.toNat_natCast]
  exact lvl_getLen (okS_facts hs).1 (by omega) hk (Nat.le_refl _) (by rw [Nat.sub_self]; exact pw2_pos 0)
theorem f11 : ∃ t : TreeV, treeV 4026531846 = t ∧ t.n = 24 ∧ t.kind = 0 ∧ t.h = 2 ∧ treeE t.code = 0 ∧ treeV t.code = t := by
  refine ⟨treeV 4026531846, rfl, ?_⟩
  decide +kernel
section
variable {G : World} {M : Mem} {L : Own}
end
end Go.Proofs.YtbjnjedfoiedeaaDoor
set_option linter.unusedVariables false
set_option linter.unusedSimpArgs false
set_option linter.constructorNameAsVariable false
namespace Go.Proofs.YtbjnjedfoiedeaaDoor
open Go Go.Eng
def smallB (keys : List (List UInt8)) : Prop := keys.length ≤ 1100 ∧ keys.flatten.length ≤ 40000
instance {keys : List (List UInt8)} : Decidable (smallB keys) := inferInstanceAs (Decidable (_ ∧ _))
theorem flat_le {keys : List (List UInt8)} (h : ∀ b ∈ keys, b.length ≤ 140737488355328) : keys.flatten.length ≤ keys.length * 140737488355328 := by
  induction keys with
  | nil => simp
  | cons b keys ih =>
    have h1 := h b List.mem_cons_self
    have h2 := ih (fun c hc => h c (List.mem_cons_of_mem _ hc))
    rw [List.flatten_cons, List.length_append, List.length_cons]
    omega
theorem mem_flat {keys : List (List UInt8)} {b : List UInt8} (h : b ∈ keys) : b.length ≤ keys.flatten.length := by
  induction keys with
  | nil => cases h
  | cons c keys ih =>
    rw [List.flatten_cons, List.length_append]
    rcases List.mem_cons.1 h with rfl | h
    · omega
    · have := ih h; omega
theorem smallB.each {keys : List (List UInt8)} (h : smallB keys) : ∀ b ∈ keys, b.length ≤ 1000000000000 := fun b hb => by
  have := mem_flat hb
  have := h.2
  omega
section
variable {G : World} {M : Mem} {L : Own}
theorem All_spec {A B : Option Addr} {n c m d : Nat} {va vb : List Value} {xs ys : List (List UInt8)} (ha : Row M 1 A n c va) (hab : BRows M va xs) (hb : Row M 1 B m d vb) (hbb : BRows M vb ys) (he : xs = ys) :
    Con Tryd.prog 17 #[.slice A n c, .slice B m d] G M L (fun v M' L' => M = M' ∧ L = L' ∧ v = .bool true) noPanic := by
  subst he
  have hmx := ha.max
  have hle := ha.le
  have hvl := hab.len
  have hvl2 := hbb.len
  have hnl : va.length = n := by have := ha.len; omega
  have hnl2 : vb.length = m := by have := hb.len; omega
  obtain rfl : n = m := by omega
  refine enter (args := [_, _]) (fn := Tryd.f17) ⟨Tryd.func17, rfl, by kernel_rfl, by kernel_rfl⟩ 27 rfl ?_
  refine x_seq (x_region ?_)
  refine tl_y rfl (y_assign rfl) ?_
  refine tl_nil (.then_normal ?_)
  refine x_seq (x_seq (x_region ?_))
  refine tl_y rfl (y_move (v := .slice _ _ _) rfl) ?_
  refine tl_y rfl (y_len rfl) ?_
  refine tl_y rfl (y_move (v := .slice _ _ _) rfl) ?_
  refine tl_y rfl (y_len rfl) ?_
  refine tl_y rfl (y_neq rfl rfl) ?_
  refine tl_nil (.then_normal ?_)
  refine .sub (F' := [(0, _), (1, _), (4, _), (10, _)]) (.cons rfl (.cons rfl (.cons rfl (.cons rfl .nil)))) ?_
  refine x_false rfl (by simp) ?_
  refine x_skip (.then_normal ?_)
  refine x_seq (x_seq (x_region ?_))
  refine tl_y rfl (y_assign rfl) ?_
  refine tl_nil (.then_normal ?_)
  refine x_block ?_
  refine x_loop (I := fun m' F D M1 L1 => ∃ k : Nat, m' = n - k ∧ k ≤ n ∧ D = [] ∧ M = M1 ∧ L = L1 ∧ F = [(0, .slice A n c), (1, .slice B n d), (4, .bool false), (5, .int .i64 k)]) (n) (F0 := [(0, _), (1, _), (4, _), (5, _)]) ?_ (.cons rfl (.cons rfl (.cons rfl (.cons rfl .nil)))) ?_  -- slots [0, 1, 4, 5], written [4, 5]
  · exact ⟨0, rfl, by omega, rfl, rfl, rfl, rfl⟩
  rintro m _ _ _ _ ⟨k, rfl, hk, rfl, rfl, rfl, rfl⟩
  refine x_seq (x_seq (x_region ?_))
  refine tl_y rfl (y_move (v := .int _ _) rfl) ?_
  refine tl_y rfl (y_move (v := .slice _ _ _) rfl) ?_
  refine tl_y rfl (y_len rfl) ?_
  refine tl_y rfl (y_lss rfl rfl) ?_
  refine tl_nil (.then_normal ?_)
  refine x_cond rfl (fun hc2 => ?_) (fun hc2 => ?_)
  ·
    have hkn : k < n := by omega
    obtain ⟨g, o, rfl, hcell⟩ := ha.addr (by omega)
    obtain ⟨g2, o2, rfl, hcell2⟩ := hb.addr (by omega)
    obtain ⟨A2, n2, c2, hv2, hb2⟩ := hab.get k (by omega)
    obtain ⟨A3, n3, c3, hv3, hb3⟩ := hbb.get k (by omega)
    refine x_skip (.then_normal ?_)
    refine .sub (F' := [(0, _), (1, _), (4, _), (5, _)]) (.cons rfl (.cons rfl (.cons rfl (.cons rfl .nil)))) ?_
    refine x_seq ?_
    refine x_block ?_
    refine x_seq ?_
    refine x_draw 10 hmix rfl ?_
    refine to_p 0 rfl (by kernel_rfl) rfl (y_move (v := .slice _ _ _) rfl) ?_
    refine to_p 1 rfl (by kernel_rfl) rfl (y_move (v := .int _ _) rfl) ?_
    refine to_p 2 rfl (by kernel_rfl) rfl (y_indexAddr rfl rfl (by omega)) ?_
    refine to_y 3 rfl (by kernel_rfl) rfl (y_load rfl rfl (.at_ (hcell _ k _ hv2) (by omega))) ?_
    refine to_p 4 rfl (by kernel_rfl) rfl (y_move (v := .slice _ _ _) rfl) ?_
    refine to_p 5 rfl (by kernel_rfl) rfl (y_move (v := .int _ _) rfl) ?_
    refine to_p 6 rfl (by kernel_rfl) rfl (y_indexAddr rfl rfl (by omega)) ?_
    refine to_y 7 rfl (by kernel_rfl) rfl (y_load rfl rfl (.at_ (hcell2 _ k _ hv3) (by omega))) ?_
    refine to_e 8 rfl (by kernel_rfl) rfl (e_call' rfl (same_spec hb2 hb3) ?_)
    rintro _ _ _ _ ⟨rfl, rfl, rfl⟩
    refine ⟨⟨(by first | exact Le.refl _ | assumption), Keeps.mem⟩, ?_⟩
    refine to_p 9 rfl (by kernel_rfl) rfl (y_not rfl) ?_
    refine to_nil (by kernel_rfl) (.then_normal ?_)
    refine .sub (F' := [(0, _), (1, _), (4, _), (5, _), (26, _)]) (.cons rfl (.cons rfl (.cons rfl (.cons rfl (.cons rfl .nil))))) ?_
    refine x_false rfl (by simp) ?_
    refine x_skip (.block_normal (.then_normal ?_))
    refine x_region ?_
    refine tl_y rfl (y_move (v := .int _ _) rfl) ?_
    refine tl_y rfl (y_addI rfl rfl (by omega)) ?_
    refine tl_y rfl (y_assign (v := .int _ _) rfl) ?_
    refine tl_nil (.loop_next (m' := n - (k + 1)) (by omega) (F' := [(0, _), (1, _), (4, _), (5, _)]) (.cons rfl (.cons rfl (.cons rfl (.cons rfl .nil)))) ?_)
    exact ⟨k + 1, rfl, by omega, rfl, rfl, rfl, rfl⟩
  ·
    refine x_exit (.then_exit (.loop_exit (.block_exit (.then_normal ?_))))
    refine .sub (F' := []) .nil ?_
    refine x_seq (x_region ?_)
    refine tl_y rfl (y_assign rfl) ?_
    refine tl_nil (.then_normal ?_)
    refine x_ret (ret1 rfl rfl (Le.refl _) ⟨rfl, rfl, rfl⟩)
end
section
variable {G : World} {M : Mem} {L : Own}
end
end Go.Proofs.YtbjnjedfoiedeaaDoor
set_option linter.unusedVariables false
set_option linter.unusedSimpArgs false
namespace Go.Proofs.YtbjnjedfoiedeaaDoor
open Go Go.Eng
/-! ### Walks: how many sums of a way change from one leaf to the next -/
def chg (q : Nat) : Nat := if h : q % 2 = 1 then chg (q / 2) + 1 else 1
termination_by q
decreasing_by omega
theorem chg_odd {q : Nat} (h : q % 2 = 1) : chg q = chg (q / 2) + 1 := by rw [chg, dif_pos h]
theorem chg_even {q : Nat} (h : ¬ q % 2 = 1) : chg q = 1 := by rw [chg, dif_neg h]
theorem chg_pos (q : Nat) : 1 ≤ chg q := by
  by_cases h : q % 2 = 1
  · rw [chg_odd h]; omega
  · rw [chg_even h]; exact Nat.le_refl _
theorem half_pw2 (q g : Nat) : q / pw2 (g + 1) = q / 2 / pw2 g := by
  rw [Nat.div_div_eq_div_mul, pw2, pw2, Nat.pow_succ, Nat.mul_comm]
/-- Above them nothing changes. -/
theorem chg_same : ∀ (q g : Nat), chg q ≤ g → (q + 1) / pw2 g = q / pw2 g := by
  intro q
  induction q using Nat.strongRecOn with
  | ind q ih =>
    intro g hg
    have hp := chg_pos q
    obtain ⟨k, rfl⟩ : ∃ k, g = k + 1 := ⟨g - 1, by omega⟩
    rw [half_pw2, half_pw2]
    by_cases h : q % 2 = 1
    · rw [chg_odd h] at hg
      rw [show (q + 1) / 2 = q / 2 + 1 by omega]
      exact ih (q / 2) (by omega) k (by omega)
    · rw [show (q + 1) / 2 = q / 2 by omega]
/-- The next leaf's way: what was there but for the first sums. -/
def wayAt (t : TreeV) (name : List UInt8) (keys : List (List UInt8)) (q g : Nat) : List UInt8 := (lvl t name keys g).getD (sib (q / pw2 g)) []
theorem wayAt_same (t : TreeV) (name : List UInt8) (keys : List (List UInt8)) {q g : Nat} (h : chg q ≤ g) : wayAt t name keys (q + 1) g = wayAt t name keys q g := by
  rw [wayAt, wayAt, chg_same q g h]
theorem wayB_wayAt (t : TreeV) (name : List UInt8) (keys : List (List UInt8)) (q k : Nat) : wayB t name keys q k = (List.range k).map (wayAt t name keys q) := rfl
/-! ### How many leaves change so many sums -/
def cnt (m c : Nat) : Nat := ((List.range m).filter fun q => decide (chg q = c)).length
theorem cnt_zero (c : Nat) : cnt 0 c = 0 := rfl
theorem cnt_succ (m c : Nat) : cnt (m + 1) c = cnt m c + if chg m = c then 1 else 0 := by
  rw [cnt, List.range_succ, List.filter_append, List.length_append]
  by_cases h : chg m = c
  · rw [if_pos h]; simp [cnt, h]
  · rw [if_neg h]; simp [cnt, h]
theorem cnt_two (m c : Nat) : cnt (2 * m) (c + 1) = if c = 0 then m else cnt m c := by
  induction m with
  | zero => rw [Nat.mul_zero, cnt_zero]; split <;> rfl
  | succ m ih =>
    rw [Nat.mul_succ, show 2 * m + 2 = 2 * m + 1 + 1 from rfl, cnt_succ, cnt_succ, ih, chg_even (q := 2 * m) (by omega), chg_odd (q := 2 * m + 1) (by omega), show (2 * m + 1) / 2 = m by omega, cnt_succ]
    have hp := chg_pos m
    by_cases hc : c = 0
    · subst hc
      rw [if_pos rfl, if_pos rfl, if_pos rfl, if_neg (by omega)]
    · rw [if_neg hc, if_neg hc, if_neg (by omega)]
      by_cases h : chg m = c
      · rw [if_pos h, if_pos (by omega)]
      · rw [if_neg h, if_neg (by omega)]
theorem cnt_none (m : Nat) : cnt m 0 = 0 := by
  induction m with
  | zero => rfl
  | succ m ih => rw [cnt_succ, ih, if_neg (by have := chg_pos m; omega)]
theorem cnt_pw2 : ∀ k, (∀ c, 1 ≤ c → c ≤ k → cnt (pw2 k) c = pw2 (k - c)) ∧ cnt (pw2 k) (k + 1) = 1
  | 0 => ⟨fun c h1 h2 => by omega, by
      rw [show pw2 0 = 0 + 1 from rfl, cnt_succ, cnt_zero, chg_even (by decide)]; rfl⟩
  | k + 1 => by
    obtain ⟨h1, h2⟩ := cnt_pw2 k
    have e : pw2 (k + 1) = 2 * pw2 k := by rw [pw2, pw2, Nat.pow_succ, Nat.mul_comm]
    refine ⟨fun c hc hk => ?_, ?_⟩
    · obtain ⟨d, rfl⟩ : ∃ d, c = d + 1 := ⟨c - 1, by omega⟩
      rw [e, cnt_two]
      by_cases hd : d = 0
      · subst hd; rw [if_pos rfl]; rfl
      · rw [if_neg hd, h1 d (by omega) (by omega), show k + 1 - (d + 1) = k - d by omega]
    · rw [e, cnt_two, if_neg (by omega), h2]
theorem chg_lt : ∀ (k q : Nat), q < pw2 k → chg q ≤ k + 1
  | 0, q, h => by
    have : q = 0 := by have : pw2 0 = 1 := rfl; omega
    subst this
    rw [chg_even (by decide)]; exact Nat.le_refl _
  | k + 1, q, h => by
    have e : pw2 (k + 1) = 2 * pw2 k := by rw [pw2, pw2, Nat.pow_succ, Nat.mul_comm]
    by_cases hq : q % 2 = 1
    · rw [chg_odd hq]
      have := chg_lt k (q / 2) (by omega)
      omega
    · rw [chg_even hq]; omega
end Go.Proofs.YtbjnjedfoiedeaaDoor
set_option linter.unusedVariables false
set_option linter.unusedSimpArgs false
namespace Go.Proofs.YtbjnjedfoiedeaaDoor
open Go Go.Eng
/-! ### The lowest bit that isn't set -/
theorem and_halves (a b : Nat) : a &&& b = 2 * (a / 2 &&& b / 2) + (if a % 2 = 1 ∧ b % 2 = 1 then 1 else 0) := by
  have h1 : (a &&& b) / 2 = a / 2 &&& b / 2 := Nat.and_div_two
  have h2 : (a &&& b) % 2 = 1 ↔ a % 2 = 1 ∧ b % 2 = 1 := Nat.and_mod_two_eq_one
  rw [← h1]
  by_cases h : a % 2 = 1 ∧ b % 2 = 1
  · rw [if_pos h]; have := h2.2 h; omega
  · rw [if_neg h]; have : ¬ (a &&& b) % 2 = 1 := fun x => h (h2.1 x); omega
theorem compl_and : ∀ (n m : Nat), m < pw2 n → (pw2 n - 1 - m) &&& m = 0
  | 0, m, h => by
    have : m = 0 := by have : pw2 0 = 1 := rfl; omega
    subst this; simp
  | n + 1, m, h => by
    have e : pw2 (n + 1) = 2 * pw2 n := by rw [pw2, pw2, Nat.pow_succ, Nat.mul_comm]
    rw [and_halves, show (pw2 (n + 1) - 1 - m) / 2 = pw2 n - 1 - m / 2 by omega, compl_and n (m / 2) (by omega), if_neg (by omega)]
theorem low_bit : ∀ (n q : Nat), q + 1 < pw2 n → (pw2 n - 1 - q) &&& (q + 1) = pw2 (chg q - 1)
  | 0, q, h => by have : pw2 0 = 1 := rfl; omega
  | n + 1, q, h => by
    have e : pw2 (n + 1) = 2 * pw2 n := by rw [pw2, pw2, Nat.pow_succ, Nat.mul_comm]
    rw [and_halves]
    by_cases hq : q % 2 = 1
    · rw [show (pw2 (n + 1) - 1 - q) / 2 = pw2 n - 1 - q / 2 by omega, show (q + 1) / 2 = q / 2 + 1 by omega, low_bit n (q / 2) (by omega), if_neg (by omega), chg_odd hq]
      have hp := chg_pos (q / 2)
      obtain ⟨k, hk⟩ : ∃ k, chg (q / 2) = k + 1 := ⟨chg (q / 2) - 1, by omega⟩
      rw [hk, Nat.add_sub_cancel, Nat.add_sub_cancel, pw2, pw2, Nat.pow_succ]; omega
    · rw [show (pw2 (n + 1) - 1 - q) / 2 = pw2 n - 1 - q / 2 by omega, show (q + 1) / 2 = q / 2 by omega, compl_and n (q / 2) (by omega), if_pos (by omega), chg_even hq]
      rfl
def deB : List Nat := [0, 1, 56, 2, 57, 49, 28, 3, 61, 58, 42, 50, 38, 29, 17, 4, 62, 47, 59, 36, 45, 43, 51, 22, 53, 39, 33, 30, 24, 18, 12, 5, 63, 55, 48, 27, 60, 41, 37, 16, 46, 35, 44, 21, 52, 32, 23, 11, 54, 26, 40, 15, 34, 20, 31, 10, 25, 14, 19, 9, 13, 8, 7, 6]
theorem deB_at : ∀ t : Fin 33, deB.getD (2 ^ t.val * 285870213051353865 % 18446744073709551616 / 288230376151711744) 0 = t.val := by decide +kernel
end Go.Proofs.YtbjnjedfoiedeaaDoor
set_option linter.unusedVariables false
set_option linter.unusedSimpArgs false
namespace Go.Proofs.YtbjnjedfoiedeaaDoor
open Go Go.Eng
section
variable {G : World} {M : Mem} {L : Own}
theorem RChanges_spec (q : UInt32) :
    Con Tryd.prog 24 #[.int .u32 (q.toNat : Int)] G M L (fun v M' L' => M = M' ∧ L = L' ∧ v = .int .i64 (chg q.toNat : Nat)) noPanic := by
  have hq := q.toNat_lt
  have h33 := chg_lt 32 q.toNat (by show q.toNat < 2 ^ 32; omega)
  refine enter (args := [_]) (fn := Tryd.f24) ⟨Tryd.func24, rfl, by kernel_rfl, by kernel_rfl⟩ 15 rfl ?_
  refine x_seq (x_region ?_)
  refine tl_y rfl (y_assign rfl) ?_
  refine tl_nil (.then_normal ?_)
  refine x_seq (x_region ?_)
  refine tl_y rfl (y_assign rfl) ?_
  refine tl_nil (.then_normal ?_)
  refine x_seq (x_seq (x_region ?_))
  refine tl_y rfl (y_move (v := .int _ _) rfl) ?_
  refine tl_y rfl (y_convN64 rfl (by omega)) ?_
  refine tl_y rfl (y_assign (v := .int _ _) rfl) ?_
  refine tl_nil (.then_normal ?_)
  refine .sub (F' := [(3, _), (4, _)]) (.cons rfl (.cons rfl .nil)) ?_
  refine x_block ?_
  refine x_loop (I := fun m' F D M1 L1 => ∃ n x : Nat, x = m' ∧ 1 ≤ n ∧ x ≤ q.toNat ∧ n + chg x = chg q.toNat + 1 ∧ D = [] ∧ M = M1 ∧ L = L1 ∧ F = [(3, .int .i64 (n : Nat)), (4, .int .u64 (x : Nat))]) (q.toNat) (F0 := [(3, _), (4, _)]) ?_ (.cons rfl (.cons rfl .nil)) ?_  -- slots [3, 4], written [3, 4]
  · exact ⟨1, q.toNat, rfl, by omega, by omega, by omega, rfl, rfl, rfl, rfl⟩
  rintro m _ _ _ _ ⟨n, x, rfl, hn, hx, he, rfl, rfl, rfl, rfl⟩
  refine x_seq (x_seq (x_region ?_))
  refine tl_y rfl (y_move (v := .int _ _) rfl) ?_
  refine tl_y rfl (y_remI rfl rfl (by omega)) ?_
  refine tl_y rfl (y_eql rfl rfl) ?_
  refine tl_nil (.then_normal ?_)
  refine x_cond rfl (fun hc1 => ?_) (fun hc1 => ?_)
  ·
    have hodd : x % 2 = 1 := by omega
    have hco := chg_odd hodd
    have hcp := chg_pos (x / 2)
    refine x_skip (.then_normal ?_)
    refine x_seq ?_
    refine x_block ?_
    refine x_region ?_
    refine tl_y rfl (y_move (v := .int _ _) rfl) ?_
    refine tl_y rfl (y_addI rfl rfl (by omega)) ?_
    refine tl_y rfl (y_assign (v := .int _ _) rfl) ?_
    refine tl_nil (.block_normal (.then_normal ?_))
    refine .sub (F' := [(3, _), (4, _)]) (.cons rfl (.cons rfl .nil)) ?_
    refine x_region ?_
    refine tl_y rfl (y_move (v := .int _ _) rfl) ?_
    refine tl_y rfl (y_quoN64 rfl rfl (by omega)) ?_
    rw [show ((x : Nat) : Int) / 2 = ((x / 2 : Nat) : Int) by omega]
    refine tl_y rfl (y_assign (v := .int _ _) rfl) ?_
    refine tl_nil (.loop_next (m' := x / 2) (by omega) (F' := [(3, _), (4, _)]) (.cons rfl (.cons rfl .nil)) ?_)
    exact ⟨n + 1, x / 2, rfl, by omega, by omega, by omega, rfl, rfl, rfl, rfl⟩
  ·
    have hev : ¬ x % 2 = 1 := by omega
    have hce := chg_even hev
    refine x_exit (.then_exit (.loop_exit (.block_exit (.then_normal ?_))))
    refine .sub (F' := [(3, _)]) (.cons rfl .nil) ?_
    refine x_seq (x_region ?_)
    refine tl_y rfl (y_move (v := .int _ _) rfl) ?_
    refine tl_y rfl (y_assign (v := .int _ _) rfl) ?_
    refine tl_nil (.then_normal ?_)
    refine x_ret (ret1 rfl rfl (Le.refl _) ⟨rfl, rfl, by rw [show n = chg q.toNat by omega]⟩)
end
end Go.Proofs.YtbjnjedfoiedeaaDoor
