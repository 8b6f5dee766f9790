/-
Contracts of functions, each proved by a walk through its code.
-/
import Derived.Test.YtiimjodbaogjbaaGreatDoorHss4Etc
import Derived.Test.YtiimjodbaogjbaaGreatDoorRef8bEtc
import Derived.Test.YtiimjodbaogjbaaGreatDoorRef8Etc
import Derived.Test.YtiimjodbaogjbaaGreatDoorEngWEtc
set_option linter.unusedVariables false
set_option linter.unusedSimpArgs false
set_option linter.constructorNameAsVariable false
namespace Go.Proofs.YtiimjodbaogjbaaGreatDoor
open Go Go.Eng
section
variable {G : World} {M : Mem} {L : Own}
theorem Words_spec {A B : Option Addr} {n c m d : Nat} {xs ys : List Nat} (ha : Row M 1 A n c (u32r xs)) (hb : Row M 1 B m d (u32r ys)) (he : xs = ys) :
    Con Tryz.prog 27 #[.slice A n c, .slice B m d] G M L (fun v M' L' => M = M' ∧ L = L' ∧ v = .bool true) noPanic := by
  subst he
  have hmx := ha.max
  have hle := ha.le
  have hnl : xs.length = n := by have := ha.len; simp [u32r] at this; omega
  have hnl2 : xs.length = m := by have := hb.len; simp [u32r] at this; omega
  obtain rfl : n = m := by omega
  refine enter (args := [_, _]) (fn := Tryz.f27) ⟨Tryz.func27, rfl, by kernel_rfl, by kernel_rfl⟩ 26 rfl ?_
  refine x_seq (x_region ?_)
  refine tl_y rfl (y_assign rfl) ?_
  refine tl_nil (.then_normal ?_)
  refine x_seq (x_seq (x_region ?_))
  refine tl_y rfl (y_move (v := .slice _ _ _) rfl) ?_
  refine tl_y rfl (y_len rfl) ?_
  refine tl_y rfl (y_move (v := .slice _ _ _) rfl) ?_
  refine tl_y rfl (y_len rfl) ?_
  refine tl_y rfl (y_neq rfl rfl) ?_
  refine tl_nil (.then_normal ?_)
  refine .sub (F' := [(0, _), (1, _), (4, _), (10, _)]) (.cons rfl (.cons rfl (.cons rfl (.cons rfl .nil)))) ?_
  refine x_false rfl (by simp) ?_
  refine x_skip (.then_normal ?_)
  refine x_seq (x_seq (x_region ?_))
  refine tl_y rfl (y_assign rfl) ?_
  refine tl_nil (.then_normal ?_)
  refine x_block ?_
  refine x_loop (I := fun m' F D M1 L1 => ∃ k : Nat, m' = n - k ∧ k ≤ n ∧ D = [] ∧ M = M1 ∧ L = L1 ∧ F = [(0, .slice A n c), (1, .slice B n d), (4, .bool false), (5, .int .i64 k)]) (n) (F0 := [(0, _), (1, _), (4, _), (5, _)]) ?_ (.cons rfl (.cons rfl (.cons rfl (.cons rfl .nil)))) ?_  -- slots [0, 1, 4, 5], written [4, 5]
  · exact ⟨0, rfl, by omega, rfl, rfl, rfl, rfl⟩
  rintro m _ _ _ _ ⟨k, rfl, hk, rfl, rfl, rfl, rfl⟩
  refine x_seq (x_seq (x_region ?_))
  refine tl_y rfl (y_move (v := .int _ _) rfl) ?_
  refine tl_y rfl (y_move (v := .slice _ _ _) rfl) ?_
  refine tl_y rfl (y_len rfl) ?_
  refine tl_y rfl (y_lss rfl rfl) ?_
  refine tl_nil (.then_normal ?_)
  refine x_cond rfl (fun hc2 => ?_) (fun hc2 => ?_)
  ·
    have hkn : k < n := by omega
    obtain ⟨a, hxa⟩ : ∃ a, xs[k]? = some a := ⟨_, List.getElem?_eq_getElem (by omega)⟩
    obtain ⟨g, o, rfl, hcell⟩ := ha.addr (by omega)
    obtain ⟨g2, o2, rfl, hcell2⟩ := hb.addr (by omega)
    refine x_skip (.then_normal ?_)
    refine .sub (F' := [(0, _), (1, _), (4, _), (5, _)]) (.cons rfl (.cons rfl (.cons rfl (.cons rfl .nil)))) ?_
    refine x_seq ?_
    refine x_block ?_
    refine x_seq ?_
    refine x_draw 9 hmix rfl ?_
    refine to_p 0 rfl (by kernel_rfl) rfl (y_move (v := .slice _ _ _) rfl) ?_
    refine to_p 1 rfl (by kernel_rfl) rfl (y_move (v := .int _ _) rfl) ?_
    refine to_p 2 rfl (by kernel_rfl) rfl (y_indexAddr rfl rfl (by omega)) ?_
    refine to_y 3 rfl (by kernel_rfl) rfl (y_load rfl rfl (.at_ (hcell _ k _ (u32r_get hxa)) (by omega))) ?_
    refine to_p 4 rfl (by kernel_rfl) rfl (y_move (v := .slice _ _ _) rfl) ?_
    refine to_p 5 rfl (by kernel_rfl) rfl (y_move (v := .int _ _) rfl) ?_
    refine to_p 6 rfl (by kernel_rfl) rfl (y_indexAddr rfl rfl (by omega)) ?_
    refine to_y 7 rfl (by kernel_rfl) rfl (y_load rfl rfl (.at_ (hcell2 _ k _ (u32r_get hxa)) (by omega))) ?_
    refine to_p 8 rfl (by kernel_rfl) rfl (y_neq rfl rfl) ?_
    refine to_nil (by kernel_rfl) (.then_normal ?_)
    refine .sub (F' := [(0, _), (1, _), (4, _), (5, _), (25, _)]) (.cons rfl (.cons rfl (.cons rfl (.cons rfl (.cons rfl .nil))))) ?_
    refine x_false rfl (by simp) ?_
    refine x_skip (.block_normal (.then_normal ?_))
    refine x_region ?_
    refine tl_y rfl (y_move (v := .int _ _) rfl) ?_
    refine tl_y rfl (y_addI rfl rfl (by omega)) ?_
    refine tl_y rfl (y_assign (v := .int _ _) rfl) ?_
    refine tl_nil (.loop_next (m' := n - (k + 1)) (by omega) (F' := [(0, _), (1, _), (4, _), (5, _)]) (.cons rfl (.cons rfl (.cons rfl (.cons rfl .nil)))) ?_)
    exact ⟨k + 1, rfl, by omega, rfl, rfl, rfl, rfl⟩
  ·
    refine x_exit (.then_exit (.loop_exit (.block_exit (.then_normal ?_))))
    refine .sub (F' := []) .nil ?_
    refine x_seq (x_region ?_)
    refine tl_y rfl (y_assign rfl) ?_
    refine tl_nil (.then_normal ?_)
    refine x_ret (ret1 rfl rfl (Le.refl _) ⟨rfl, rfl, rfl⟩)
theorem RMay13_spec {A : Option Addr} {n c : Nat} {l : List PairV} (h : Row M 2 A n c (prow l)) :
    Con Tryz.prog 29 #[.slice A n c] G M L (fun v M' L' => M = M' ∧ L = L' ∧ v = .bool (decide (okL l))) noPanic := by
  have hmx := h.max
  have hle := h.le
  have hln : l.length = n := by have := h.len; rw [prow, flat_len pcl] at this; omega
  refine enter (args := [_]) (fn := Tryz.f29) ⟨Tryz.func29, rfl, by kernel_rfl, by kernel_rfl⟩ 68 rfl ?_
  refine x_seq (x_region ?_)
  refine tl_y rfl (y_assign rfl) ?_
  refine tl_nil (.then_normal ?_)
  refine x_seq (x_region ?_)
  refine tl_y rfl (y_assign rfl) ?_
  refine tl_nil (.then_normal ?_)
  refine x_seq (x_seq (x_region ?_))
  refine tl_y rfl (y_move (v := .slice _ _ _) rfl) ?_
  refine tl_y rfl (y_len rfl) ?_
  refine tl_y rfl (y_lss rfl rfl) ?_
  refine tl_y rfl (y_move (v := .bool _) rfl) ?_
  refine tl_cases (s := 14) rfl (fun hk1 => ?_) (fun hk1 => ?_)
  ·
    refine tl_skip rfl ?_
    refine tl_skip rfl ?_
    refine tl_skip rfl ?_
    refine tl_y rfl (y_pickT rfl rfl) ?_
    refine tl_nil (.then_normal ?_)
    refine .sub (F' := [(0, _), (2, _), (3, _), (18, _)]) (.cons rfl (.cons rfl (.cons rfl (.cons rfl .nil)))) ?_
    refine x_true rfl rfl ?_
    refine x_seq (x_region ?_)
    refine tl_y rfl (y_assign rfl) ?_
    refine tl_nil (.then_normal ?_)
    refine x_ret (.then_ret (ret1 rfl rfl (Le.refl _) ⟨rfl, rfl, by rw [decide_eq_false (fun h => by have := h.1; omega)]⟩))
  ·
    refine tl_y rfl (y_move (v := .slice _ _ _) rfl) ?_
    refine tl_y rfl (y_len rfl) ?_
    refine tl_y rfl (y_gtr rfl rfl) ?_
    refine tl_y rfl (y_pickF rfl rfl) ?_
    refine tl_nil (.then_normal ?_)
    refine .sub (F' := [(0, _), (2, _), (3, _), (18, _)]) (.cons rfl (.cons rfl (.cons rfl (.cons rfl .nil)))) ?_
    refine x_cond rfl (fun hc1 => ?_) (fun hc1 => ?_)
    ·
      refine x_seq (x_region ?_)
      refine tl_y rfl (y_assign rfl) ?_
      refine tl_nil (.then_normal ?_)
      refine x_ret (.then_ret (ret1 rfl rfl (Le.refl _) ⟨rfl, rfl, by rw [decide_eq_false (fun h => by have := h.1; omega)]⟩))
    ·
      refine x_skip (.then_normal ?_)
      refine x_seq (x_seq (x_region ?_))
      refine tl_y rfl (y_assign rfl) ?_
      refine tl_nil (.then_normal ?_)
      refine x_block ?_
      refine x_loop (I := fun m' F D M1 L1 => ∃ k : Nat, m' = n - k ∧ k ≤ n ∧ (∀ p ∈ l.take k, good l p) ∧ D = [] ∧ M = M1 ∧ L = L1 ∧ F = [(0, .slice A n c), (2, .bool false), (3, .int .i64 (hsum ((l.take k).map tv) : Nat)), (4, .int .i64 k)]) (n) (F0 := [(0, _), (2, _), (3, _), (4, _)]) ?_ (.cons rfl (.cons rfl (.cons rfl (.cons rfl .nil)))) ?_  -- slots [0, 2, 3, 4], written [2, 3, 4]
      · exact ⟨0, rfl, by omega, fun p hp => by simp at hp, rfl, rfl, rfl, rfl⟩
      rintro m _ _ _ _ ⟨k, rfl, hk, hgd, rfl, rfl, rfl, rfl⟩
      have hs8 := hsum_le (fun p hp => (hgd p hp).1)
      have htl : (l.take k).length = k := by rw [List.length_take]; omega
      rw [htl] at hs8
      refine x_seq (x_seq (x_region ?_))
      refine tl_y rfl (y_move (v := .int _ _) rfl) ?_
      refine tl_y rfl (y_move (v := .slice _ _ _) rfl) ?_
      refine tl_y rfl (y_len rfl) ?_
      refine tl_y rfl (y_lss rfl rfl) ?_
      refine tl_nil (.then_normal ?_)
      refine x_cond rfl (fun hc2 => ?_) (fun hc2 => ?_)
      ·
        have hkn : k < n := by omega
        obtain ⟨p, hp⟩ : ∃ p, l[k]? = some p := ⟨_, List.getElem?_eq_getElem (by omega)⟩
        have hmem : p ∈ l := List.mem_of_getElem? hp
        have hq0 : l[0]? = some (l.getD 0 p0) := by rw [List.getD_eq_getElem?_getD, List.getElem?_eq_getElem (by omega)]; rfl
        generalize hqq : l.getD 0 p0 = q at hq0
        have hmemq : q ∈ l := List.mem_of_getElem? hq0
        have htk : l.take (k + 1) = l.take k ++ [p] := by
          rw [List.take_add_one, hp]; rfl
        obtain ⟨g, o, rfl, hcell⟩ := h.cellsN (by omega)
        have hc5 := fun L => hcell L (k * 2) 2 (by rw [prow, flat_len pcl]; omega)
        simp only [prow, flat_take pcl l k p hp] at hc5
        have hc6 := fun L => hcell L (0 * 2) 2 (by rw [prow, flat_len pcl]; omega)
        simp only [prow, flat_take pcl l 0 q hq0] at hc6
        refine x_skip (.then_normal ?_)
        refine .sub (F' := [(0, _), (2, _), (3, _), (4, _)]) (.cons rfl (.cons rfl (.cons rfl (.cons rfl .nil)))) ?_
        refine x_seq ?_
        refine x_block ?_
        refine x_seq (x_region ?_)
        refine tl_y rfl (y_move (v := .slice _ _ _) rfl) ?_
        refine tl_y rfl (y_move (v := .int _ _) rfl) ?_
        refine tl_y rfl (y_indexAddr rfl rfl (by omega)) ?_
        refine tl_y rfl (y_loadAgg rfl rfl (.at_ (hc5 _) (by omega))) ?_
        refine tl_e rfl (e_call' rfl (RSets12_spec p) ?_)
        rintro _ _ _ _ ⟨rfl, rfl, rfl⟩
        refine tl_y rfl (y_move (v := .tuple _) rfl) ?_
        refine tl_y rfl (y_extract rfl) ?_
        refine tl_y rfl (y_extract rfl) ?_
        refine tl_y rfl (y_extract rfl) ?_
        refine tl_e rfl (e_alloc (fun b1 => ?_))
        refine tl_e rfl (e_alloc (fun b2 => ?_))
        refine tl_e rfl (e_store rfl rfl (by rfl) (by rfl) inferInstance inferInstance inferInstance ?_)
        refine tl_e rfl (e_store rfl rfl (by rfl) (by rfl) inferInstance inferInstance inferInstance ?_)
        refine tl_y rfl (y_assign (v := .bool _) rfl) ?_
        refine tl_nil (.then_normal ?_)
        refine .sub (F' := [(0, _), (2, _), (3, _), (4, _), (6, _), (7, _)]) (.cons rfl (.cons rfl (.cons rfl (.cons rfl (.cons rfl (.cons rfl .nil)))))) ?_
        refine x_seq (x_region ?_)
        refine tl_y rfl (y_move (v := .slice _ _ _) rfl) ?_
        refine tl_y rfl (y_indexAddr rfl rfl (by omega)) ?_
        refine tl_y rfl (y_loadAgg rfl rfl (.at_ (hc6 _) (by omega))) ?_
        refine tl_e rfl (e_call' rfl (RSets12_spec q) ?_)
        rintro _ _ _ _ ⟨rfl, rfl, rfl⟩
        refine tl_y rfl (y_move (v := .tuple _) rfl) ?_
        refine tl_y rfl (y_extract rfl) ?_
        refine tl_y rfl (y_extract rfl) ?_
        refine tl_y rfl (y_extract rfl) ?_
        refine tl_e rfl (e_alloc (fun b3 => ?_))
        refine tl_e rfl (e_alloc (fun b4 => ?_))
        refine tl_e rfl (e_store rfl rfl (by rfl) (by rfl) inferInstance inferInstance inferInstance ?_)
        refine tl_e rfl (e_store rfl rfl (by rfl) (by rfl) inferInstance inferInstance inferInstance ?_)
        refine tl_y rfl (y_assign (v := .bool _) rfl) ?_
        refine tl_nil (.then_normal ?_)
        refine .sub (F' := [(0, _), (2, _), (3, _), (4, _), (6, _), (7, _), (9, _), (10, _)]) (.cons rfl (.cons rfl (.cons rfl (.cons rfl (.cons rfl (.cons rfl (.cons rfl (.cons rfl .nil)))))))) ?_
        refine x_seq (x_seq (x_region ?_))
        refine tl_y rfl (y_move (v := .bool _) rfl) ?_
        refine tl_y rfl (y_notd rfl) ?_
        refine tl_y rfl (y_move (v := .bool _) rfl) ?_
        refine tl_cases (s := 44) rfl (fun hk2 => ?_) (fun hk2 => ?_)
        ·
          refine tl_skip rfl ?_
          refine tl_skip rfl ?_
          refine tl_y rfl (y_pickT rfl rfl) ?_
          refine tl_y rfl (y_move (v := .bool _) rfl) ?_
          refine tl_skip rfl ?_
          refine tl_skip rfl ?_
          refine tl_skip rfl ?_
          refine tl_skip rfl ?_
          refine tl_skip rfl ?_
          refine tl_y rfl (y_pickT rfl rfl) ?_
          refine tl_y rfl (y_move (v := .bool _) rfl) ?_
          refine tl_skip rfl ?_
          refine tl_skip rfl ?_
          refine tl_skip rfl ?_
          refine tl_skip rfl ?_
          refine tl_skip rfl ?_
          refine tl_y rfl (y_pickT rfl rfl) ?_
          refine tl_nil (.then_normal ?_)
          refine .sub (F' := [(0, _), (2, _), (3, _), (4, _), (6, _), (61, _)]) (.cons rfl (.cons rfl (.cons rfl (.cons rfl (.cons rfl (.cons rfl .nil)))))) ?_
          refine x_true rfl rfl ?_
          refine x_seq (x_region ?_)
          refine tl_y rfl (y_assign rfl) ?_
          refine tl_nil (.then_normal ?_)
          refine x_ret (.then_ret (.block_ret (.then_ret (.loop_ret (.block_ret (.then_ret (.dropTo L inferInstance (ret1 rfl rfl (Le.refl _) ⟨rfl, rfl, by rw [decide_eq_false (fun h => hk2 (h.2.1 p hmem).1)]⟩))))))))
        ·
          refine tl_y rfl (y_move (v := .bool _) rfl) ?_
          refine tl_y rfl (y_notd rfl) ?_
          refine tl_y rfl (y_pickF rfl rfl) ?_
          refine tl_y rfl (y_move (v := .bool _) rfl) ?_
          refine tl_cases (s := 48) rfl (fun hk3 => ?_) (fun hk3 => ?_)
          ·
            refine tl_skip rfl ?_
            refine tl_skip rfl ?_
            refine tl_skip rfl ?_
            refine tl_skip rfl ?_
            refine tl_skip rfl ?_
            refine tl_y rfl (y_pickT rfl rfl) ?_
            refine tl_y rfl (y_move (v := .bool _) rfl) ?_
            refine tl_skip rfl ?_
            refine tl_skip rfl ?_
            refine tl_skip rfl ?_
            refine tl_skip rfl ?_
            refine tl_skip rfl ?_
            refine tl_y rfl (y_pickT rfl rfl) ?_
            refine tl_nil (.then_normal ?_)
            refine .sub (F' := [(0, _), (2, _), (3, _), (4, _), (6, _), (61, _)]) (.cons rfl (.cons rfl (.cons rfl (.cons rfl (.cons rfl (.cons rfl .nil)))))) ?_
            refine x_true rfl rfl ?_
            refine x_seq (x_region ?_)
            refine tl_y rfl (y_assign rfl) ?_
            refine tl_nil (.then_normal ?_)
            refine x_ret (.then_ret (.block_ret (.then_ret (.loop_ret (.block_ret (.then_ret (.dropTo L inferInstance (ret1 rfl rfl (Le.refl _) ⟨rfl, rfl, by rw [decide_eq_false (fun h => hk3 (h.2.1 q hmemq).1)]⟩))))))))
          ·
            refine tl_y rfl (y_fieldAddr rfl) ?_
            refine tl_y rfl (y_load rfl rfl (.own inferInstance inferInstance)) ?_
            refine tl_y rfl (y_fieldAddr rfl) ?_
            refine tl_y rfl (y_load rfl rfl (.own inferInstance inferInstance)) ?_
            refine tl_y rfl (y_neq rfl rfl) ?_
            refine tl_y rfl (y_pickF rfl rfl) ?_
            refine tl_y rfl (y_move (v := .bool _) rfl) ?_
            refine tl_cases (s := 55) rfl (fun hk4 => ?_) (fun hk4 => ?_)
            ·
              refine tl_skip rfl ?_
              refine tl_skip rfl ?_
              refine tl_skip rfl ?_
              refine tl_skip rfl ?_
              refine tl_skip rfl ?_
              refine tl_y rfl (y_pickT rfl rfl) ?_
              refine tl_nil (.then_normal ?_)
              refine .sub (F' := [(0, _), (2, _), (3, _), (4, _), (6, _), (61, _)]) (.cons rfl (.cons rfl (.cons rfl (.cons rfl (.cons rfl (.cons rfl .nil)))))) ?_
              refine x_true rfl rfl ?_
              refine x_seq (x_region ?_)
              refine tl_y rfl (y_assign rfl) ?_
              refine tl_nil (.then_normal ?_)
              refine x_ret (.then_ret (.block_ret (.then_ret (.loop_ret (.block_ret (.then_ret (.dropTo L inferInstance (ret1 rfl rfl (Le.refl _) ⟨rfl, rfl, by rw [decide_eq_false (fun h => hk4 (by have := (h.2.1 p hmem).2.1; rw [hqq] at this; exact this))]⟩))))))))
            ·
              refine tl_y rfl (y_fieldAddr rfl) ?_
              refine tl_y rfl (y_load rfl rfl (.own inferInstance inferInstance)) ?_
              refine tl_y rfl (y_fieldAddr rfl) ?_
              refine tl_y rfl (y_load rfl rfl (.own inferInstance inferInstance)) ?_
              refine tl_y rfl (y_neq rfl rfl) ?_
              refine tl_y rfl (y_pickF rfl rfl) ?_
              refine tl_nil (.then_normal ?_)
              refine .sub (F' := [(0, _), (2, _), (3, _), (4, _), (6, _), (61, _)]) (.cons rfl (.cons rfl (.cons rfl (.cons rfl (.cons rfl (.cons rfl .nil)))))) ?_
              refine x_cond rfl (fun hc3 => ?_) (fun hc3 => ?_)
              ·
                refine x_seq (x_region ?_)
                refine tl_y rfl (y_assign rfl) ?_
                refine tl_nil (.then_normal ?_)
                refine x_ret (.then_ret (.block_ret (.then_ret (.loop_ret (.block_ret (.then_ret (.dropTo L inferInstance (ret1 rfl rfl (Le.refl _) ⟨rfl, rfl, by rw [decide_eq_false (fun h => hc3 (by have := (h.2.1 p hmem).2.2; rw [hqq] at this; exact this))]⟩))))))))
              ·
                have hokp : okP p := Classical.not_not.1 hk2
                obtain ⟨hH, hH1, hH25⟩ := okP_h hokp
                have hsn : hsum ((l.take (k + 1)).map tv) = hsum ((l.take k).map tv) + hN (tv p) := by rw [htk, List.map_append]; exact hsum_snoc _ _
                refine x_skip (.then_normal ?_)
                refine x_region ?_
                refine tl_y rfl (y_move (v := .int _ _) rfl) ?_
                refine tl_y rfl (y_fieldAddr rfl) ?_
                refine tl_y rfl (y_load (v := .int .i64 ((hN (tv p) : Nat) : Int)) rfl rfl (by rw [← hH]; exact .own inferInstance inferInstance)) ?_
                refine tl_y rfl (y_addI rfl rfl (by omega)) ?_
                rw [show ((hsum ((l.take k).map tv) : Nat) : Int) + ((hN (tv p) : Nat) : Int) = ((hsum ((l.take (k + 1)).map tv) : Nat) : Int) by rw [hsn]; omega]
                refine tl_y rfl (y_assign (v := .int _ _) rfl) ?_
                refine tl_nil (.block_normal (.then_normal ?_))
                refine .sub (F' := [(0, _), (2, _), (3, _), (4, _)]) (.cons rfl (.cons rfl (.cons rfl (.cons rfl .nil)))) ?_
                refine x_region ?_
                refine tl_y rfl (y_move (v := .int _ _) rfl) ?_
                refine tl_y rfl (y_addI rfl rfl (by omega)) ?_
                refine tl_y rfl (y_assign (v := .int _ _) rfl) ?_
                refine .dropTo L inferInstance ?_
                refine tl_nil (.loop_next (m' := n - (k + 1)) (by omega) (F' := [(0, _), (2, _), (3, _), (4, _)]) (.cons rfl (.cons rfl (.cons rfl (.cons rfl .nil)))) ?_)
                exact ⟨k + 1, rfl, by omega, fun x hx => by
                  rw [htk] at hx
                  rcases List.mem_append.1 hx with hx | hx
                  · exact hgd x hx
                  · obtain rfl := List.mem_singleton.1 hx
                    exact ⟨hokp, by rw [hqq]; exact Classical.not_not.1 hk4, by rw [hqq]; exact Classical.not_not.1 hc3⟩, rfl, rfl, rfl, rfl⟩
      ·
        obtain rfl : k = n := by omega
        rw [List.take_of_length_le (by omega)] at hgd ⊢
        refine x_exit (.then_exit (.loop_exit (.block_exit (.then_normal ?_))))
        refine .sub (F' := [(3, _)]) (.cons rfl .nil) ?_
        refine x_seq (x_region ?_)
        refine tl_y rfl (y_move (v := .int _ _) rfl) ?_
        refine tl_y rfl (y_leq rfl rfl) ?_
        refine tl_y rfl (y_assign (v := .bool _) rfl) ?_
        refine tl_nil (.then_normal ?_)
        refine x_ret (ret1 rfl rfl (Le.refl _) ⟨rfl, rfl, by
          congr 1
          rw [decide_eq_decide]
          exact ⟨fun h => ⟨⟨by omega, by omega⟩, hgd, by omega⟩, fun h => by have := h.2.2; omega⟩⟩)
end
end Go.Proofs.YtiimjodbaogjbaaGreatDoor
set_option linter.unusedVariables false
set_option linter.unusedSimpArgs false
set_option linter.constructorNameAsVariable false
namespace Go.Proofs.YtiimjodbaogjbaaGreatDoor
open Go Go.Eng
def l13 : List PairV := [⟨7, 4026531845⟩, ⟨7, 4026531846⟩]
theorem f13 : okL l13 ∧ totN l13 = 8 ∧ plE l13 5 = 0 ∧ plV l13 5 = [1, 1] ∧ plE l13 8 = 9 ∧ ¬ okL [] := by
  decide +kernel
theorem okL_one {p : PairV} (h : okP p) : okL [p] := by
  have := (okP_h h).2.2
  refine ⟨⟨by simp, by simp⟩, fun q hq => ?_, by simp [hsum]; omega⟩
  obtain rfl := List.mem_singleton.1 hq
  exact ⟨h, rfl, rfl⟩
theorem totN_one {p : PairV} (h : okP p) : totN [p] = pw2 (hN (tv p)) := by
  rw [totN, if_pos (okL_one h)]; simp [hsum]
theorem atN_step {ts : List TreeV} {i : Nat} {t : TreeV} (h : ts[i]? = some t) (x : Nat) : x / pw2 (hsum (ts.drop i)) * pw2 (hN t) + atN ts x i = x / pw2 (hsum (ts.drop (i + 1))) := by
  have hg : ts.getD i tree0 = t := by rw [List.getD_eq_getElem?_getD, h]; rfl
  rw [atN, hg, hsum_drop h, ← div_hsum]
  generalize x / pw2 (hsum (ts.drop (i + 1))) = y
  rw [Nat.mul_comm]
  exact Nat.div_add_mod y _
theorem atN_lt {ts : List TreeV} {i : Nat} {t : TreeV} (h : ts[i]? = some t) (x : Nat) : atN ts x i < pw2 (hN t) := by
  have hg : ts.getD i tree0 = t := by rw [List.getD_eq_getElem?_getD, h]; rfl
  rw [atN, hg]
  exact Nat.mod_lt _ (pw2_pos _)
section
variable {G : World} {M : Mem} {L : Own}
theorem awake13_spec (hg : HsG M) : Con Tryz.prog 24 #[] G M L (fun v M' L' => L' = L ∧ v = .bool true) noPanic := by
  obtain ⟨hok, htot, e5, v5, e8, hnil⟩ := f13
  refine enter (args := []) (fn := Tryz.f24) ⟨Tryz.func24, rfl, by kernel_rfl, by kernel_rfl⟩ 54 rfl ?_
  refine x_seq (x_region ?_)
  refine tl_y rfl (y_assign rfl) ?_
  refine tl_nil (.then_normal ?_)
  refine x_seq (x_region ?_)
  refine tl_y rfl (y_build rfl) ?_
  refine tl_y rfl (y_build rfl) ?_
  refine tl_e rfl (e_buildSlice rfl (by decide) (fun b1 => ?_))
  refine .pub b1 inferInstance (fun M1 hM1 hb1 => ?_)
  have hrow : Row M1 2 (some ⟨b1, 0, none⟩) 2 2 (prow l13) := Row.whole (vs := prow l13) hb1 rfl (by omega)
  have hm := hM1
  refine tl_y rfl (y_assign (v := .slice _ _ _) rfl) ?_
  refine tl_nil (.then_normal ?_)
  refine .sub (F' := [(1, _)]) (.cons rfl .nil) ?_
  refine x_seq (x_region ?_)
  refine tl_y rfl (y_move (v := .slice _ _ _) rfl) ?_
  refine tl_e rfl (e_call' rfl (Places_spec (hg.mono hm) hrow 5) ?_)
  rintro _ M2 _ hM2 ⟨rfl, A2, n2, c2, rfl, hr2⟩
  rw [show (5 : UInt64).toNat = 5 from rfl, v5] at hr2
  rw [show (5 : UInt64).toNat = 5 from rfl, e5]
  replace hm := hm.trans hM2
  refine tl_y rfl (y_move (v := .tuple _) rfl) ?_
  refine tl_y rfl (y_extract rfl) ?_
  refine tl_y rfl (y_extract rfl) ?_
  refine tl_y rfl (y_assign (v := .slice _ _ _) rfl) ?_
  refine tl_y rfl (y_assign (v := .int _ _) rfl) ?_
  refine tl_nil (.then_normal ?_)
  refine .sub (F' := [(1, _), (2, _), (3, _)]) (.cons rfl (.cons rfl (.cons rfl .nil))) ?_
  refine x_seq (x_region ?_)
  refine tl_y rfl (y_move (v := .slice _ _ _) rfl) ?_
  refine tl_e rfl (e_call' rfl (Places_spec (hg.mono hm) (hrow.mono hM2) 8) ?_)
  rintro _ M3 _ hM3 ⟨rfl, A3, n3, c3, rfl, hr3⟩
  rw [show (8 : UInt64).toNat = 8 from rfl, e8]
  replace hm := hm.trans hM3
  refine tl_y rfl (y_move (v := .tuple _) rfl) ?_
  refine tl_y rfl (y_extract rfl) ?_
  refine tl_y rfl (y_extract rfl) ?_
  refine tl_y rfl (y_assign (v := .slice _ _ _) rfl) ?_
  refine tl_y rfl (y_assign (v := .int _ _) rfl) ?_
  refine tl_nil (.then_normal ?_)
  refine .sub (F' := [(1, _), (2, _), (3, _), (5, _)]) (.cons rfl (.cons rfl (.cons rfl (.cons rfl .nil)))) ?_
  refine x_seq (x_region ?_)
  refine tl_e rfl (e_buildSlice rfl (by decide) (fun b2 => ?_))
  refine .pub b2 inferInstance (fun M4 hM4 hb2 => ?_)
  replace hm := hm.trans hM4
  refine tl_e rfl (e_call' rfl (Read_short (by omega)) ?_)
  rintro _ M5 _ hM5 ⟨rfl, rfl⟩
  replace hm := hm.trans hM5
  have hd5 := hM2.trans (hM3.trans (hM4.trans hM5))
  refine tl_y rfl (y_move (v := .tuple _) rfl) ?_
  refine tl_y rfl (y_extract rfl) ?_
  refine tl_y rfl (y_extract rfl) ?_
  refine tl_y rfl (y_assign (v := .slice _ _ _) rfl) ?_
  refine tl_y rfl (y_assign (v := .int _ _) rfl) ?_
  refine tl_nil (.then_normal ?_)
  refine .sub (F' := [(1, _), (2, _), (3, _), (5, _), (7, _)]) (.cons rfl (.cons rfl (.cons rfl (.cons rfl (.cons rfl .nil))))) ?_
  refine x_seq (x_region ?_)
  refine tl_y rfl (y_move (v := .slice _ _ _) rfl) ?_
  refine tl_e rfl (e_call' rfl (hMay_spec (hg.mono hm) (hrow.mono hd5)) ?_)
  rintro _ M6 _ hM6 ⟨rfl, rfl⟩
  replace hm := hm.trans hM6
  refine tl_y rfl (y_move (v := .bool _) rfl) ?_
  refine tl_set (s := 28) (u := .bool true) rfl (congrArg Value.bool (decide_eq_true hok)) ?_
  refine tl_y rfl (y_move (v := .slice _ _ _) rfl) ?_
  refine tl_e rfl (e_call' rfl (Total_spec (hg.mono hm) (hrow.mono (hd5.trans hM6))) ?_)
  rintro _ M7 _ hM7 ⟨rfl, rfl⟩
  rw [htot]
  replace hm := hm.trans hM7
  refine tl_y rfl (y_eql rfl rfl) ?_
  refine tl_y rfl (y_pickT rfl rfl) ?_
  refine tl_y rfl (y_move (v := .bool _) rfl) ?_
  refine tl_set (s := 33) (u := .bool true) rfl (rfl) ?_
  refine tl_y rfl (y_move (v := .int _ _) rfl) ?_
  refine tl_y rfl (y_eql rfl rfl) ?_
  refine tl_y rfl (y_pickT rfl rfl) ?_
  refine tl_y rfl (y_move (v := .bool _) rfl) ?_
  refine tl_set (s := 37) (u := .bool true) rfl (rfl) ?_
  refine tl_y rfl (y_move (v := .slice _ _ _) rfl) ?_
  refine tl_e rfl (e_buildSlice rfl (by decide) (fun b3 => ?_))
  refine .pub b3 inferInstance (fun M8 hM8 hb3 => ?_)
  replace hm := hm.trans hM8
  refine tl_e rfl (e_call' rfl (Words_spec (hr2.mono (hM3.trans (hM4.trans (hM5.trans (hM6.trans (hM7.trans hM8)))))) (Row.whole (vs := u32r [1, 1]) hb3 rfl (by omega)) rfl) ?_)
  rintro _ _ _ _ ⟨rfl, rfl, rfl⟩
  refine tl_y rfl (y_pickT rfl rfl) ?_
  refine tl_y rfl (y_move (v := .bool _) rfl) ?_
  refine tl_set (s := 42) (u := .bool true) rfl (rfl) ?_
  refine tl_y rfl (y_move (v := .int _ _) rfl) ?_
  refine tl_y rfl (y_eql rfl rfl) ?_
  refine tl_y rfl (y_pickT rfl rfl) ?_
  refine tl_y rfl (y_move (v := .bool _) rfl) ?_
  refine tl_set (s := 46) (u := .bool true) rfl (rfl) ?_
  refine tl_y rfl (y_move (v := .int _ _) rfl) ?_
  refine tl_y rfl (y_eql rfl rfl) ?_
  refine tl_y rfl (y_pickT rfl rfl) ?_
  refine tl_y rfl (y_move (v := .bool _) rfl) ?_
  refine tl_set (s := 50) (u := .bool true) rfl (rfl) ?_
  refine tl_e rfl (e_call' rfl (hMay_spec (l := []) (hg.mono hm) (Row.nil _ _)) ?_)
  rintro _ M9 _ hM9 ⟨rfl, rfl⟩
  refine tl_y rfl (y_notd rfl) ?_
  refine tl_y rfl (y_pickT rfl rfl) ?_
  refine tl_y rfl (y_assign (v := .bool _) rfl) ?_
  refine tl_nil (.then_normal ?_)
  refine .sub (F' := [(0, _)]) (.cons rfl .nil) ?_
  refine x_ret (ret1 rfl rfl (hm.trans hM9) ⟨rfl, congrArg Value.bool (decide_eq_true hnil)⟩)
end
end Go.Proofs.YtiimjodbaogjbaaGreatDoor
set_option linter.unusedVariables false
set_option linter.unusedSimpArgs false
namespace Go.Proofs.YtiimjodbaogjbaaGreatDoor
open Go Go.Eng
def belE (x : PairV) (nl sl : Nat) : Int := if ¬ okP x then 4 else if ¬ okY (otsV x.o) nl sl then 1 else 0
def belN (x : PairV) (name sec : List UInt8) (q : Nat) : List UInt8 := (hidB (otsV x.o) name sec q 65535).take 16
def belS (x : PairV) (name sec : List UInt8) (q : Nat) : List UInt8 := hidB (otsV x.o) name sec q 65534
def canB (l : List PairV) (nl sl : Nat) : Prop := ∀ p ∈ l, (tv p).h ≤ 10 ∧ okY (otsV p.o) nl sl
instance {l : List PairV} {nl sl : Nat} : Decidable (canB l nl sl) := inferInstanceAs (Decidable (∀ p ∈ l, _))
structure PartB where
  key : List UInt8
  sig : List UInt8
  next : List UInt8
def partF (text : List UInt8) (x : PartB) : Prop := fitK x.key (if x.next = [] then text.length else x.next.length) (if x.next = [] then text else x.next) x.sig
instance {text : List UInt8} {x : PartB} : Decidable (partF text x) := inferInstanceAs (Decidable (fitK _ _ _ _))
end Go.Proofs.YtiimjodbaogjbaaGreatDoor
set_option linter.unusedVariables false
set_option linter.unusedSimpArgs false
set_option linter.constructorNameAsVariable false
namespace Go.Proofs.YtiimjodbaogjbaaGreatDoor
open Go Go.Eng
structure LmG (M : Mem) : Prop where
  ch : ChG M
  tr : SetT M
theorem LmG.mono {M M' : Mem} (h : LmG M) (hle : Le M M') : LmG M' := ⟨h.ch.mono hle, h.tr.mono hle⟩
theorem LmG.hs {M : Mem} (h : LmG M) : HsG M := ⟨h.ch.set, h.tr⟩
section
variable {G : World} {M : Mem} {L : Own}
end
end Go.Proofs.YtiimjodbaogjbaaGreatDoor
set_option linter.unusedVariables false
set_option linter.unusedSimpArgs false
set_option linter.constructorNameAsVariable false
namespace Go.Proofs.YtiimjodbaogjbaaGreatDoor
open Go Go.Eng
structure SlV where
  a : Option Addr
  n : Nat
  c : Nat
abbrev SlV.v (x : SlV) : Value := .slice x.a x.n x.c
section
variable {G : World} {M : Mem} {L : Own}
end
end Go.Proofs.YtiimjodbaogjbaaGreatDoor
set_option linter.unusedVariables false
set_option linter.unusedSimpArgs false
set_option linter.constructorNameAsVariable false
namespace Go.Proofs.YtiimjodbaogjbaaGreatDoor
open Go Go.Eng
section
variable {G : World} {M : Mem} {L : Own} {NA SA TA : Option Addr} {nl nc sl_ sc tl tc : Nat} {name sec text : List UInt8}
theorem caughtHE1_ret {b c : Nat} {x : Int} {cs : List Value} : ConD Tryz.prog 136 #[.pointer (some ⟨b, 0, none⟩), .pointer (some ⟨c, 0, none⟩)] .returning G M ((c, .cells (List.toArray [.int .i64 x]) 38 (0, 0)) :: (b, .cells (List.toArray cs) 49 (0, 0)) :: L) (fun u' M' L' => u' = .returning ∧ M' = M ∧ L' = (c, .cells (List.toArray [.int .i64 x]) 38 (0, 0)) :: (b, .cells cs.toArray 49 (0, 0)) :: L) := by
  refine enterRec (args := [_, _]) (fn := Tryz.f136) ⟨Tryz.func136, rfl, by kernel_rfl, by kernel_rfl⟩ 15 rfl rfl ?_
  refine x_block ?_
  refine x_seq (x_region ?_)
  refine tl_y rfl (y_eqNilIface rfl rfl) ?_
  refine tl_nil (.then_normal ?_)
  refine x_true rfl (rfl) ?_
  refine x_region ?_
  refine tl_y rfl (y_assign rfl) ?_
  refine tl_nil (.block_normal (.rec_normal (Le.refl _) ⟨rfl, rfl, rfl⟩))
theorem caughtHE1_wrong {b c : Nat} {x e : Int} : ConD Tryz.prog 136 #[.pointer (some ⟨b, 0, none⟩), .pointer (some ⟨c, 0, none⟩)] (.panicking (hwrong e)) G M ((c, .cells (List.toArray [.int .i64 x]) 38 (0, 0)) :: (b, .cells (List.toArray [.slice none 0 0, .slice none 0 0]) 49 (0, 0)) :: L)
    (fun u' M' L' => u' = .panicking [{ v := hwrongv e, recovered := true }] ∧ M' = M ∧ L' = (c, .cells (List.toArray [.int .i64 e]) 38 (0, 0)) :: (b, .cells (List.toArray [.slice none 0 0, .slice none 0 0]) 49 (0, 0)) :: L) := by
  refine enterRec (args := [_, _]) (fn := Tryz.f136) ⟨Tryz.func136, rfl, by kernel_rfl, by kernel_rfl⟩ 15 rfl rfl ?_
  refine x_block ?_
  refine x_seq (x_region ?_)
  refine tl_y rfl (y_eqIfaceNil rfl rfl) ?_
  refine tl_nil (.then_normal ?_)
  refine x_false rfl (rfl) ?_
  refine x_seq (x_region ?_)
  refine tl_y rfl (y_assertOk rfl (by intro _ h; cases h)) ?_
  refine tl_y rfl (y_extract rfl) ?_
  refine tl_y rfl (y_extract rfl) ?_
  refine tl_nil (.then_normal ?_)
  refine x_true rfl (rfl) ?_
  refine x_seq (x_region ?_)
  refine tl_e rfl (e_alloc (fun b7 => ?_))
  refine tl_e rfl (e_store rfl rfl (by rfl) (by rfl) inferInstance inferInstance inferInstance ?_)
  refine tl_nil (.then_normal ?_)
  refine .sub (F' := [(0, _), (1, _), (3, _)]) (.cons rfl (.cons rfl (.cons rfl .nil))) ?_
  refine x_seq (x_region ?_)
  refine tl_e rfl (e_alloc (fun b8 => ?_))
  refine tl_nil (.then_normal ?_)
  refine x_draw0 4 ((b7, .cells (List.toArray [.int .i64 e]) 164 (0, 0)) :: (b8, .cells (List.toArray [.slice none 0 0, .slice none 0 0]) 49 (0, 0)) :: []) Keeps.mem hmix rfl ?_
  refine to_y 0 rfl (by kernel_rfl) rfl (y_loadAgg rfl rfl (.own inferInstance inferInstance)) ?_
  refine to_p 1 rfl (by kernel_rfl) rfl (y_fieldAddr rfl) ?_
  refine to_y 2 rfl (by kernel_rfl) rfl (y_load rfl rfl (.own inferInstance inferInstance)) ?_
  refine to_e 3 rfl (by kernel_rfl) rfl (e_store rfl rfl (by rfl) (by rfl) inferInstance inferInstance inferInstance ?_)
  refine ⟨⟨(by first | exact Le.refl _ | assumption), Keeps.mem⟩, ?_⟩
  refine to_t 4 rfl (by kernel_rfl) (by kernel_rfl) rfl (e_store rfl rfl (by rfl) (by rfl) inferInstance inferInstance inferInstance ?_)
  refine to_nil (by kernel_rfl) (.block_normal (.dropTo ((c, .cells (List.toArray [.int .i64 e]) 38 (0, 0)) :: (b, .cells (List.toArray [.slice none 0 0, .slice none 0 0]) 49 (0, 0)) :: L) inferInstance (.rec_normal (Le.refl _) ⟨rfl, rfl, rfl⟩)))
theorem caughtHE_spec {wf : FuncId} {first cap : List Value} {K : SlV → SlV → Mem → Prop} {Kp : Int → Prop}
    (hw : ∀ p q, Con Tryz.prog wf (first ++ [] ++ cap).toArray G M (p :: q :: L) (fun v M' L' => L' = p :: q :: L ∧ ∃ x y, v = .agg (List.toArray ([x.v, y.v])) ∧ K x y M') (fun ch M' L' => L' = p :: q :: L ∧ ∃ e, Kp e ∧ ch = hwrong e)) :
    Con Tryz.prog 77 #[.func (.func wf) first.toArray cap.toArray] G M L (fun v M' L' => L' = L ∧ ((∃ x y, v = .tuple #[.agg (List.toArray ([x.v, y.v])), .int .i64 0] ∧ K x y M') ∨ (∃ e, v = .tuple #[.agg (List.toArray [.slice none 0 0, .slice none 0 0]), .int .i64 e] ∧ Kp e))) noPanic := by
  refine enterD (args := [_]) (fn := Tryz.f77) ⟨Tryz.func77, rfl, by kernel_rfl, by kernel_rfl⟩ 7 rfl ?_
  refine x_seq (x_region ?_)
  refine tl_e rfl (e_alloc (fun b1 => ?_))
  refine tl_e rfl (e_alloc (fun b2 => ?_))
  refine tl_nil (.then_normal ?_)
  refine x_seq (x_region ?_)
  refine tl_y rfl (y_makeFunc rfl rfl) ?_
  refine tl_e rfl (e_defer rfl rfl rfl ?_)
  refine tl_nil (.then_normal ?_)
  refine x_seq (x_region ?_)
  refine tl_y rfl (y_move (v := .func _ _ _) rfl) ?_
  refine tl_e rfl (e_callv rfl rfl (hw _ _) (by
    rintro _ M1 _ hM1 ⟨rfl, e, hr, rfl⟩
    refine .retD (cap := [_, _]) (args := []) caughtHE1_wrong ?_
    rintro _ M2 _ hM2 ⟨rfl, rfl, rfl⟩
    exact .inl ⟨rfl, _, L, rv2 rfl (rc_cellAgg (by rfl) rfl (.own inferInstance inferInstance)) (rc_cell (by rfl) rfl (.own inferInstance inferInstance)), inferInstance, hM1, rfl, .inr ⟨e, rfl, hr⟩⟩) ?_)
  rintro _ M1 _ hM1 ⟨rfl, x, y, rfl, hk⟩
  refine tl_e rfl (e_store rfl rfl (by rfl) (by rfl) inferInstance inferInstance inferInstance ?_)
  refine tl_e rfl (e_store rfl rfl (by rfl) (by rfl) inferInstance inferInstance inferInstance ?_)
  refine tl_nil (.then_normal ?_)
  refine .sub (F' := [(2, _), (3, _)]) (.cons rfl (.cons rfl .nil)) ?_
  refine x_ret (.retD (cap := [_, _]) (args := []) (caughtHE1_ret (cs := [x.v, y.v])) ?_)
  rintro _ M2 _ hM2 ⟨rfl, rfl, rfl⟩
  exact .inl ⟨rfl, _, L, rv2 rfl (rc_cellAgg (by rfl) rfl (.own inferInstance inferInstance)) (rc_cell (by rfl) rfl (.own inferInstance inferInstance)), inferInstance, hM1, rfl, .inl ⟨x, y, rfl, hk⟩⟩
def belNV (x : PairV) (nl sl : Nat) (name sec : List UInt8) (q : Nat) : List UInt8 := if belE x nl sl = 0 then belN x name sec q else []
def belSV (x : PairV) (nl sl : Nat) (name sec : List UInt8) (q : Nat) : List UInt8 := if belE x nl sl = 0 then belS x name sec q else []
theorem below_spec (hg : LmG M) (x : PairV) (hname : Bytes M NA nl nc name) (hsec : Bytes M SA sl_ sc sec) (q : UInt32) :
    Con Tryz.prog 79 #[.agg (List.toArray x.cells), .agg (List.toArray (seedC NA nl nc SA sl_ sc)), .int .u32 (q.toNat : Int)] G M L (fun v M' L' => L' = L ∧ ∃ y z : SlV, v = .agg (List.toArray [y.v, z.v]) ∧ belE x nl sl_ = 0 ∧ Bytes M' y.a y.n y.c (belN x name sec q.toNat) ∧ Bytes M' z.a z.n z.c (belS x name sec q.toNat)) (fun ch M' L' => L' = L ∧ belE x nl sl_ ≠ 0 ∧ ch = hwrong (belE x nl sl_)) := by
  refine enter (args := [_, _, _]) (fn := Tryz.f79) ⟨Tryz.func79, rfl, by kernel_rfl, by kernel_rfl⟩ 32 rfl ?_
  refine x_seq (x_region ?_)
  refine tl_e rfl (e_box rfl (fun b1 => ?_))
  refine tl_e rfl (e_box rfl (fun b2 => ?_))
  refine tl_e rfl (e_alloc (fun b3 => ?_))
  refine tl_nil (.then_normal ?_)
  refine x_seq (x_region ?_)
  refine tl_y rfl (y_loadAgg rfl rfl (.own inferInstance inferInstance)) ?_
  refine tl_e rfl (e_call' rfl (lMay_spec hg.hs x) ?_)
  rintro _ M1 _ hM1 ⟨rfl, rfl⟩
  have hd := hM1
  refine tl_e rfl (e_call rfl (hmust_spec _ _) (by
    rintro _ _ _ _ ⟨rfl, rfl, ht, rfl⟩
    have e : belE x nl sl_ = 4 := by rw [belE, if_pos (by simpa using ht)]
    exact TP.dropTo L inferInstance (.retA rfl hd ⟨rfl, by rw [e]; decide, by rw [e]⟩)) ?_)
  rintro _ _ _ _ ⟨rfl, rfl, ht⟩
  have hok : okP x := by simpa using ht
  obtain ⟨n, w, p, H, hx⟩ := okP_facts hok
  have hn32 := hx.o.n32
  refine tl_nil (.then_normal ?_)
  refine .sub (F' := [(2, _), (3, _), (4, _), (6, _)]) (.cons rfl (.cons rfl (.cons rfl (.cons rfl .nil)))) ?_
  refine x_seq (x_region ?_)
  refine tl_y rfl (y_fieldAddr rfl) ?_
  refine tl_y rfl (y_load rfl rfl (.own inferInstance inferInstance)) ?_
  refine tl_e rfl (e_call' rfl (Ots_spec (hg.mono hd).ch.set x.o) ?_)
  rintro _ M2 _ hM2 ⟨rfl, rfl⟩
  replace hd := hd.trans hM2
  refine tl_y rfl (y_move (v := .tuple _) rfl) ?_
  refine tl_y rfl (y_extract rfl) ?_
  refine tl_y rfl (y_extract rfl) ?_
  refine tl_e rfl (e_alloc (fun b4 => ?_))
  refine tl_e rfl (e_store rfl rfl (by rfl) (by rfl) inferInstance inferInstance inferInstance ?_)
  refine tl_y rfl (y_assign (v := .int _ _) rfl) ?_
  refine tl_nil (.then_normal ?_)
  refine .sub (F' := [(2, _), (4, _), (6, _), (7, _)]) (.cons rfl (.cons rfl (.cons rfl (.cons rfl .nil)))) ?_
  refine x_seq (x_region ?_)
  refine tl_y rfl (y_loadAgg rfl rfl (.own inferInstance inferInstance)) ?_
  refine tl_y rfl (y_loadAgg rfl rfl (.own inferInstance inferInstance)) ?_
  refine tl_e rfl (e_call' rfl (oMay_spec (hg.mono hd).ch.set (otsV x.o)) ?_)
  rintro _ M3 _ hM3 ⟨rfl, rfl⟩
  replace hd := hd.trans hM3
  refine tl_e rfl (e_call rfl (hmust_spec _ _) (by
    rintro _ _ _ _ ⟨rfl, rfl, ht, rfl⟩
    have e : belE x nl sl_ = 1 := by rw [belE, if_neg (fun h => h hok), if_pos (by simpa using ht)]
    exact TP.dropTo L inferInstance (.retA rfl hd ⟨rfl, by rw [e]; decide, by rw [e]⟩)) ?_)
  rintro _ _ _ _ ⟨rfl, rfl, ht⟩
  have hy : okY (otsV x.o) nl sl_ := by simpa using ht
  have he0 : belE x nl sl_ = 0 := by rw [belE, if_neg (fun h => h hok), if_neg (fun h => h hy)]
  have hll := hidB_len hx.o name sec q.toNat 65535
  refine tl_nil (.then_normal ?_)
  refine .sub (F' := [(2, _), (4, _), (6, _), (7, _)]) (.cons rfl (.cons rfl (.cons rfl (.cons rfl .nil)))) ?_
  refine x_seq ?_
  have he : Le M3 M3 := Le.refl _
  refine x_draw 10 hmix rfl ?_
  refine to_y 0 rfl (by kernel_rfl) rfl (y_loadAgg rfl rfl (.own inferInstance inferInstance)) ?_
  refine to_y 1 rfl (by kernel_rfl) rfl (y_loadAgg rfl rfl (.own inferInstance inferInstance)) ?_
  refine to_p 2 rfl (by kernel_rfl) rfl (y_move (v := .int _ _) rfl) ?_
  refine to_y 5 rfl (by kernel_rfl) rfl (y_loadAgg rfl rfl (.own inferInstance inferInstance)) ?_
  refine to_y 6 rfl (by kernel_rfl) rfl (y_loadAgg rfl rfl (.own inferInstance inferInstance)) ?_
  refine to_p 7 rfl (by kernel_rfl) rfl (y_move (v := .int _ _) rfl) ?_
  refine to_e 3 rfl (by kernel_rfl) rfl (e_call' rfl (oSecret_spec (hg.mono hd).ch (otsV x.o) (hname.mono hd) (hsec.mono hd) q 65535 (by omega)) ?_)
  rintro _ M4 _ hM4 ⟨rfl, A4, m4, c4, rfl, hA4⟩
  rw [if_pos hy] at hA4
  have hm4 := hA4.size
  have hc4 := hA4.le
  replace hd := hd.trans hM4
  replace he := he.trans hM4
  try replace hA5 := hA5.mono hM4
  refine ⟨⟨he, Keeps.mem⟩, ?_⟩
  refine to_p 4 rfl (by kernel_rfl) rfl (y_slice3 rfl rfl rfl (by omega) (by omega)) ?_
  refine to_e 8 rfl (by kernel_rfl) rfl (e_call' rfl (oSecret_spec (hg.mono hd).ch (otsV x.o) (hname.mono hd) (hsec.mono hd) q 65534 (by omega)) ?_)
  rintro _ M5 _ hM5 ⟨rfl, A5, m5, c5, rfl, hA5⟩
  rw [if_pos hy] at hA5
  replace hd := hd.trans hM5
  replace he := he.trans hM5
  try replace hA4 := hA4.mono hM5
  refine ⟨⟨he, Keeps.mem⟩, ?_⟩
  refine to_p 9 rfl (by kernel_rfl) rfl (y_build rfl) ?_
  refine to_t 10 rfl (by kernel_rfl) (by kernel_rfl) rfl (e_store rfl rfl (by rfl) (by rfl) inferInstance inferInstance inferInstance ?_)
  refine to_nil (by kernel_rfl) (.then_normal ?_)
  refine .sub (F' := [(6, _)]) (.cons rfl .nil) ?_
  refine x_ret (retRV (L' := L) (rv1 rfl (rc_cellAgg (by rfl) rfl (.own inferInstance inferInstance))) inferInstance hd ⟨rfl, ⟨_, _, _⟩, ⟨_, _, _⟩, rfl, he0, Bytes.take3 hA4 16 16 (by omega) (Nat.le_refl _) (by omega), hA5⟩)
theorem Below1_spec (hg : LmG M) (x : PairV) (hname : Bytes M NA nl nc name) (hsec : Bytes M SA sl_ sc sec) (q : UInt32) {bp bs bq : Nat}
    [i1 : Has L bp (.cells (List.toArray x.cells) 24 (0, 0))] [i2 : Has L bs (.cells (List.toArray (seedC NA nl nc SA sl_ sc)) 49 (0, 0))] [i3 : Has L bq (.cells (List.toArray [.int .u32 (q.toNat : Int)]) 22 (0, 0))] :
    Con Tryz.prog 78 #[.pointer (some ⟨bp, 0, none⟩), .pointer (some ⟨bs, 0, none⟩), .pointer (some ⟨bq, 0, none⟩)] G M L (fun v M' L' => L' = L ∧ ∃ y z : SlV, v = .agg (List.toArray [y.v, z.v]) ∧ belE x nl sl_ = 0 ∧ Bytes M' y.a y.n y.c (belN x name sec q.toNat) ∧ Bytes M' z.a z.n z.c (belS x name sec q.toNat)) (fun ch M' L' => L' = L ∧ ∃ e, (belE x nl sl_ ≠ 0 ∧ e = belE x nl sl_) ∧ ch = hwrong e) := by
  refine enter (args := [_, _, _]) (fn := Tryz.f78) ⟨Tryz.func78, rfl, by kernel_rfl, by kernel_rfl⟩ 8 rfl ?_
  refine x_seq (x_region ?_)
  refine tl_e rfl (e_alloc (fun b1 => ?_))
  refine tl_nil (.then_normal ?_)
  refine x_seq (x_region ?_)
  refine tl_y rfl (y_loadAgg rfl rfl (.own inferInstance inferInstance)) ?_
  refine tl_y rfl (y_loadAgg rfl rfl (.own inferInstance inferInstance)) ?_
  refine tl_y rfl (y_load rfl rfl (.own inferInstance inferInstance)) ?_
  refine tl_e rfl (e_call rfl (below_spec hg x hname hsec q) (by
    rintro _ M1 _ hM1 ⟨rfl, hno, rfl⟩
    exact TP.dropTo L inferInstance (.retA rfl hM1 ⟨rfl, _, ⟨hno, rfl⟩, rfl⟩)) ?_)
  rintro _ M1 _ hM1 ⟨rfl, y, z, rfl, h0, hy, hz⟩
  refine tl_e rfl (e_store rfl rfl (by rfl) (by rfl) inferInstance inferInstance inferInstance ?_)
  refine tl_nil (.then_normal ?_)
  refine .sub (F' := [(3, _)]) (.cons rfl .nil) ?_
  refine x_ret (retRV (L' := L) (rv1 rfl (rc_cellAgg (by rfl) rfl (.own inferInstance inferInstance))) inferInstance hM1 ⟨rfl, y, z, rfl, h0, hy, hz⟩)
theorem Below_spec (hg : LmG M) (x : PairV) (hname : Bytes M NA nl nc name) (hsec : Bytes M SA sl_ sc sec) (q : UInt32) :
    Con Tryz.prog 32 #[.agg (List.toArray x.cells), .agg (List.toArray (seedC NA nl nc SA sl_ sc)), .int .u32 (q.toNat : Int)] G M L (fun v M' L' => L' = L ∧ ∃ y z : SlV, v = .tuple #[.agg (List.toArray [y.v, z.v]), .int .i64 (belE x nl sl_)] ∧ Bytes M' y.a y.n y.c (belNV x nl sl_ name sec q.toNat) ∧ Bytes M' z.a z.n z.c (belSV x nl sl_ name sec q.toNat)) noPanic := by
  refine enter (args := [_, _, _]) (fn := Tryz.f32) ⟨Tryz.func32, rfl, by kernel_rfl, by kernel_rfl⟩ 12 rfl ?_
  refine x_seq (x_region ?_)
  refine tl_e rfl (e_box rfl (fun b1 => ?_))
  refine tl_e rfl (e_box rfl (fun b2 => ?_))
  refine tl_e rfl (e_box rfl (fun b3 => ?_))
  refine tl_e rfl (e_alloc (fun b4 => ?_))
  refine tl_y rfl (y_assign rfl) ?_
  refine tl_nil (.then_normal ?_)
  refine .sub (F' := [(3, _), (4, _), (5, _), (6, _)]) (.cons rfl (.cons rfl (.cons rfl (.cons rfl .nil)))) ?_
  refine x_seq (x_region ?_)
  refine tl_y rfl (y_makeFunc rfl rfl) ?_
  refine tl_e rfl (e_call' rfl (caughtHE_spec (K := fun y z M' => belE x nl sl_ = 0 ∧ Bytes M' y.a y.n y.c (belN x name sec q.toNat) ∧ Bytes M' z.a z.n z.c (belS x name sec q.toNat)) (Kp := fun e => belE x nl sl_ ≠ 0 ∧ e = belE x nl sl_) (first := []) (cap := [.pointer (some ⟨b1, 0, none⟩), .pointer (some ⟨b2, 0, none⟩), .pointer (some ⟨b3, 0, none⟩)]) (fun p' q' => Below1_spec hg x hname hsec q)) ?_)
  rintro v M1 _ hM1 ⟨rfl, hv⟩
  obtain ⟨y, z, rfl, hy, hz⟩ : ∃ y z : SlV, v = .tuple #[.agg (List.toArray [y.v, z.v]), .int .i64 (belE x nl sl_)] ∧ Bytes M1 y.a y.n y.c (belNV x nl sl_ name sec q.toNat) ∧ Bytes M1 z.a z.n z.c (belSV x nl sl_ name sec q.toNat) := by
    rcases hv with ⟨y, z, rfl, h0, hy, hz⟩ | ⟨e, rfl, hno, rfl⟩
    · exact ⟨y, z, by rw [h0], by rw [belNV, if_pos h0]; exact hy, by rw [belSV, if_pos h0]; exact hz⟩
    · exact ⟨⟨none, 0, 0⟩, ⟨none, 0, 0⟩, rfl, by rw [belNV, if_neg hno]; exact Row.nil _ _, by rw [belSV, if_neg hno]; exact Row.nil _ _⟩
  refine tl_y rfl (y_extract rfl) ?_
  refine tl_y rfl (y_extract rfl) ?_
  refine tl_e rfl (e_store rfl rfl (by rfl) (by rfl) inferInstance inferInstance inferInstance ?_)
  refine tl_y rfl (y_assign (v := .int _ _) rfl) ?_
  refine tl_nil (.then_normal ?_)
  refine .sub (F' := [(6, _), (7, _)]) (.cons rfl (.cons rfl .nil)) ?_
  refine x_ret (retRV (L' := L) (rv2 rfl (rc_cellAgg (by rfl) rfl (.own inferInstance inferInstance)) (rc_tmp (by rfl))) inferInstance hM1 ⟨rfl, y, z, rfl, hy, hz⟩)
end
end Go.Proofs.YtiimjodbaogjbaaGreatDoor
set_option linter.unusedVariables false
set_option linter.unusedSimpArgs false
set_option linter.constructorNameAsVariable false
namespace Go.Proofs.YtiimjodbaogjbaaGreatDoor
open Go Go.Eng
section
variable {G : World} {M : Mem} {L : Own} {NA SA : Option Addr} {nl nc sl sc : Nat} {name sec : List UInt8}
theorem RoMay_spec (o : OtsV) :
    Con Tryz.prog 43 #[.agg (List.toArray o.cells), .agg (List.toArray (seedC NA nl nc SA sl sc))] G M L (fun v M' L' => M = M' ∧ L = L' ∧ v = .bool (decide (okY o nl sl))) noPanic := by
  refine enter (args := [_, _]) (fn := Tryz.f43) ⟨Tryz.func43, rfl, by kernel_rfl, by kernel_rfl⟩ 34 rfl ?_
  refine x_seq (x_region ?_)
  refine tl_e rfl (e_box rfl (fun b1 => ?_))
  refine tl_e rfl (e_box rfl (fun b2 => ?_))
  refine tl_y rfl (y_assign rfl) ?_
  refine tl_nil (.then_normal ?_)
  refine x_seq (x_region ?_)
  refine tl_y rfl (y_fieldAddr rfl) ?_
  refine tl_y rfl (y_load rfl rfl (.own inferInstance inferInstance)) ?_
  refine tl_e rfl (e_call' rfl (ROts_spec o.code) ?_)
  rintro _ _ _ _ ⟨rfl, rfl, rfl⟩
  refine tl_y rfl (y_move (v := .tuple _) rfl) ?_
  refine tl_y rfl (y_extract rfl) ?_
  refine tl_y rfl (y_extract rfl) ?_
  refine tl_e rfl (e_alloc (fun b3 => ?_))
  refine tl_e rfl (e_store rfl rfl (by rfl) (by rfl) inferInstance inferInstance inferInstance ?_)
  refine tl_y rfl (y_assign (v := .int _ _) rfl) ?_
  refine tl_nil (.then_normal ?_)
  refine .sub (F' := [(2, _), (3, _), (5, _), (6, _)]) (.cons rfl (.cons rfl (.cons rfl (.cons rfl .nil)))) ?_
  refine x_join (I := fun F D M2 L2 => ∃ b : Bool, (b = true ↔ okY o nl sl) ∧ D = [] ∧ M = M2 ∧ DropTo L2 L ∧ F = [(4, .bool b)]) ?_ (fun Jq2 => ?_)
  ·
    rintro _ _ _ L2 ⟨b, hb, rfl, rfl, hdr, rfl⟩  -- slots [4]
    refine x_ret (.dropTo L hdr (ret1 rfl rfl (Le.refl _) ⟨rfl, rfl, by rw [bool_iff hb]⟩))
  ·
    refine x_region ?_
    refine tl_y rfl (y_move (v := .int _ _) rfl) ?_
    refine tl_y rfl (y_eql rfl rfl) ?_
    refine tl_y rfl (y_move (v := .bool _) rfl) ?_
    refine tl_cases (s := 15) rfl (fun hk1 => ?_) (fun hk1 => ?_)
    ·
      refine tl_y rfl (y_loadAgg rfl rfl (.own inferInstance inferInstance)) ?_
      refine tl_y rfl (y_loadAgg rfl rfl (.own inferInstance inferInstance)) ?_
      refine tl_y rfl (y_eqlS rfl rfl eqs27) ?_
      refine tl_y rfl (y_pickT rfl rfl) ?_
      refine tl_y rfl (y_move (v := .bool _) rfl) ?_
      refine tl_cases (s := 20) rfl (fun hk2 => ?_) (fun hk2 => ?_)
      ·
        refine tl_y rfl (y_fieldAddr rfl) ?_
        refine tl_y rfl (y_load rfl rfl (.own inferInstance inferInstance)) ?_
        refine tl_y rfl (y_len rfl) ?_
        refine tl_y rfl (y_eql rfl rfl) ?_
        refine tl_y rfl (y_pickT rfl rfl) ?_
        refine tl_y rfl (y_move (v := .bool _) rfl) ?_
        refine tl_cases (s := 26) rfl (fun hk3 => ?_) (fun hk3 => ?_)
        ·
          refine tl_y rfl (y_fieldAddr rfl) ?_
          refine tl_y rfl (y_load rfl rfl (.own inferInstance inferInstance)) ?_
          refine tl_y rfl (y_len rfl) ?_
          refine tl_y rfl (y_fieldAddr rfl) ?_
          refine tl_y rfl (y_load rfl rfl (.own inferInstance inferInstance)) ?_
          refine tl_y rfl (y_eql rfl rfl) ?_
          refine tl_y rfl (y_pickT rfl rfl) ?_
          refine tl_y rfl (y_assign (v := .bool _) rfl) ?_
          refine tl_nil (.then_normal (.sub (F' := [(4, _)]) (.cons rfl .nil) (Jq2 _ _ _ _ ?_)))
          exact ⟨_, by
            constructor
            · intro ht
              first | (cases ht; done) | (simp at ht; exact ⟨⟨hk1, ots_eq hk2⟩, by omega, by omega⟩)
            · rintro ⟨⟨a1, a2⟩, a3, a4⟩
              first | exact absurd a1 hk1 | exact absurd (eq_ots a2) hk2 | (simp; omega) | omega, rfl, rfl, inferInstance, rfl⟩
        ·
          refine tl_skip rfl ?_
          refine tl_skip rfl ?_
          refine tl_skip rfl ?_
          refine tl_skip rfl ?_
          refine tl_skip rfl ?_
          refine tl_skip rfl ?_
          refine tl_y rfl (y_pickF rfl rfl) ?_
          refine tl_y rfl (y_assign (v := .bool _) rfl) ?_
          refine tl_nil (.then_normal (.sub (F' := [(4, _)]) (.cons rfl .nil) (Jq2 _ _ _ _ ?_)))
          exact ⟨_, by
            constructor
            · intro ht
              first | (cases ht; done) | (simp at ht; exact ⟨⟨hk1, ots_eq hk2⟩, by omega, by omega⟩)
            · rintro ⟨⟨a1, a2⟩, a3, a4⟩
              first | exact absurd a1 hk1 | exact absurd (eq_ots a2) hk2 | (simp; omega) | omega, rfl, rfl, inferInstance, rfl⟩
      ·
        refine tl_skip rfl ?_
        refine tl_skip rfl ?_
        refine tl_skip rfl ?_
        refine tl_skip rfl ?_
        refine tl_y rfl (y_pickF rfl rfl) ?_
        refine tl_y rfl (y_move (v := .bool _) rfl) ?_
        refine tl_skip rfl ?_
        refine tl_skip rfl ?_
        refine tl_skip rfl ?_
        refine tl_skip rfl ?_
        refine tl_skip rfl ?_
        refine tl_skip rfl ?_
        refine tl_y rfl (y_pickF rfl rfl) ?_
        refine tl_y rfl (y_assign (v := .bool _) rfl) ?_
        refine tl_nil (.then_normal (.sub (F' := [(4, _)]) (.cons rfl .nil) (Jq2 _ _ _ _ ?_)))
        exact ⟨_, by
          constructor
          · intro ht
            first | (cases ht; done) | (simp at ht; exact ⟨⟨hk1, ots_eq hk2⟩, by omega, by omega⟩)
          · rintro ⟨⟨a1, a2⟩, a3, a4⟩
            first | exact absurd a1 hk1 | exact absurd (eq_ots a2) hk2 | (simp; omega) | omega, rfl, rfl, inferInstance, rfl⟩
    ·
      refine tl_skip rfl ?_
      refine tl_skip rfl ?_
      refine tl_skip rfl ?_
      refine tl_y rfl (y_pickF rfl rfl) ?_
      refine tl_y rfl (y_move (v := .bool _) rfl) ?_
      refine tl_skip rfl ?_
      refine tl_skip rfl ?_
      refine tl_skip rfl ?_
      refine tl_skip rfl ?_
      refine tl_y rfl (y_pickF rfl rfl) ?_
      refine tl_y rfl (y_move (v := .bool _) rfl) ?_
      refine tl_skip rfl ?_
      refine tl_skip rfl ?_
      refine tl_skip rfl ?_
      refine tl_skip rfl ?_
      refine tl_skip rfl ?_
      refine tl_skip rfl ?_
      refine tl_y rfl (y_pickF rfl rfl) ?_
      refine tl_y rfl (y_assign (v := .bool _) rfl) ?_
      refine tl_nil (.then_normal (.sub (F' := [(4, _)]) (.cons rfl .nil) (Jq2 _ _ _ _ ?_)))
      exact ⟨_, by
        constructor
        · intro ht
          first | (cases ht; done) | (simp at ht; exact ⟨⟨hk1, ots_eq hk2⟩, by omega, by omega⟩)
        · rintro ⟨⟨a1, a2⟩, a3, a4⟩
          first | exact absurd a1 hk1 | exact absurd (eq_ots a2) hk2 | (simp; omega) | omega, rfl, rfl, inferInstance, rfl⟩
theorem RoSecret_spec (o : OtsV) (hname : Bytes M NA nl nc name) (hsec : Bytes M SA sl sc sec) (q : UInt32) (d : Nat) (hd : d ≤ 65535) :
    Con Tryz.prog 80 #[.agg (List.toArray o.cells), .agg (List.toArray (seedC NA nl nc SA sl sc)), .int .u32 (q.toNat : Int), .int .u16 (d : Int)] G M L (fun v M' L' => L = L' ∧ ∃ A m c, v = .slice A m c ∧ Bytes M' A m c (if okY o nl sl then hidB o name sec q.toNat d else [])) noPanic := by
  have hn1 := hname.size
  have hn2 := hsec.size
  have hq := q.toNat_lt
  refine enter (args := [_, _, _, _]) (fn := Tryz.f80) ⟨Tryz.func80, rfl, by kernel_rfl, by kernel_rfl⟩ 33 rfl ?_
  refine x_seq (x_region ?_)
  refine tl_e rfl (e_box rfl (fun b1 => ?_))
  refine tl_e rfl (e_box rfl (fun b2 => ?_))
  refine tl_y rfl (y_assign rfl) ?_
  refine tl_nil (.then_normal ?_)
  refine x_seq (x_seq (x_region ?_))
  refine tl_y rfl (y_loadAgg rfl rfl (.own inferInstance inferInstance)) ?_
  refine tl_y rfl (y_loadAgg rfl rfl (.own inferInstance inferInstance)) ?_
  refine tl_e rfl (e_call' rfl (RoMay_spec o) ?_)
  rintro _ _ _ _ ⟨rfl, rfl, rfl⟩
  refine tl_y rfl (y_notd rfl) ?_
  refine tl_nil (.then_normal ?_)
  refine .sub (F' := [(2, _), (3, _), (4, _), (5, _), (13, _)]) (.cons rfl (.cons rfl (.cons rfl (.cons rfl (.cons rfl .nil))))) ?_
  refine x_cond rfl (fun hc1 => ?_) (fun hc1 => ?_)
  ·
    refine x_seq (x_region ?_)
    refine tl_y rfl (y_assign rfl) ?_
    refine tl_nil (.then_normal ?_)
    refine .sub (F' := [(8, _)]) (.cons rfl .nil) ?_
    refine x_ret (.then_ret (.dropTo L inferInstance (ret1 rfl rfl (Le.refl _) ⟨rfl, _, _, _, rfl, by rw [if_neg hc1]; exact Row.nil _ _⟩)))
  ·
    have hok : okY o nl sl := Classical.not_not.1 hc1
    obtain ⟨n, w, p, ho⟩ := okO_facts hok.1
    have hn32 := ho.n32
    have hn := ho.hn
    have hsl := hok.2.2
    have hnl := hok.2.1
    refine x_skip (.then_normal ?_)
    refine x_seq ?_
    have he : Le M M := Le.refl _
    refine x_draw 14 hmix rfl ?_
    refine to_p 0 rfl (by kernel_rfl) rfl (y_fieldAddr rfl) ?_
    refine to_y 1 rfl (by kernel_rfl) rfl (y_load rfl rfl (.own inferInstance inferInstance)) ?_
    refine to_p 2 rfl (by kernel_rfl) rfl (y_move (v := .int _ _) rfl) ?_
    refine to_p 3 rfl (by kernel_rfl) rfl (y_convN64 rfl (by omega)) ?_
    refine to_p 5 rfl (by kernel_rfl) rfl (y_move (v := .int _ _) rfl) ?_
    refine to_p 6 rfl (by kernel_rfl) rfl (y_convN64 rfl (by omega)) ?_
    refine to_p 9 rfl (by kernel_rfl) rfl (y_fieldAddr rfl) ?_
    refine to_y 10 rfl (by kernel_rfl) rfl (y_load rfl rfl (.own inferInstance inferInstance)) ?_
    refine to_two 4 8 (by kernel_rfl) ?_ ?_
    ·
      refine two_e 4 rfl rfl (e_call' rfl (RPutV_spec q.toNat 4 (by omega) (by omega)) ?_)
      rintro _ M2 _ hM2 ⟨rfl, A2, c2, rfl, hA2⟩
      replace he := he.trans hM2
      refine ⟨⟨(by first | exact Le.refl _ | assumption), Keeps.mem⟩, ?_⟩
      refine to_two 7 8 (by kernel_rfl) ?_ ?_
      ·
        refine two_e 7 rfl rfl (e_call' rfl (RPutV_spec d 2 (by omega) (by omega)) ?_)
        rintro _ M3 _ hM3 ⟨rfl, A3, c3, rfl, hA3⟩
        replace he := he.trans hM3
        refine ⟨⟨(by first | exact Le.refl _ | assumption), Keeps.mem⟩, ?_⟩
        refine to_e 8 rfl (by kernel_rfl) rfl (e_buildSlice rfl (by decide) (fun b7 => ?_))
        refine ⟨⟨he, Keeps.mem⟩, ?_⟩
        refine .pub b7 inferInstance (fun M4 hM4 hb7 => ?_)
        replace he := he.trans hM4
        refine to_e 11 rfl (by kernel_rfl) rfl (e_buildSlice rfl (by decide) (fun b8 => ?_))
        refine ⟨⟨he, Keeps.mem⟩, ?_⟩
        refine .pub b8 inferInstance (fun M5 hM5 hb8 => ?_)
        replace he := he.trans hM5
        have hA4 : Bytes M4 (some ⟨b7, 0, none⟩) 1 1 [255] := Row.whole hb7 rfl (by omega)
        have hA2' : Bytes M5 A2 4 c2 (putB q.toNat 4) := hA2.mono (by first | exact hM3.trans (hM4.trans hM5) | exact hM4.trans (hM3.trans hM5) | exact hM3.trans hM5)
        have hA3' : Bytes M5 A3 2 c3 (putB d 2) := hA3.mono (by first | exact hM4.trans hM5 | exact hM5 | exact hM2.trans (hM4.trans hM5) | exact hM2.trans hM5)
        have hA4' : Bytes M5 (some ⟨b7, 0, none⟩) 1 1 [255] := hA4.mono (by first | exact hM5 | exact hM3.trans hM5 | exact hM2.trans (hM3.trans hM5))
        have hfl : [name, putB q.toNat 4, putB d 2, [255], sec].flatten = name ++ (putB q.toNat 4 ++ (putB d 2 ++ (255 :: sec))) := by simp
        have hfll : (name ++ (putB q.toNat 4 ++ (putB d 2 ++ (255 :: sec)))).length = nl + 7 + sl := by rw [List.length_append, List.length_append, List.length_append, putB_length, putB_length, List.length_cons]; omega
        refine to_e 12 rfl (by kernel_rfl) rfl (e_call' rfl (RCat_own (Row.whole hb8 rfl (by omega)) (.cons (hname.mono he) (.cons hA2' (.cons hA3' (.cons hA4' (.cons (hsec.mono he) .nil))))) (by rw [hfl, hfll]; omega)) ?_)
        rintro _ _ _ _ ⟨rfl, A6, c6, E6, rfl, hE6, rfl⟩
        rw [hfl, hfll] at hE6
        rw [hfl, hfll]
        refine ⟨⟨he, Keeps.mem⟩, ?_⟩
        refine .pubRow hE6 (fun M6 hM6 hA6 => ?_)
        replace he := he.trans hM6
        refine to_p 13 rfl (by kernel_rfl) rfl (y_assign (v := .slice _ _ _) rfl) ?_
        refine to_nil (by kernel_rfl) (.then_normal ?_)
        refine .sub (F' := [(4, _), (9, _)]) (.cons rfl (.cons rfl .nil)) ?_
        refine x_seq (x_region ?_)
        refine tl_y rfl (y_fieldAddr rfl) ?_
        refine tl_y rfl (y_load rfl rfl (.own inferInstance inferInstance)) ?_
        refine tl_y rfl (y_fieldAddr rfl) ?_
        refine tl_y rfl (y_load rfl rfl (.own inferInstance inferInstance)) ?_
        refine tl_y rfl (y_move (v := .slice _ _ _) rfl) ?_
        refine tl_e rfl (e_call' rfl (RSum_spec o.kind o.n (Row.in_ hA6) (by omega)) ?_)
        rintro _ M7 _ hM7 ⟨rfl, A7, m7, c7, rfl, hA7⟩
        replace he := he.trans hM7
        refine tl_y rfl (y_assign (v := .slice _ _ _) rfl) ?_
        refine tl_nil (.then_normal ?_)
        refine .sub (F' := [(8, _)]) (.cons rfl .nil) ?_
        refine x_ret (.dropTo L inferInstance (ret1 rfl rfl he ⟨rfl, _, _, _, rfl, by rw [if_pos hok]; exact hA7⟩))
      ·
        refine two_e 8 rfl rfl (e_buildSlice rfl (by decide) (fun b7 => ?_))
        refine ⟨⟨he, Keeps.mem⟩, ?_⟩
        refine .pub b7 inferInstance (fun M4 hM4 hb7 => ?_)
        replace he := he.trans hM4
        refine to_e 7 rfl (by kernel_rfl) rfl (e_call' rfl (RPutV_spec d 2 (by omega) (by omega)) ?_)
        rintro _ M3 _ hM3 ⟨rfl, A3, c3, rfl, hA3⟩
        replace he := he.trans hM3
        refine ⟨⟨(by first | exact Le.refl _ | assumption), Keeps.mem⟩, ?_⟩
        refine to_e 11 rfl (by kernel_rfl) rfl (e_buildSlice rfl (by decide) (fun b8 => ?_))
        refine ⟨⟨he, Keeps.mem⟩, ?_⟩
        refine .pub b8 inferInstance (fun M5 hM5 hb8 => ?_)
        replace he := he.trans hM5
        have hA4 : Bytes M4 (some ⟨b7, 0, none⟩) 1 1 [255] := Row.whole hb7 rfl (by omega)
        have hA2' : Bytes M5 A2 4 c2 (putB q.toNat 4) := hA2.mono (by first | exact hM3.trans (hM4.trans hM5) | exact hM4.trans (hM3.trans hM5) | exact hM3.trans hM5)
        have hA3' : Bytes M5 A3 2 c3 (putB d 2) := hA3.mono (by first | exact hM4.trans hM5 | exact hM5 | exact hM2.trans (hM4.trans hM5) | exact hM2.trans hM5)
        have hA4' : Bytes M5 (some ⟨b7, 0, none⟩) 1 1 [255] := hA4.mono (by first | exact hM5 | exact hM3.trans hM5 | exact hM2.trans (hM3.trans hM5))
        have hfl : [name, putB q.toNat 4, putB d 2, [255], sec].flatten = name ++ (putB q.toNat 4 ++ (putB d 2 ++ (255 :: sec))) := by simp
        have hfll : (name ++ (putB q.toNat 4 ++ (putB d 2 ++ (255 :: sec)))).length = nl + 7 + sl := by rw [List.length_append, List.length_append, List.length_append, putB_length, putB_length, List.length_cons]; omega
        refine to_e 12 rfl (by kernel_rfl) rfl (e_call' rfl (RCat_own (Row.whole hb8 rfl (by omega)) (.cons (hname.mono he) (.cons hA2' (.cons hA3' (.cons hA4' (.cons (hsec.mono he) .nil))))) (by rw [hfl, hfll]; omega)) ?_)
        rintro _ _ _ _ ⟨rfl, A6, c6, E6, rfl, hE6, rfl⟩
        rw [hfl, hfll] at hE6
        rw [hfl, hfll]
        refine ⟨⟨he, Keeps.mem⟩, ?_⟩
        refine .pubRow hE6 (fun M6 hM6 hA6 => ?_)
        replace he := he.trans hM6
        refine to_p 13 rfl (by kernel_rfl) rfl (y_assign (v := .slice _ _ _) rfl) ?_
        refine to_nil (by kernel_rfl) (.then_normal ?_)
        refine .sub (F' := [(4, _), (9, _)]) (.cons rfl (.cons rfl .nil)) ?_
        refine x_seq (x_region ?_)
        refine tl_y rfl (y_fieldAddr rfl) ?_
        refine tl_y rfl (y_load rfl rfl (.own inferInstance inferInstance)) ?_
        refine tl_y rfl (y_fieldAddr rfl) ?_
        refine tl_y rfl (y_load rfl rfl (.own inferInstance inferInstance)) ?_
        refine tl_y rfl (y_move (v := .slice _ _ _) rfl) ?_
        refine tl_e rfl (e_call' rfl (RSum_spec o.kind o.n (Row.in_ hA6) (by omega)) ?_)
        rintro _ M7 _ hM7 ⟨rfl, A7, m7, c7, rfl, hA7⟩
        replace he := he.trans hM7
        refine tl_y rfl (y_assign (v := .slice _ _ _) rfl) ?_
        refine tl_nil (.then_normal ?_)
        refine .sub (F' := [(8, _)]) (.cons rfl .nil) ?_
        refine x_ret (.dropTo L inferInstance (ret1 rfl rfl he ⟨rfl, _, _, _, rfl, by rw [if_pos hok]; exact hA7⟩))
    ·
      refine two_e 8 rfl rfl (e_buildSlice rfl (by decide) (fun b7 => ?_))
      refine ⟨⟨he, Keeps.mem⟩, ?_⟩
      refine .pub b7 inferInstance (fun M4 hM4 hb7 => ?_)
      replace he := he.trans hM4
      refine to_e 4 rfl (by kernel_rfl) rfl (e_call' rfl (RPutV_spec q.toNat 4 (by omega) (by omega)) ?_)
      rintro _ M2 _ hM2 ⟨rfl, A2, c2, rfl, hA2⟩
      replace he := he.trans hM2
      refine ⟨⟨(by first | exact Le.refl _ | assumption), Keeps.mem⟩, ?_⟩
      refine to_e 7 rfl (by kernel_rfl) rfl (e_call' rfl (RPutV_spec d 2 (by omega) (by omega)) ?_)
      rintro _ M3 _ hM3 ⟨rfl, A3, c3, rfl, hA3⟩
      replace he := he.trans hM3
      refine ⟨⟨(by first | exact Le.refl _ | assumption), Keeps.mem⟩, ?_⟩
      refine to_e 11 rfl (by kernel_rfl) rfl (e_buildSlice rfl (by decide) (fun b8 => ?_))
      refine ⟨⟨he, Keeps.mem⟩, ?_⟩
      refine .pub b8 inferInstance (fun M5 hM5 hb8 => ?_)
      replace he := he.trans hM5
      have hA4 : Bytes M4 (some ⟨b7, 0, none⟩) 1 1 [255] := Row.whole hb7 rfl (by omega)
      have hA2' : Bytes M5 A2 4 c2 (putB q.toNat 4) := hA2.mono (by first | exact hM3.trans (hM4.trans hM5) | exact hM4.trans (hM3.trans hM5) | exact hM3.trans hM5)
      have hA3' : Bytes M5 A3 2 c3 (putB d 2) := hA3.mono (by first | exact hM4.trans hM5 | exact hM5 | exact hM2.trans (hM4.trans hM5) | exact hM2.trans hM5)
      have hA4' : Bytes M5 (some ⟨b7, 0, none⟩) 1 1 [255] := hA4.mono (by first | exact hM5 | exact hM3.trans hM5 | exact hM2.trans (hM3.trans hM5))
      have hfl : [name, putB q.toNat 4, putB d 2, [255], sec].flatten = name ++ (putB q.toNat 4 ++ (putB d 2 ++ (255 :: sec))) := by simp
      have hfll : (name ++ (putB q.toNat 4 ++ (putB d 2 ++ (255 :: sec)))).length = nl + 7 + sl := by rw [List.length_append, List.length_append, List.length_append, putB_length, putB_length, List.length_cons]; omega
      refine to_e 12 rfl (by kernel_rfl) rfl (e_call' rfl (RCat_own (Row.whole hb8 rfl (by omega)) (.cons (hname.mono he) (.cons hA2' (.cons hA3' (.cons hA4' (.cons (hsec.mono he) .nil))))) (by rw [hfl, hfll]; omega)) ?_)
      rintro _ _ _ _ ⟨rfl, A6, c6, E6, rfl, hE6, rfl⟩
      rw [hfl, hfll] at hE6
      rw [hfl, hfll]
      refine ⟨⟨he, Keeps.mem⟩, ?_⟩
      refine .pubRow hE6 (fun M6 hM6 hA6 => ?_)
      replace he := he.trans hM6
      refine to_p 13 rfl (by kernel_rfl) rfl (y_assign (v := .slice _ _ _) rfl) ?_
      refine to_nil (by kernel_rfl) (.then_normal ?_)
      refine .sub (F' := [(4, _), (9, _)]) (.cons rfl (.cons rfl .nil)) ?_
      refine x_seq (x_region ?_)
      refine tl_y rfl (y_fieldAddr rfl) ?_
      refine tl_y rfl (y_load rfl rfl (.own inferInstance inferInstance)) ?_
      refine tl_y rfl (y_fieldAddr rfl) ?_
      refine tl_y rfl (y_load rfl rfl (.own inferInstance inferInstance)) ?_
      refine tl_y rfl (y_move (v := .slice _ _ _) rfl) ?_
      refine tl_e rfl (e_call' rfl (RSum_spec o.kind o.n (Row.in_ hA6) (by omega)) ?_)
      rintro _ M7 _ hM7 ⟨rfl, A7, m7, c7, rfl, hA7⟩
      replace he := he.trans hM7
      refine tl_y rfl (y_assign (v := .slice _ _ _) rfl) ?_
      refine tl_nil (.then_normal ?_)
      refine .sub (F' := [(8, _)]) (.cons rfl .nil) ?_
      refine x_ret (.dropTo L inferInstance (ret1 rfl rfl he ⟨rfl, _, _, _, rfl, by rw [if_pos hok]; exact hA7⟩))
end
end Go.Proofs.YtiimjodbaogjbaaGreatDoor
