/-
Contracts of functions, each proved by a walk through its code.
-/
import Derived.Test.YtbgdjdhbejbhkaaDoorBase
import Derived.Test.YtbgdjdhbejbhkaaDoorEngL
set_option linter.unusedVariables false
set_option linter.unusedSimpArgs false
namespace Go.Proofs.YtbgdjdhbejbhkaaDoor
open Go Go.Eng
section
variable {G : World} {M : Mem} {L : Own}
theorem growBytes_spec (n : Int) (hn : 0 ≤ n ∧ n ≤ 1099511627776) :
    Con Tryd.prog 148 #[.slice none 0 0, .int .i64 n] G M L (fun v M' L' => M = M' ∧ ∃ A cap E, v = .slice A 0 cap ∧ OwnRow 5 1 A 0 cap [] E ∧ L' = E ++ L) noPanic := by
  refine enter (args := [_, _]) (fn := Tryd.f148) ⟨Tryd.func148, rfl, by kernel_rfl, by kernel_rfl⟩ 27 rfl ?_
  refine x_seq (x_region ?_)
  refine tl_y rfl (y_assign rfl) ?_
  refine tl_nil (.then_normal ?_)
  refine x_seq (x_seq (x_region ?_))
  refine tl_y rfl (y_move (v := .int _ _) rfl) ?_
  refine tl_y rfl (y_lss rfl rfl) ?_
  refine tl_nil (.then_normal ?_)
  refine x_cond rfl (fun hc1 => ?_) (fun hc1 => ?_)
  ·
    omega
  ·
    refine x_skip (.then_normal ?_)
    refine x_seq (x_seq (x_region ?_))
    refine tl_y rfl (y_move (v := .int _ _) rfl) ?_
    refine tl_y rfl (y_move (v := .slice _ _ _) rfl) ?_
    refine tl_y rfl (y_cap rfl) ?_
    refine tl_y rfl (y_move (v := .slice _ _ _) rfl) ?_
    refine tl_y rfl (y_len rfl) ?_
    refine tl_y rfl (y_subI rfl rfl (by omega)) ?_
    refine tl_y rfl (y_subI rfl rfl (by omega)) ?_
    refine tl_y rfl (y_assign (v := .int _ _) rfl) ?_
    refine tl_nil (.then_normal ?_)
    refine .sub (F' := [(0, _), (1, _)]) (.cons rfl (.cons rfl .nil)) ?_
    refine x_seq (x_region ?_)
    refine tl_y rfl (y_move (v := .int _ _) rfl) ?_
    refine tl_y rfl (y_gtr rfl rfl) ?_
    refine tl_nil (.then_normal ?_)
    refine x_cond rfl (fun hc2 => ?_) (fun hc2 => ?_)
    ·
      refine x_region ?_
      refine tl_y rfl (y_move (v := .slice _ _ _) rfl) ?_
      refine tl_y rfl (y_move (v := .slice _ _ _) rfl) ?_
      refine tl_y rfl (y_cap rfl) ?_
      refine tl_y rfl (y_sliceH rfl rfl (by omega) (by omega)) ?_
      refine tl_y rfl (y_move (v := .int _ _) rfl) ?_
      refine tl_e rfl (e_appendZ rfl rfl (by omega) (by omega) (fun A cap E hE => ?_))
      refine tl_y rfl (y_move (v := .slice _ _ _) rfl) ?_
      refine tl_y rfl (y_len rfl) ?_
      refine tl_y rfl (y_sliceH rfl rfl (by omega) (by omega)) ?_
      refine tl_y rfl (y_assign (v := .slice _ _ _) rfl) ?_
      refine tl_nil (.then_normal ?_)
      refine .sub (F' := [(0, _)]) (.cons rfl .nil) ?_
      refine x_seq (x_region ?_)
      refine tl_y rfl (y_move (v := .slice _ _ _) rfl) ?_
      refine tl_y rfl (y_assign (v := .slice _ _ _) rfl) ?_
      refine tl_nil (.then_normal ?_)
      refine x_ret (ret1 rfl rfl (Le.refl _) ⟨rfl, _, _, _, rfl, hE.cut0, rfl⟩)
    ·
      refine x_skip (.then_normal ?_)
      refine x_seq (x_region ?_)
      refine tl_y rfl (y_move (v := .slice _ _ _) rfl) ?_
      refine tl_y rfl (y_assign (v := .slice _ _ _) rfl) ?_
      refine tl_nil (.then_normal ?_)
      refine .sub (F' := [(4, _)]) (.cons rfl .nil) ?_
      refine x_ret (ret1 rfl rfl (Le.refl _) ⟨rfl, none, 0, [], rfl, OwnRow.nil, rfl⟩)
theorem concatBytes_spec {A : Option Addr} {n c : Nat} {vs : List Value} {bss : List (List UInt8)} (h : Row M 1 A n c vs) (hb : BRows M vs bss) (hn : bss.flatten.length ≤ 1099511627776) :
    Con Tryd.prog 123 #[.slice A n c] G M L (fun v M' L' => L' = L ∧ ∃ A' c', v = .slice A' bss.flatten.length c' ∧ Bytes M' A' bss.flatten.length c' bss.flatten) noPanic := by
  have hvl := hb.len
  have hnl : vs.length = n := by have := h.len; omega
  have hmx := h.max
  have hle := h.le
  refine enter (args := [_]) (fn := Tryd.f123) ⟨Tryd.func123, rfl, by kernel_rfl, by kernel_rfl⟩ 36 rfl ?_
  refine x_seq (x_region ?_)
  refine tl_y rfl (y_assign rfl) ?_
  refine tl_nil (.then_normal ?_)
  refine x_seq (x_region ?_)
  refine tl_y rfl (y_assign rfl) ?_
  refine tl_nil (.then_normal ?_)
  refine x_seq (x_seq (x_region ?_))
  refine tl_y rfl (y_move (v := .slice _ _ _) rfl) ?_
  refine tl_y rfl (y_len rfl) ?_
  refine tl_y rfl (y_move rfl) ?_
  refine tl_nil (.then_normal ?_)
  refine x_block ?_
  refine x_loop (I := fun m' F D M1 L1 => ∃ k : Nat, m' = n - k ∧ k ≤ n ∧ M = M1 ∧ D = [] ∧ L = L1 ∧ F = [(0, .slice A n c), (3, .int .i64 ((bss.take k).flatten.length : Nat)), (9, .slice A n c), (10, .int .i64 n), (11, .int .i64 k)]) (n) (F0 := [(0, _), (3, _), (9, _), (10, _), (11, _)]) ?_ (.cons rfl (.cons rfl (.cons rfl (.cons rfl (.cons rfl .nil))))) ?_  -- slots [0, 3, 9, 10, 11], written [3, 11]
  · exact ⟨0, rfl, by omega, rfl, rfl, rfl, rfl⟩
  rintro m _ _ M1 L1 ⟨k, rfl, hk, rfl, rfl, rfl, rfl⟩
  refine x_seq (x_region ?_)
  refine tl_y rfl (y_lss rfl rfl) ?_
  refine tl_nil (.then_normal ?_)
  refine x_seq ?_
  refine x_cond rfl (fun hc1 => ?_) (fun hc1 => ?_)
  ·
    have hkn : k < n := by omega
    obtain ⟨g, o, rfl, hcell⟩ := h.addr (by omega)
    obtain ⟨A1, n1, c1, hv1, hb1⟩ := hb.get k (by omega)
    have hn1 := hb1.size
    have hf1 := flatten_take_le bss (k + 1)
    have hf2 : (bss.take (k + 1)).flatten.length = (bss.take k).flatten.length + n1 := by
      rw [take_snoc bss k [] (by omega), List.flatten_append, List.length_append, List.flatten_singleton, hn1]
    refine x_skip (.then_normal ?_)
    refine x_seq ?_
    refine x_block ?_
    refine x_seq (x_region ?_)
    refine tl_y rfl (y_indexAddr rfl rfl (by omega)) ?_
    refine tl_y rfl (y_load rfl rfl (.at_ (hcell L k _ hv1) (by omega))) ?_
    refine tl_y rfl (y_assign (v := .slice _ _ _) rfl) ?_
    refine tl_nil (.then_normal ?_)
    refine x_seq (x_region ?_)
    refine tl_y rfl (y_move (v := .int _ _) rfl) ?_
    refine tl_y rfl (y_move (v := .slice _ _ _) rfl) ?_
    refine tl_y rfl (y_len rfl) ?_
    refine tl_y rfl (y_addI rfl rfl (by omega)) ?_
    refine tl_y rfl (y_assign (v := .int _ _) rfl) ?_
    refine tl_nil (.then_normal ?_)
    refine .sub (F' := [(0, _), (3, _), (9, _), (10, _), (11, _)]) (.cons rfl (.cons rfl (.cons rfl (.cons rfl (.cons rfl .nil))))) ?_
    refine x_seq (x_region ?_)
    refine tl_y rfl (y_move (v := .int _ _) rfl) ?_
    refine tl_y rfl (y_lss rfl rfl) ?_
    refine tl_nil (.then_normal ?_)
    refine x_cond rfl (fun hc2 => ?_) (fun hc2 => ?_)
    ·
      omega
    ·
      refine x_skip (.block_normal (.then_normal ?_))
      refine x_region ?_
      refine tl_y rfl (y_addI rfl rfl (by omega)) ?_
      refine tl_y rfl (y_move (v := .int _ _) rfl) ?_
      refine tl_nil (.loop_next (m' := n - (k + 1)) (by omega) (F' := [(0, _), (3, _), (9, _), (10, _), (11, _)]) (.cons rfl (.cons rfl (.cons rfl (.cons rfl (.cons rfl .nil))))) ?_)
      exact ⟨k + 1, rfl, by omega, rfl, rfl, rfl, by rw [hf2]; rfl⟩
  ·
    refine x_exit (.then_exit (.loop_exit (.block_exit (.then_normal ?_))))
    refine .sub (F' := [(0, _), (3, _)]) (.cons rfl (.cons rfl .nil)) ?_
    refine x_seq (x_region ?_)
    refine tl_y rfl (y_move (v := .int _ _) rfl) ?_
    refine tl_e rfl (e_call' rfl (growBytes_spec _ (by have := flatten_take_le bss k; omega)) ?_)
    rintro _ M2 L2 hM2 ⟨rfl, A0, cap0, E0, rfl, hE0, rfl⟩
    refine tl_y rfl (y_assign (v := .slice _ _ _) rfl) ?_
    refine tl_nil (.then_normal ?_)
    refine x_seq (x_seq (x_region ?_))
    refine tl_y rfl (y_move (v := .slice _ _ _) rfl) ?_
    refine tl_y rfl (y_len rfl) ?_
    refine tl_y rfl (y_move rfl) ?_
    refine tl_nil (.then_normal ?_)
    refine .sub (F' := [(6, _), (25, _), (26, _), (27, _)]) (.cons rfl (.cons rfl (.cons rfl (.cons rfl .nil)))) ?_
    refine x_block ?_
    refine x_loop (I := fun m' F D M1 L1 => ∃ (k : Nat) (A2 : Option Addr) (cap2 : Nat) (E : Own), m' = n - k ∧ k ≤ n ∧ M = M1 ∧ D = [] ∧ OwnRow 5 1 A2 (bss.take k).flatten.length cap2 ((bss.take k).flatten.map bv) E ∧ L1 = E ++ L ∧ F = [(6, .slice A2 (bss.take k).flatten.length cap2), (25, .slice A n c), (26, .int .i64 n), (27, .int .i64 k)]) (n) (F0 := [(6, _), (25, _), (26, _), (27, _)]) ?_ (.cons rfl (.cons rfl (.cons rfl (.cons rfl .nil)))) ?_  -- slots [6, 25, 26, 27], written [6, 27]
    · exact ⟨0, A0, cap0, E0, rfl, by omega, rfl, rfl, hE0, rfl, rfl⟩
    rintro m _ _ M1 L1 ⟨k, A2, cap2, E, rfl, hk, rfl, rfl, hE, rfl, rfl⟩
    refine x_seq (x_region ?_)
    refine tl_y rfl (y_lss rfl rfl) ?_
    refine tl_nil (.then_normal ?_)
    refine x_seq ?_
    refine x_cond rfl (fun hc3 => ?_) (fun hc3 => ?_)
    ·
      have hkn : k < n := by omega
      obtain ⟨g, o, rfl, hcell⟩ := h.addr (by omega)
      obtain ⟨A1, n1, c1, hv1, hb1⟩ := hb.get k (by omega)
      have hn1 := hb1.size
      have hf1 := flatten_take_le bss (k + 1)
      have hf2 : (bss.take (k + 1)).flatten.length = (bss.take k).flatten.length + n1 := by
        rw [take_snoc bss k [] (by omega), List.flatten_append, List.length_append, List.flatten_singleton, hn1]
      have hf3 : (bss.take (k + 1)).flatten = (bss.take k).flatten ++ bss.getD k [] := by
        rw [take_snoc bss k [] (by omega), List.flatten_append, List.flatten_singleton]
      refine x_skip (.then_normal ?_)
      refine x_seq ?_
      refine x_block ?_
      refine x_seq (x_region ?_)
      refine tl_y rfl (y_indexAddr rfl rfl (by omega)) ?_
      refine tl_y rfl (y_load rfl rfl (.at_ (hcell _ k _ hv1) (by omega))) ?_
      refine tl_y rfl (y_assign (v := .slice _ _ _) rfl) ?_
      refine tl_nil (.then_normal ?_)
      refine x_region ?_
      refine tl_y rfl (y_move (v := .slice _ _ _) rfl) ?_
      refine tl_y rfl (y_move (v := .slice _ _ _) rfl) ?_
      refine tl_e rfl (e_append (E := E) (by decide) rfl rfl hE (.row hb1) (all_one_bv _) (by omega) (by omega) (fun A3 cap3 E3 hE3 => ?_))
      rw [← hf2, ← List.map_append, ← hf3] at hE3
      rw [← hf2]
      refine tl_y rfl (y_assign (v := .slice _ _ _) rfl) ?_
      refine tl_nil (.block_normal (.then_normal ?_))
      refine .sub (F' := [(6, _), (25, _), (26, _), (27, _)]) (.cons rfl (.cons rfl (.cons rfl (.cons rfl .nil)))) ?_
      refine x_region ?_
      refine tl_y rfl (y_addI rfl rfl (by omega)) ?_
      refine tl_y rfl (y_move (v := .int _ _) rfl) ?_
      refine tl_nil (.loop_next (m' := n - (k + 1)) (by omega) (F' := [(6, _), (25, _), (26, _), (27, _)]) (.cons rfl (.cons rfl (.cons rfl (.cons rfl .nil)))) ?_)
      exact ⟨k + 1, A3, cap3, E3, rfl, by omega, rfl, rfl, hE3, rfl, rfl⟩
    ·
      refine x_exit (.then_exit (.loop_exit (.block_exit (.then_normal ?_))))
      refine .sub (F' := [(6, _)]) (.cons rfl .nil) ?_
      refine x_seq (x_region ?_)
      refine tl_y rfl (y_move (v := .slice _ _ _) rfl) ?_
      refine tl_y rfl (y_assign (v := .slice _ _ _) rfl) ?_
      refine tl_nil (.then_normal ?_)
      refine x_ret (.pubRow hE fun M' hle hr => ret1 rfl rfl hle ?_)
      have hkn : k = bss.length := by omega
      subst hkn
      rw [List.take_length] at hr ⊢
      exact ⟨rfl, _, _, rfl, hr⟩
end
end Go.Proofs.YtbgdjdhbejbhkaaDoor
