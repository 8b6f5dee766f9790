/-
Contracts of functions, each proved by a walk through its code.
-/
import Derived.Test.YtbgdjdhbejbhkaaDoorLib
set_option linter.unusedVariables false
set_option linter.unusedSimpArgs false
namespace Go.Proofs.YtbgdjdhbejbhkaaDoor
open Go Go.Eng
section
variable {G : World} {M : Mem} {L : Own}
def eqTo (a b : List UInt8) (k : Nat) : Prop := ∀ j, j < k → a.getD j 0 = b.getD j 0
theorem same_spec {a b : List UInt8} {A B : Option Addr} {n c m d : Nat} (ha : Bytes M A n c a) (hb : Bytes M B m d b) :
    Con Tryd.prog 30 #[.slice A n c, .slice B m d] G M L (fun v M' L' => M = M' ∧ L = L' ∧ v = .bool (decide (a = b))) noPanic := by
  have hla := ha.size
  have hlb := hb.size
  have hmx := ha.max
  have hmle := ha.le
  refine enter (args := [_, _]) (fn := Tryd.f30) ⟨Tryd.func30, rfl, by kernel_rfl, by kernel_rfl⟩ 26 rfl ?_
  refine x_seq (x_region ?_)
  refine tl_y rfl (y_assign rfl) ?_
  refine tl_nil (.then_normal ?_)
  refine x_seq (x_seq (x_region ?_))
  refine tl_y rfl (y_move (v := .slice _ _ _) rfl) ?_
  refine tl_y rfl (y_len rfl) ?_
  refine tl_y rfl (y_move (v := .slice _ _ _) rfl) ?_
  refine tl_y rfl (y_len rfl) ?_
  refine tl_y rfl (y_neq rfl rfl) ?_
  refine tl_nil (.then_normal ?_)
  refine .sub (F' := [(0, _), (1, _), (4, _), (10, _)]) (.cons rfl (.cons rfl (.cons rfl (.cons rfl .nil)))) ?_
  refine x_cond rfl (fun hc1 => ?_) (fun hc1 => ?_)
  ·
    refine x_seq (x_region ?_)
    refine tl_y rfl (y_assign rfl) ?_
    refine tl_nil (.then_normal ?_)
    refine x_ret (.then_ret (ret1 rfl rfl (Le.refl _) ⟨rfl, rfl, by rw [decide_eq_false]; rintro rfl; omega⟩))
  ·
    obtain rfl : n = m := by omega
    refine x_skip (.then_normal ?_)
    refine x_seq (x_seq (x_region ?_))
    refine tl_y rfl (y_assign rfl) ?_
    refine tl_nil (.then_normal ?_)
    refine x_block ?_
    refine x_loop (I := fun m' F D M1 L1 => ∃ k : Nat, m' = n - k ∧ k ≤ n ∧ eqTo a b k ∧ D = [] ∧ M = M1 ∧ L = L1 ∧ F = [(0, .slice A n c), (1, .slice B n d), (4, .bool false), (5, .int .i64 k)]) (n) (F0 := [(0, _), (1, _), (4, _), (5, _)]) ?_ (.cons rfl (.cons rfl (.cons rfl (.cons rfl .nil)))) ?_  -- slots [0, 1, 4, 5], written [4, 5]
    · exact ⟨0, rfl, by omega, (fun j h => by omega), rfl, rfl, rfl, rfl⟩
    rintro m _ _ M1 L1 ⟨k, rfl, hk, heq, rfl, rfl, rfl, rfl⟩
    refine x_seq (x_seq (x_region ?_))
    refine tl_y rfl (y_move (v := .int _ _) rfl) ?_
    refine tl_y rfl (y_move (v := .slice _ _ _) rfl) ?_
    refine tl_y rfl (y_len rfl) ?_
    refine tl_y rfl (y_lss rfl rfl) ?_
    refine tl_nil (.then_normal ?_)
    refine x_cond rfl (fun hc2 => ?_) (fun hc2 => ?_)
    ·
      have hkn : k < n := by omega
      obtain ⟨p, o, rfl, hca⟩ := ha.byte (by omega)
      obtain ⟨p', o', rfl, hcb⟩ := hb.byte (by omega)
      refine x_skip (.then_normal ?_)
      refine .sub (F' := [(0, _), (1, _), (4, _), (5, _)]) (.cons rfl (.cons rfl (.cons rfl (.cons rfl .nil)))) ?_
      refine x_seq ?_
      refine x_block ?_
      refine x_seq ?_
      refine x_draw 9 hmix rfl ?_
      refine to_p 0 rfl (by kernel_rfl) rfl (y_move (v := .slice _ _ _) rfl) ?_
      refine to_p 1 rfl (by kernel_rfl) rfl (y_move (v := .int _ _) rfl) ?_
      refine to_p 2 rfl (by kernel_rfl) rfl (y_indexAddr rfl rfl (by omega)) ?_
      refine to_y 3 rfl (by kernel_rfl) rfl (y_load rfl rfl (.at_ (hca _ k hkn) (by omega))) ?_
      refine to_p 4 rfl (by kernel_rfl) rfl (y_move (v := .slice _ _ _) rfl) ?_
      refine to_p 5 rfl (by kernel_rfl) rfl (y_move (v := .int _ _) rfl) ?_
      refine to_p 6 rfl (by kernel_rfl) rfl (y_indexAddr rfl rfl (by omega)) ?_
      refine to_y 7 rfl (by kernel_rfl) rfl (y_load rfl rfl (.at_ (hcb _ k hkn) (by omega))) ?_
      refine to_p 8 rfl (by kernel_rfl) rfl (y_neq rfl rfl) ?_
      refine to_nil (by kernel_rfl) (.then_normal ?_)
      refine .sub (F' := [(0, _), (1, _), (4, _), (5, _), (25, _)]) (.cons rfl (.cons rfl (.cons rfl (.cons rfl (.cons rfl .nil))))) ?_
      refine x_cond rfl (fun hc3 => ?_) (fun hc3 => ?_)
      ·
        refine x_seq (x_region ?_)
        refine tl_y rfl (y_assign rfl) ?_
        refine tl_nil (.then_normal ?_)
        refine x_ret (.block_ret (.then_ret (.loop_ret (.block_ret (.then_ret (ret1 rfl rfl (Le.refl _) ⟨rfl, rfl, by rw [decide_eq_false]; rintro rfl; exact hc3 rfl⟩))))))
      ·
        refine x_skip (.block_normal (.then_normal ?_))
        refine x_region ?_
        refine tl_y rfl (y_move (v := .int _ _) rfl) ?_
        refine tl_y rfl (y_addI rfl rfl (by omega)) ?_
        refine tl_y rfl (y_assign (v := .int _ _) rfl) ?_
        refine tl_nil (.loop_next (m' := n - (k + 1)) (by omega) (F' := [(0, _), (1, _), (4, _), (5, _)]) (.cons rfl (.cons rfl (.cons rfl (.cons rfl .nil)))) ?_)
        exact ⟨k + 1, rfl, by omega, (fun j hj => by
  rcases Nat.lt_or_ge j k with hlt | hge
  · exact heq j hlt
  · obtain rfl : j = k := by omega
    exact UInt8.toNat_inj.1 (by omega)), rfl, rfl, rfl, rfl⟩
    ·
      refine x_exit (.then_exit (.loop_exit (.block_exit (.then_normal ?_))))
      refine .sub (F' := []) .nil ?_
      refine x_seq (x_region ?_)
      refine tl_y rfl (y_assign rfl) ?_
      refine tl_nil (.then_normal ?_)
      refine x_ret (ret1 rfl rfl (Le.refl _) ⟨rfl, rfl, by
  rw [decide_eq_true]
  apply List.ext_getElem (by omega)
  intro i h1 h2
  have := heq i (by omega)
  simpa [List.getD_eq_getElem?_getD, h1, h2] using this⟩)
theorem all_spec {A B : Option Addr} {n c m d : Nat} {va vb : List Value} {a b : List (List UInt8)} (ha : Row M 1 A n c va) (hb : RowIn M L 1 B m vb) (hra : BRows M va a) (hrb : BRows M vb b) :
    Con Tryd.prog 45 #[.slice A n c, .slice B m d] G M L (fun v M' L' => M = M' ∧ L = L' ∧ v = .bool (decide (a = b))) noPanic := by
  have hla := ha.len
  have hlb := hb.len
  have hmx := ha.max
  have hmle := ha.le
  have hva := hra.len
  have hvb := hrb.len
  refine enter (args := [_, _]) (fn := Tryd.f45) ⟨Tryd.func45, rfl, by kernel_rfl, by kernel_rfl⟩ 27 rfl ?_
  refine x_seq (x_region ?_)
  refine tl_y rfl (y_assign rfl) ?_
  refine tl_nil (.then_normal ?_)
  refine x_seq (x_seq (x_region ?_))
  refine tl_y rfl (y_move (v := .slice _ _ _) rfl) ?_
  refine tl_y rfl (y_len rfl) ?_
  refine tl_y rfl (y_move (v := .slice _ _ _) rfl) ?_
  refine tl_y rfl (y_len rfl) ?_
  refine tl_y rfl (y_neq rfl rfl) ?_
  refine tl_nil (.then_normal ?_)
  refine .sub (F' := [(0, _), (1, _), (4, _), (10, _)]) (.cons rfl (.cons rfl (.cons rfl (.cons rfl .nil)))) ?_
  refine x_cond rfl (fun hc1 => ?_) (fun hc1 => ?_)
  ·
    refine x_seq (x_region ?_)
    refine tl_y rfl (y_assign rfl) ?_
    refine tl_nil (.then_normal ?_)
    refine x_ret (.then_ret (ret1 rfl rfl (Le.refl _) ⟨rfl, rfl, by rw [decide_eq_false]; rintro rfl; omega⟩))
  ·
    obtain rfl : n = m := by omega
    refine x_skip (.then_normal ?_)
    refine x_seq (x_seq (x_region ?_))
    refine tl_y rfl (y_assign rfl) ?_
    refine tl_nil (.then_normal ?_)
    refine x_block ?_
    refine x_loop (I := fun m' F D M1 L1 => ∃ k : Nat, m' = n - k ∧ k ≤ n ∧ (∀ j, j < k → a.getD j [] = b.getD j []) ∧ D = [] ∧ M = M1 ∧ L = L1 ∧ F = [(0, .slice A n c), (1, .slice B n d), (4, .bool false), (5, .int .i64 k)]) (n) (F0 := [(0, _), (1, _), (4, _), (5, _)]) ?_ (.cons rfl (.cons rfl (.cons rfl (.cons rfl .nil)))) ?_  -- slots [0, 1, 4, 5], written [4, 5]
    · exact ⟨0, rfl, by omega, (fun j h => by omega), rfl, rfl, rfl, rfl⟩
    rintro m _ _ M1 L1 ⟨k, rfl, hk, heq, rfl, rfl, rfl, rfl⟩
    refine x_seq (x_seq (x_region ?_))
    refine tl_y rfl (y_move (v := .int _ _) rfl) ?_
    refine tl_y rfl (y_move (v := .slice _ _ _) rfl) ?_
    refine tl_y rfl (y_len rfl) ?_
    refine tl_y rfl (y_lss rfl rfl) ?_
    refine tl_nil (.then_normal ?_)
    refine x_cond rfl (fun hc2 => ?_) (fun hc2 => ?_)
    ·
      have hkn : k < n := by omega
      obtain ⟨p, o, rfl, hca⟩ := ha.addr (by omega)
      obtain ⟨p', o', rfl, hcb⟩ := hb.addr (by omega)
      obtain ⟨A1, n1, c1, hv1, hb1⟩ := hra.get k (by omega)
      obtain ⟨A2, n2, c2, hv2, hb2⟩ := hrb.get k (by omega)
      refine x_skip (.then_normal ?_)
      refine .sub (F' := [(0, _), (1, _), (4, _), (5, _)]) (.cons rfl (.cons rfl (.cons rfl (.cons rfl .nil)))) ?_
      refine x_seq ?_
      refine x_block ?_
      refine x_seq ?_
      refine x_draw 10 hmix rfl ?_
      refine to_p 0 rfl (by kernel_rfl) rfl (y_move (v := .slice _ _ _) rfl) ?_
      refine to_p 1 rfl (by kernel_rfl) rfl (y_move (v := .int _ _) rfl) ?_
      refine to_p 2 rfl (by kernel_rfl) rfl (y_indexAddr rfl rfl (by omega)) ?_
      refine to_y 3 rfl (by kernel_rfl) rfl (y_load rfl rfl (.at_ (hca _ k _ hv1) (by omega))) ?_
      refine to_p 4 rfl (by kernel_rfl) rfl (y_move (v := .slice _ _ _) rfl) ?_
      refine to_p 5 rfl (by kernel_rfl) rfl (y_move (v := .int _ _) rfl) ?_
      refine to_p 6 rfl (by kernel_rfl) rfl (y_indexAddr rfl rfl (by omega)) ?_
      refine to_y 7 rfl (by kernel_rfl) rfl (y_load rfl rfl (.at_ (hcb k _ hv2) (by omega))) ?_
      refine to_e 8 rfl (by kernel_rfl) rfl (e_call' rfl (same_spec hb1 hb2) ?_)
      rintro _ M2 L2 hM2 ⟨rfl, rfl, rfl⟩
      refine ⟨⟨(by first | exact Le.refl _ | assumption), Keeps.mem⟩, ?_⟩
      refine to_p 9 rfl (by kernel_rfl) rfl (y_notd rfl) ?_
      refine to_nil (by kernel_rfl) (.then_normal ?_)
      refine .sub (F' := [(0, _), (1, _), (4, _), (5, _), (26, _)]) (.cons rfl (.cons rfl (.cons rfl (.cons rfl (.cons rfl .nil))))) ?_
      refine x_cond rfl (fun hc3 => ?_) (fun hc3 => ?_)
      ·
        refine x_seq (x_region ?_)
        refine tl_y rfl (y_assign rfl) ?_
        refine tl_nil (.then_normal ?_)
        refine x_ret (.block_ret (.then_ret (.loop_ret (.block_ret (.then_ret (ret1 rfl rfl (Le.refl _) ⟨rfl, rfl, by rw [decide_eq_false]; rintro rfl; exact hc3 rfl⟩))))))
      ·
        refine x_skip (.block_normal (.then_normal ?_))
        refine x_region ?_
        refine tl_y rfl (y_move (v := .int _ _) rfl) ?_
        refine tl_y rfl (y_addI rfl rfl (by omega)) ?_
        refine tl_y rfl (y_assign (v := .int _ _) rfl) ?_
        refine tl_nil (.loop_next (m' := n - (k + 1)) (by omega) (F' := [(0, _), (1, _), (4, _), (5, _)]) (.cons rfl (.cons rfl (.cons rfl (.cons rfl .nil)))) ?_)
        exact ⟨k + 1, rfl, by omega, (fun j hj => by
  rcases Nat.lt_or_ge j k with hlt | hge
  · exact heq j hlt
  · obtain rfl : j = k := by omega
    exact Classical.not_not.1 hc3), rfl, rfl, rfl, rfl⟩
    ·
      refine x_exit (.then_exit (.loop_exit (.block_exit (.then_normal ?_))))
      refine .sub (F' := []) .nil ?_
      refine x_seq (x_region ?_)
      refine tl_y rfl (y_assign rfl) ?_
      refine tl_nil (.then_normal ?_)
      refine x_ret (ret1 rfl rfl (Le.refl _) ⟨rfl, rfl, by
  rw [decide_eq_true]
  apply List.ext_getElem (by omega)
  intro i h1 h2
  have := heq i (by omega)
  simpa [List.getD_eq_getElem?_getD, h1, h2] using this⟩)
end
end Go.Proofs.YtbgdjdhbejbhkaaDoor
