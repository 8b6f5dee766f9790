/-
Contracts of functions, each proved by a walk through its code.
-/
import Derived.Test.YtiimjodbaogjbaaGreatDoorRef13Etc
import Derived.Test.YtiimjodbaogjbaaGreatDoorHss4Etc
import Derived.Test.YtiimjodbaogjbaaGreatDoorRef8Etc
import Derived.Test.YtiimjodbaogjbaaGreatDoorSetsEtc
import Derived.Test.YtiimjodbaogjbaaGreatDoorShakeEtc
import Derived.Test.YtiimjodbaogjbaaGreatDoorEngWEtc
import Derived.Test.YtiimjodbaogjbaaGreatDoorRef8bEtc
set_option linter.unusedVariables false
set_option linter.unusedSimpArgs false
set_option linter.constructorNameAsVariable false
namespace Go.Proofs.YtiimjodbaogjbaaGreatDoor
open Go Go.Eng
theorem flat_drop {α : Type} {f : α → List Value} {s : Nat} (hf : ∀ a, (f a).length = s) : ∀ (l : List α) (k : Nat), (l.drop k).flatMap f = (l.flatMap f).drop (k * s)
  | [], k => by simp
  | a :: l, 0 => by simp
  | a :: l, k + 1 => by
    have e : (f a).drop ((k + 1) * s) = [] := List.drop_of_length_le (by rw [hf, Nat.succ_mul]; omega)
    rw [List.drop_succ_cons, List.flatMap_cons, List.drop_append, hf, show (k + 1) * s - s = k * s by rw [Nat.succ_mul]; omega, e, List.nil_append]
    exact flat_drop hf l k
theorem okL_drop {l : List PairV} (h : okL l) {k : Nat} (hk : k < l.length) : okL (l.drop k) := by
  obtain ⟨h1, h2, h3⟩ := h
  have hg : (l.drop k).getD 0 p0 = l.getD k p0 := by rw [List.getD_eq_getElem?_getD, List.getD_eq_getElem?_getD, List.getElem?_drop, Nat.add_zero]
  have hmk : l.getD k p0 ∈ l := getD_mem l k p0 hk
  refine ⟨⟨by rw [List.length_drop]; omega, by rw [List.length_drop]; omega⟩, fun p hp => ?_, ?_⟩
  · have e1 := h2 p (List.mem_of_mem_drop hp)
    have e2 := h2 _ hmk
    rw [good, hg]
    exact ⟨e1.1, e1.2.1.trans e2.2.1.symm, e1.2.2.trans e2.2.2.symm⟩
  · rw [List.map_drop]
    have : hsum ((l.map tv).drop k) ≤ hsum (l.map tv) := by
      have e := congrArg hsum (List.take_append_drop k (l.map tv))
      rw [hsum, List.map_append, List.sum_append] at e
      unfold hsum
      unfold hsum at e
      omega
    omega
section
variable {G : World} {M : Mem} {L : Own} {NA SA TA : Option Addr} {nl nc sl_ sc tl tc : Nat} {name sec text : List UInt8}
theorem prow_sub {A : Option Addr} {n c : Nat} {l : List PairV} (h : Row M 2 A n c (prow l)) {i j : Nat} (hij : i ≤ j) (hj : j ≤ n) : Row M 2 (sl A i c 2) (j - i) (c - i) (prow ((l.drop i).take (j - i))) := by
  have hle := h.le
  have h1 := Row.slice (l := i) (h := j) (m := c) h (by omega) (by omega) (by omega) (Nat.le_refl _)
  have e : ((prow l).drop (i * 2)).take ((j - i) * 2) = prow ((l.drop i).take (j - i)) := by
    rw [prow, prow, ← flat_drop pcl]
    generalize l.drop i = l'
    generalize j - i = k
    induction k generalizing l' with
    | zero => simp
    | succ k ih =>
      cases l' with
      | nil => simp
      | cons a l' => rw [List.take_succ_cons, List.flatMap_cons, List.flatMap_cons, Nat.succ_mul, Nat.add_comm (k * 2) 2, ← ih l', List.take_append, pcl, show 2 + k * 2 - 2 = k * 2 by omega, List.take_of_length_le (by rw [pcl]; omega)]
  rwa [e] at h1
theorem WordsD_spec {A B : Option Addr} {n c m d : Nat} {xs ys : List Nat} (ha : Row M 1 A n c (u32r xs)) (hb : Row M 1 B m d (u32r ys)) :
    Con Tryz.prog 27 #[.slice A n c, .slice B m d] G M L (fun v M' L' => M = M' ∧ L = L' ∧ v = .bool (decide (xs = ys))) noPanic := by
  have hmx := ha.max
  have hle := ha.le
  have hnl : xs.length = n := by have := ha.len; simp [u32r] at this; omega
  have hnl2 : ys.length = m := by have := hb.len; simp [u32r] at this; omega
  refine enter (args := [_, _]) (fn := Tryz.f27) ⟨Tryz.func27, rfl, by kernel_rfl, by kernel_rfl⟩ 26 rfl ?_
  refine x_seq (x_region ?_)
  refine tl_y rfl (y_assign rfl) ?_
  refine tl_nil (.then_normal ?_)
  refine x_seq (x_seq (x_region ?_))
  refine tl_y rfl (y_move (v := .slice _ _ _) rfl) ?_
  refine tl_y rfl (y_len rfl) ?_
  refine tl_y rfl (y_move (v := .slice _ _ _) rfl) ?_
  refine tl_y rfl (y_len rfl) ?_
  refine tl_y rfl (y_neq rfl rfl) ?_
  refine tl_nil (.then_normal ?_)
  refine .sub (F' := [(0, _), (1, _), (4, _), (10, _)]) (.cons rfl (.cons rfl (.cons rfl (.cons rfl .nil)))) ?_
  refine x_cond rfl (fun hc1 => ?_) (fun hc1 => ?_)
  ·
    refine x_seq (x_region ?_)
    refine tl_y rfl (y_assign rfl) ?_
    refine tl_nil (.then_normal ?_)
    refine x_ret (.then_ret (ret1 rfl rfl (Le.refl _) ⟨rfl, rfl, congrArg Value.bool (decide_eq_false (fun h => by subst h; omega)).symm⟩))
  ·
    obtain rfl : n = m := by omega
    refine x_skip (.then_normal ?_)
    refine x_seq (x_seq (x_region ?_))
    refine tl_y rfl (y_assign rfl) ?_
    refine tl_nil (.then_normal ?_)
    refine x_block ?_
    refine x_loop (I := fun m' F D M1 L1 => ∃ k : Nat, m' = n - k ∧ k ≤ n ∧ (∀ j, j < k → xs[j]? = ys[j]?) ∧ D = [] ∧ M = M1 ∧ L = L1 ∧ F = [(0, .slice A n c), (1, .slice B n d), (4, .bool false), (5, .int .i64 k)]) (n) (F0 := [(0, _), (1, _), (4, _), (5, _)]) ?_ (.cons rfl (.cons rfl (.cons rfl (.cons rfl .nil)))) ?_  -- slots [0, 1, 4, 5], written [4, 5]
    · exact ⟨0, rfl, by omega, fun j hj => by omega, rfl, rfl, rfl, rfl⟩
    rintro m _ _ _ _ ⟨k, rfl, hk, hsame, rfl, rfl, rfl, rfl⟩
    refine x_seq (x_seq (x_region ?_))
    refine tl_y rfl (y_move (v := .int _ _) rfl) ?_
    refine tl_y rfl (y_move (v := .slice _ _ _) rfl) ?_
    refine tl_y rfl (y_len rfl) ?_
    refine tl_y rfl (y_lss rfl rfl) ?_
    refine tl_nil (.then_normal ?_)
    refine x_cond rfl (fun hc2 => ?_) (fun hc2 => ?_)
    ·
      have hkn : k < n := by omega
      obtain ⟨a, hxa⟩ : ∃ a, xs[k]? = some a := ⟨_, List.getElem?_eq_getElem (by omega)⟩
      obtain ⟨b, hxb⟩ : ∃ b, ys[k]? = some b := ⟨_, List.getElem?_eq_getElem (by omega)⟩
      obtain ⟨g, o, rfl, hcell⟩ := ha.addr (by omega)
      obtain ⟨g2, o2, rfl, hcell2⟩ := hb.addr (by omega)
      refine x_skip (.then_normal ?_)
      refine .sub (F' := [(0, _), (1, _), (4, _), (5, _)]) (.cons rfl (.cons rfl (.cons rfl (.cons rfl .nil)))) ?_
      refine x_seq ?_
      refine x_block ?_
      refine x_seq ?_
      refine x_draw 9 hmix rfl ?_
      refine to_p 0 rfl (by kernel_rfl) rfl (y_move (v := .slice _ _ _) rfl) ?_
      refine to_p 1 rfl (by kernel_rfl) rfl (y_move (v := .int _ _) rfl) ?_
      refine to_p 2 rfl (by kernel_rfl) rfl (y_indexAddr rfl rfl (by omega)) ?_
      refine to_y 3 rfl (by kernel_rfl) rfl (y_load rfl rfl (.at_ (hcell _ k _ (u32r_get hxa)) (by omega))) ?_
      refine to_p 4 rfl (by kernel_rfl) rfl (y_move (v := .slice _ _ _) rfl) ?_
      refine to_p 5 rfl (by kernel_rfl) rfl (y_move (v := .int _ _) rfl) ?_
      refine to_p 6 rfl (by kernel_rfl) rfl (y_indexAddr rfl rfl (by omega)) ?_
      refine to_y 7 rfl (by kernel_rfl) rfl (y_load rfl rfl (.at_ (hcell2 _ k _ (u32r_get hxb)) (by omega))) ?_
      refine to_p 8 rfl (by kernel_rfl) rfl (y_neq rfl rfl) ?_
      refine to_nil (by kernel_rfl) (.then_normal ?_)
      refine .sub (F' := [(0, _), (1, _), (4, _), (5, _), (25, _)]) (.cons rfl (.cons rfl (.cons rfl (.cons rfl (.cons rfl .nil))))) ?_
      refine x_cond rfl (fun hc3 => ?_) (fun hc3 => ?_)
      ·
        refine x_seq (x_region ?_)
        refine tl_y rfl (y_assign rfl) ?_
        refine tl_nil (.then_normal ?_)
        refine x_ret (.block_ret (.then_ret (.loop_ret (.block_ret (.then_ret (ret1 rfl rfl (Le.refl _) ⟨rfl, rfl, congrArg Value.bool (decide_eq_false (fun h => hc3 (by
          subst h
          rw [hxa] at hxb
          have := Option.some.inj hxb
          omega))).symm⟩))))))
      ·
        refine x_skip (.block_normal (.then_normal ?_))
        refine x_region ?_
        refine tl_y rfl (y_move (v := .int _ _) rfl) ?_
        refine tl_y rfl (y_addI rfl rfl (by omega)) ?_
        refine tl_y rfl (y_assign (v := .int _ _) rfl) ?_
        refine tl_nil (.loop_next (m' := n - (k + 1)) (by omega) (F' := [(0, _), (1, _), (4, _), (5, _)]) (.cons rfl (.cons rfl (.cons rfl (.cons rfl .nil)))) ?_)
        exact ⟨k + 1, rfl, by omega, fun j hj => by
          by_cases hjk : j = k
          · subst hjk
            rw [hxa, hxb]
            congr 1
            omega
          · exact hsame j (by omega), rfl, rfl, rfl, rfl⟩
    ·
      refine x_exit (.then_exit (.loop_exit (.block_exit (.then_normal ?_))))
      refine .sub (F' := []) .nil ?_
      refine x_seq (x_region ?_)
      refine tl_y rfl (y_assign rfl) ?_
      refine tl_nil (.then_normal ?_)
      refine x_ret (ret1 rfl rfl (Le.refl _) ⟨rfl, rfl, congrArg Value.bool (decide_eq_true (List.ext_getElem? (fun j => by
        by_cases hj : j < k
        · exact hsame j hj
        · rw [List.getElem?_eq_none (by omega), List.getElem?_eq_none (by omega)]))).symm⟩)
theorem RTotal_spec {A : Option Addr} {n c : Nat} {l : List PairV} (h : Row M 2 A n c (prow l)) :
    Con Tryz.prog 31 #[.slice A n c] G M L (fun v M' L' => M = M' ∧ L = L' ∧ v = .int .u64 (totN l : Nat)) noPanic := by
  have hmx := h.max
  have hle := h.le
  have hln : l.length = n := by have := h.len; rw [prow, flat_len pcl] at this; omega
  refine enter (args := [_]) (fn := Tryz.f31) ⟨Tryz.func31, rfl, by kernel_rfl, by kernel_rfl⟩ 36 rfl ?_
  refine x_seq (x_region ?_)
  refine tl_y rfl (y_assign rfl) ?_
  refine tl_nil (.then_normal ?_)
  refine x_seq (x_region ?_)
  refine tl_y rfl (y_assign rfl) ?_
  refine tl_nil (.then_normal ?_)
  refine x_seq (x_seq (x_region ?_))
  refine tl_y rfl (y_move (v := .slice _ _ _) rfl) ?_
  refine tl_e rfl (e_call' rfl (RMay13_spec h) ?_)
  rintro _ _ _ _ ⟨rfl, rfl, rfl⟩
  refine tl_y rfl (y_notd rfl) ?_
  refine tl_nil (.then_normal ?_)
  refine x_cond rfl (fun hc1 => ?_) (fun hc1 => ?_)
  ·
    refine x_seq (x_region ?_)
    refine tl_y rfl (y_assign rfl) ?_
    refine tl_nil (.then_normal ?_)
    refine .sub (F' := [(2, _)]) (.cons rfl .nil) ?_
    refine x_ret (.then_ret (ret1 rfl rfl (Le.refl _) ⟨rfl, rfl, by rw [totN, if_neg hc1]; rfl⟩))
  ·
    have hok : okL l := Classical.not_not.1 hc1
    have h60 := hok.2.2
    refine x_skip (.then_normal ?_)
    refine .sub (F' := [(0, _), (3, _)]) (.cons rfl (.cons rfl .nil)) ?_
    refine x_seq (x_seq (x_region ?_))
    refine tl_y rfl (y_assign rfl) ?_
    refine tl_nil (.then_normal ?_)
    refine x_block ?_
    refine x_loop (I := fun m' F D M1 L1 => ∃ k : Nat, m' = n - k ∧ k ≤ n ∧ D = [] ∧ M = M1 ∧ L = L1 ∧ F = [(0, .slice A n c), (3, .int .u64 (pw2 (hsum ((l.take k).map tv)) : Nat)), (4, .int .i64 k)]) (n) (F0 := [(0, _), (3, _), (4, _)]) ?_ (.cons rfl (.cons rfl (.cons rfl .nil))) ?_  -- slots [0, 3, 4], written [3, 4]
    · exact ⟨0, rfl, by omega, rfl, rfl, rfl, rfl⟩
    rintro m _ _ _ _ ⟨k, rfl, hk, rfl, rfl, rfl, rfl⟩
    refine x_seq (x_seq (x_region ?_))
    refine tl_y rfl (y_move (v := .int _ _) rfl) ?_
    refine tl_y rfl (y_move (v := .slice _ _ _) rfl) ?_
    refine tl_y rfl (y_len rfl) ?_
    refine tl_y rfl (y_lss rfl rfl) ?_
    refine tl_nil (.then_normal ?_)
    refine x_cond rfl (fun hc2 => ?_) (fun hc2 => ?_)
    ·
      have hkn : k < n := by omega
      obtain ⟨p, hp⟩ : ∃ p, l[k]? = some p := ⟨_, List.getElem?_eq_getElem (by omega)⟩
      have hmem : p ∈ l := List.mem_of_getElem? hp
      have htk : l.take (k + 1) = l.take k ++ [p] := by
        rw [List.take_add_one, hp]; rfl
      obtain ⟨hH, hH1, hH25⟩ := okP_h (hok.2.1 p hmem).1
      have hsn : hsum ((l.take (k + 1)).map tv) = hsum ((l.take k).map tv) + hN (tv p) := by rw [htk, List.map_append]; exact hsum_snoc _ _
      have hs60 : hsum ((l.take (k + 1)).map tv) ≤ hsum (l.map tv) := by rw [List.map_take]; exact hsum_take _
      obtain ⟨g, o, rfl, hcell⟩ := h.cellsN (by omega)
      have hc2 := fun L => hcell L (k * 2) 2 (by rw [prow, flat_len pcl]; omega)
      simp only [prow, flat_take pcl l k p hp] at hc2
      refine x_skip (.then_normal ?_)
      refine .sub (F' := [(0, _), (3, _), (4, _)]) (.cons rfl (.cons rfl (.cons rfl .nil))) ?_
      refine x_seq ?_
      refine x_block ?_
      refine x_seq (x_region ?_)
      refine tl_y rfl (y_move (v := .slice _ _ _) rfl) ?_
      refine tl_y rfl (y_move (v := .int _ _) rfl) ?_
      refine tl_y rfl (y_indexAddr rfl rfl (by omega)) ?_
      refine tl_y rfl (y_loadAgg rfl rfl (.at_ (hc2 _) (by omega))) ?_
      refine tl_e rfl (e_call' rfl (RSets12_spec p) ?_)
      rintro _ _ _ _ ⟨rfl, rfl, rfl⟩
      refine tl_y rfl (y_move (v := .tuple _) rfl) ?_
      refine tl_y rfl (y_extract rfl) ?_
      refine tl_y rfl (y_extract rfl) ?_
      refine tl_y rfl (y_extract rfl) ?_
      refine tl_e rfl (e_alloc (fun b1 => ?_))
      refine tl_e rfl (e_alloc (fun b2 => ?_))
      refine tl_e rfl (e_store rfl rfl (by rfl) (by rfl) inferInstance inferInstance inferInstance ?_)
      refine tl_e rfl (e_store rfl rfl (by rfl) (by rfl) inferInstance inferInstance inferInstance ?_)
      refine tl_y rfl (y_assign (v := .bool _) rfl) ?_
      refine tl_nil (.then_normal ?_)
      refine .sub (F' := [(0, _), (3, _), (4, _), (6, _)]) (.cons rfl (.cons rfl (.cons rfl (.cons rfl .nil)))) ?_
      refine x_seq (x_region ?_)
      refine tl_y rfl (y_assign rfl) ?_
      refine tl_nil (.then_normal ?_)
      refine x_block ?_
      refine x_loop (I := fun m' F D M1 L1 => ∃ j : Nat, m' = hN (tv p) - j ∧ j ≤ hN (tv p) ∧ D = [] ∧ M = M1 ∧ (b2, .cells (List.toArray (treeV p.t).cells) 29 (0, 0)) :: (b1, .cells (List.toArray (otsV p.o).cells) 27 (0, 0)) :: L = L1 ∧ F = [(0, .slice (some ⟨g, o, none⟩) n c), (3, .int .u64 (pw2 (hsum ((l.take k).map tv) + j) : Nat)), (4, .int .i64 k), (6, .pointer (some ⟨b2, 0, none⟩)), (8, .int .i64 j)]) (hN (tv p)) (F0 := [(0, _), (3, _), (4, _), (6, _), (8, _)]) ?_ (.cons rfl (.cons rfl (.cons rfl (.cons rfl (.cons rfl .nil))))) ?_  -- slots [0, 3, 4, 6, 8], written [3, 8]
      · exact ⟨0, rfl, by omega, rfl, rfl, rfl, rfl⟩
      rintro m _ _ _ _ ⟨j, rfl, hj, rfl, rfl, rfl, rfl⟩
      refine x_seq (x_seq (x_region ?_))
      refine tl_y rfl (y_move (v := .int _ _) rfl) ?_
      refine tl_y rfl (y_fieldAddr rfl) ?_
      refine tl_y rfl (y_load (v := .int .i64 ((hN (tv p) : Nat) : Int)) rfl rfl (by rw [← hH]; exact .own inferInstance inferInstance)) ?_
      refine tl_y rfl (y_lss rfl rfl) ?_
      refine tl_nil (.then_normal ?_)
      refine x_cond rfl (fun hc3 => ?_) (fun hc3 => ?_)
      ·
        have hj60 := pw2_60 (a := hsum ((l.take k).map tv) + (j + 1)) (by omega)
        have hdb := pw2_succ (hsum ((l.take k).map tv) + j)
        rw [← Nat.add_assoc] at hj60
        refine x_skip (.then_normal ?_)
        refine .sub (F' := [(0, _), (3, _), (4, _), (6, _), (8, _)]) (.cons rfl (.cons rfl (.cons rfl (.cons rfl (.cons rfl .nil))))) ?_
        refine x_seq ?_
        refine x_block ?_
        refine x_region ?_
        refine tl_y rfl (y_move (v := .int _ _) rfl) ?_
        refine tl_y rfl (y_mulN64 rfl rfl (by omega)) ?_
        rw [hdb]
        refine tl_y rfl (y_assign (v := .int _ _) rfl) ?_
        refine tl_nil (.block_normal (.then_normal ?_))
        refine x_region ?_
        refine tl_y rfl (y_move (v := .int _ _) rfl) ?_
        refine tl_y rfl (y_addI rfl rfl (by omega)) ?_
        refine tl_y rfl (y_assign (v := .int _ _) rfl) ?_
        refine tl_nil (.loop_next (m' := hN (tv p) - (j + 1)) (by omega) (F' := [(0, _), (3, _), (4, _), (6, _), (8, _)]) (.cons rfl (.cons rfl (.cons rfl (.cons rfl (.cons rfl .nil))))) ?_)
        exact ⟨j + 1, rfl, by omega, rfl, rfl, rfl, rfl⟩
      ·
        obtain rfl : j = hN (tv p) := by omega
        refine .dropTo L inferInstance ?_
        refine x_exit (.then_exit (.loop_exit (.block_exit (.block_normal (.then_normal ?_)))))
        refine .sub (F' := [(0, _), (3, _), (4, _)]) (.cons rfl (.cons rfl (.cons rfl .nil))) ?_
        refine x_region ?_
        refine tl_y rfl (y_move (v := .int _ _) rfl) ?_
        refine tl_y rfl (y_addI rfl rfl (by omega)) ?_
        refine tl_y rfl (y_assign (v := .int _ _) rfl) ?_
        refine tl_nil (.loop_next (m' := n - (k + 1)) (by omega) (F' := [(0, _), (3, _), (4, _)]) (.cons rfl (.cons rfl (.cons rfl .nil))) ?_)
        exact ⟨k + 1, rfl, by omega, rfl, rfl, rfl, by rw [hsn]; rfl⟩
    ·
      obtain rfl : k = n := by omega
      rw [List.take_of_length_le (by omega)]
      refine x_exit (.then_exit (.loop_exit (.block_exit (.then_normal ?_))))
      refine .sub (F' := [(3, _)]) (.cons rfl .nil) ?_
      refine x_seq (x_region ?_)
      refine tl_y rfl (y_move (v := .int _ _) rfl) ?_
      refine tl_y rfl (y_assign (v := .int _ _) rfl) ?_
      refine tl_nil (.then_normal ?_)
      refine x_ret (ret1 rfl rfl (Le.refl _) ⟨rfl, rfl, by rw [totN, if_pos hok]⟩)
theorem RPlaces_spec {A : Option Addr} {n c : Nat} {l : List PairV} (h : Row M 2 A n c (prow l)) (x : UInt64) :
    Con Tryz.prog 26 #[.slice A n c, .int .u64 (x.toNat : Int)] G M L (fun v M' L' => L = L' ∧ ∃ A' n' c', v = .tuple #[.slice A' n' c', .int .i64 (plE l x.toNat)] ∧ Row M' 1 A' n' c' (u32r (plV l x.toNat))) noPanic := by
  have hmx := h.max
  have hle := h.le
  have hln : l.length = n := by have := h.len; rw [prow, flat_len pcl] at this; omega
  have hxl := x.toNat_lt
  refine enter (args := [_, _]) (fn := Tryz.f26) ⟨Tryz.func26, rfl, by kernel_rfl, by kernel_rfl⟩ 49 rfl ?_
  refine x_seq (x_region ?_)
  refine tl_y rfl (y_assign rfl) ?_
  refine tl_y rfl (y_assign rfl) ?_
  refine tl_nil (.then_normal ?_)
  refine x_seq (x_seq (x_region ?_))
  refine tl_y rfl (y_move (v := .slice _ _ _) rfl) ?_
  refine tl_e rfl (e_call' rfl (RMay13_spec h) ?_)
  rintro _ _ _ _ ⟨rfl, rfl, rfl⟩
  refine tl_y rfl (y_notd rfl) ?_
  refine tl_nil (.then_normal ?_)
  refine .sub (F' := [(0, _), (1, _), (12, _)]) (.cons rfl (.cons rfl (.cons rfl .nil))) ?_
  refine x_cond rfl (fun hc1 => ?_) (fun hc1 => ?_)
  ·
    refine x_seq (x_region ?_)
    refine tl_y rfl (y_assign rfl) ?_
    refine tl_y rfl (y_assign rfl) ?_
    refine tl_nil (.then_normal ?_)
    refine x_ret (.then_ret (ret2 rfl rfl rfl (Le.refl _) ⟨rfl, _, _, _, by rw [plE, if_neg hc1], by rw [plV, if_neg (fun h => hc1 h.1)]; exact Row.nil _ _⟩))
  ·
    have hok : okL l := Classical.not_not.1 hc1
    have h60 := hok.2.2
    refine x_skip (.then_normal ?_)
    refine x_seq (x_seq (x_region ?_))
    refine tl_y rfl (y_move (v := .int _ _) rfl) ?_
    refine tl_y rfl (y_move (v := .slice _ _ _) rfl) ?_
    refine tl_e rfl (e_call' rfl (RTotal_spec h) ?_)
    rintro _ _ _ _ ⟨rfl, rfl, rfl⟩
    refine tl_y rfl (y_geq rfl rfl) ?_
    refine tl_nil (.then_normal ?_)
    refine .sub (F' := [(0, _), (1, _), (16, _)]) (.cons rfl (.cons rfl (.cons rfl .nil))) ?_
    refine x_cond rfl (fun hc2 => ?_) (fun hc2 => ?_)
    ·
      refine x_seq (x_region ?_)
      refine tl_y rfl (y_assign rfl) ?_
      refine tl_y rfl (y_assign rfl) ?_
      refine tl_nil (.then_normal ?_)
      refine x_ret (.then_ret (ret2 rfl rfl rfl (Le.refl _) ⟨rfl, _, _, _, by rw [plE, if_pos hok, if_neg (by omega)], by rw [plV, if_neg (fun h => by have := h.2; omega)]; exact Row.nil _ _⟩))
    ·
      have hxt : x.toNat < totN l := by omega
      have hn8 := hok.1.2
      refine x_skip (.then_normal ?_)
      refine x_seq (x_region ?_)
      refine tl_y rfl (y_assign rfl) ?_
      refine tl_nil (.then_normal ?_)
      refine x_seq (x_seq (x_region ?_))
      refine tl_y rfl (y_assign rfl) ?_
      refine tl_nil (.then_normal ?_)
      refine x_block ?_
      refine x_loop (I := fun m' F D M1 L1 => ∃ (k : Nat) (A1 : Option Addr) (c1 : Nat) (E : Own), m' = n - k ∧ k ≤ n ∧ Le M M1 ∧ OwnRow 22 1 A1 k c1 (u32r ((atsN (l.map tv) x.toNat).take k)) E ∧ D = [] ∧ L1 = E ++ L ∧ F = [(0, .slice A n c), (1, .int .u64 (x.toNat : Int)), (6, .slice A1 k c1), (7, .int .i64 k)]) (n) (F0 := [(0, _), (1, _), (6, _), (7, _)]) ?_ (.cons rfl (.cons rfl (.cons rfl (.cons rfl .nil)))) ?_  -- slots [0, 1, 6, 7], written [6, 7]
      · exact ⟨0, none, 0, [], rfl, by omega, Le.refl _, .nil, rfl, rfl, rfl⟩
      rintro m _ _ M1 _ ⟨k, A1, c1, E, rfl, hk, hM1, hE, rfl, rfl, rfl⟩
      refine x_seq (x_seq (x_region ?_))
      refine tl_y rfl (y_move (v := .int _ _) rfl) ?_
      refine tl_y rfl (y_move (v := .slice _ _ _) rfl) ?_
      refine tl_y rfl (y_len rfl) ?_
      refine tl_y rfl (y_lss rfl rfl) ?_
      refine tl_nil (.then_normal ?_)
      refine x_cond rfl (fun hc3 => ?_) (fun hc3 => ?_)
      ·
        have hkn : k < n := by omega
        obtain ⟨p, hp⟩ : ∃ p, l[k]? = some p := ⟨_, List.getElem?_eq_getElem (by omega)⟩
        have hmem : p ∈ l := List.mem_of_getElem? hp
        have hokp := (hok.2.1 p hmem).1
        have hpt : (l.map tv)[k]? = some (tv p) := by rw [List.getElem?_map, hp]; rfl
        have hlt := atN_lt hpt x.toNat
        have hH25 := (okP_h hokp).2.2
        have hpw := pw2_25 hH25
        have hone := prow_sub (h.mono hM1) (i := k) (j := k + 1) (by omega) (by omega)
        have hone' : (l.drop k).take (k + 1 - k) = [p] := by
          rw [show k + 1 - k = 1 by omega, List.drop_eq_getElem_cons (by omega), List.take_succ_cons, List.take_zero, (List.getElem?_eq_some_iff.1 hp).2]
        rw [hone'] at hone
        have hat : atN (l.map tv) x.toNat k = x.toNat / pw2 (hsum ((l.map tv).drop (k + 1))) % pw2 (hN (tv p)) := by
          rw [atN, List.getD_eq_getElem?_getD, hpt]; rfl
        have hrest := prow_sub (h.mono hM1) (i := k + 1) (j := n) (by omega) (by omega)
        have hrest' : (l.drop (k + 1)).take (n - (k + 1)) = l.drop (k + 1) := List.take_of_length_le (by rw [List.length_drop]; omega)
        rw [hrest'] at hrest
        have hpos := pw2_pos (hsum ((l.map tv).drop (k + 1)))
        have hpos2 := pw2_pos (hN (tv p))
        have htk : (atsN (l.map tv) x.toNat).take (k + 1) = (atsN (l.map tv) x.toNat).take k ++ [atN (l.map tv) x.toNat k] := by
          rw [List.take_add_one, atsN_get _ _ (by rw [List.length_map]; omega)]; rfl
        refine x_skip (.then_normal ?_)
        refine .sub (F' := [(0, _), (1, _), (6, _), (7, _)]) (.cons rfl (.cons rfl (.cons rfl (.cons rfl .nil)))) ?_
        refine x_seq ?_
        refine x_block ?_
        refine x_seq (x_region ?_)
        refine tl_y rfl (y_assign rfl) ?_
        refine tl_nil (.then_normal ?_)
        refine x_seq (x_seq (x_region ?_))
        refine tl_y rfl (y_move (v := .int _ _) rfl) ?_
        refine tl_y rfl (y_addI rfl rfl (by omega)) ?_
        refine tl_y rfl (y_move (v := .slice _ _ _) rfl) ?_
        refine tl_y rfl (y_len rfl) ?_
        refine tl_y rfl (y_lss rfl rfl) ?_
        refine tl_nil (.then_normal ?_)
        refine .sub (F' := [(0, _), (1, _), (6, _), (7, _), (8, _), (27, _)]) (.cons rfl (.cons rfl (.cons rfl (.cons rfl (.cons rfl (.cons rfl .nil)))))) ?_
        refine x_cond rfl (fun hc4 => ?_) (fun hc4 => ?_)
        ·
          refine x_region ?_
          refine tl_y rfl (y_move (v := .slice _ _ _) rfl) ?_
          refine tl_y rfl (y_move (v := .int _ _) rfl) ?_
          refine tl_y rfl (y_addI rfl rfl (by omega)) ?_
          refine tl_y rfl (y_sliceL rfl rfl (by omega)) ?_
          rw [show ((k : Int) + 1).toNat = k + 1 by omega]
          refine tl_e rfl (e_call' rfl (RTotal_spec hrest) ?_)
          rintro _ _ _ _ ⟨rfl, rfl, rfl⟩
          have htot : totN (l.drop (k + 1)) = pw2 (hsum ((l.map tv).drop (k + 1))) := by rw [totN, if_pos (okL_drop hok (by omega)), List.map_drop]
          rw [htot]
          refine tl_y rfl (y_assign (v := .int _ _) rfl) ?_
          refine tl_nil (.then_normal ?_)
          refine .sub (F' := [(0, _), (1, _), (6, _), (7, _), (8, _)]) (.cons rfl (.cons rfl (.cons rfl (.cons rfl (.cons rfl .nil))))) ?_
          refine x_seq (x_region ?_)
          refine tl_y rfl (y_move (v := .slice _ _ _) rfl) ?_
          refine tl_y rfl (y_move (v := .int _ _) rfl) ?_
          refine tl_y rfl (y_move (v := .int _ _) rfl) ?_
          refine tl_y rfl (y_addI rfl rfl (by omega)) ?_
          refine tl_y rfl (y_sliceLH rfl rfl rfl (by omega) (by omega)) ?_
          rw [Int.toNat_natCast, show ((k : Int) + 1).toNat = k + 1 by omega]
          refine tl_e rfl (e_call' rfl (RTotal_spec hone) ?_)
          rintro _ _ _ _ ⟨rfl, rfl, rfl⟩
          rw [totN_one hokp]
          refine tl_y rfl (y_assign (v := .int _ _) rfl) ?_
          refine tl_nil (.then_normal ?_)
          refine .sub (F' := [(0, _), (1, _), (6, _), (7, _), (8, _), (9, _)]) (.cons rfl (.cons rfl (.cons rfl (.cons rfl (.cons rfl (.cons rfl .nil)))))) ?_
          refine x_region ?_
          refine tl_y rfl (y_move (v := .slice _ _ _) rfl) ?_
          refine tl_y rfl (y_move (v := .int _ _) rfl) ?_
          refine tl_y rfl (y_move (v := .int _ _) rfl) ?_
          refine tl_y rfl (y_quoN64 rfl rfl (by omega)) ?_
          rw [show (x.toNat : Int) / ((pw2 (hsum ((l.map tv).drop (k + 1))) : Nat) : Int) = ((x.toNat / pw2 (hsum ((l.map tv).drop (k + 1))) : Nat) : Int) from (Int.natCast_ediv _ _).symm]
          refine tl_y rfl (y_move (v := .int _ _) rfl) ?_
          refine tl_y rfl (y_remI rfl rfl ⟨Int.natCast_nonneg _, by omega⟩) ?_
          rw [show ((x.toNat / pw2 (hsum ((l.map tv).drop (k + 1))) : Nat) : Int) % ((pw2 (hN (tv p)) : Nat) : Int) = ((atN (l.map tv) x.toNat k : Nat) : Int) by rw [hat]; push_cast; rfl]
          refine tl_y rfl (y_convN32 rfl (by omega)) ?_
          refine tl_e rfl (e_buildSlice rfl (by decide) (fun b8 => ?_))
          refine .pub b8 inferInstance (fun M5 hM5 hb8 => ?_)
          refine tl_e rfl (e_append (by decide) rfl rfl hE (.row (Row.whole (s := 1) (vs := [Value.int .u32 ((atN (l.map tv) x.toNat k : Nat) : Int)]) hb8 rfl (by omega))) rfl (by omega) (by omega) (fun A9 c9 E9 hE9 => ?_))
          have hrr : u32r ((atsN (l.map tv) x.toNat).take k) ++ [Value.int .u32 ((atN (l.map tv) x.toNat k : Nat) : Int)] = u32r ((atsN (l.map tv) x.toNat).take (k + 1)) := by rw [htk]; simp [u32r]
          rw [hrr] at hE9
          refine tl_y rfl (y_assign (v := .slice _ _ _) rfl) ?_
          refine tl_nil (.block_normal (.then_normal ?_))
          refine .sub (F' := [(0, _), (1, _), (6, _), (7, _)]) (.cons rfl (.cons rfl (.cons rfl (.cons rfl .nil)))) ?_
          refine x_region ?_
          refine tl_y rfl (y_move (v := .int _ _) rfl) ?_
          refine tl_y rfl (y_addI rfl rfl (by omega)) ?_
          refine tl_y rfl (y_assign (v := .int _ _) rfl) ?_
          refine tl_nil (.loop_next (m' := n - (k + 1)) (by omega) (F' := [(0, _), (1, _), (6, _), (7, _)]) (.cons rfl (.cons rfl (.cons rfl (.cons rfl .nil)))) ?_)
          exact ⟨k + 1, A9, c9, E9, rfl, by omega, hM1.trans hM5, hE9, rfl, rfl, rfl⟩
        ·
          have hlast : (l.map tv).drop (k + 1) = [] := List.drop_of_length_le (by rw [List.length_map]; omega)
          refine x_skip (.then_normal ?_)
          refine x_seq (x_region ?_)
          refine tl_y rfl (y_move (v := .slice _ _ _) rfl) ?_
          refine tl_y rfl (y_move (v := .int _ _) rfl) ?_
          refine tl_y rfl (y_move (v := .int _ _) rfl) ?_
          refine tl_y rfl (y_addI rfl rfl (by omega)) ?_
          refine tl_y rfl (y_sliceLH rfl rfl rfl (by omega) (by omega)) ?_
          rw [Int.toNat_natCast, show ((k : Int) + 1).toNat = k + 1 by omega]
          refine tl_e rfl (e_call' rfl (RTotal_spec hone) ?_)
          rintro _ _ _ _ ⟨rfl, rfl, rfl⟩
          rw [totN_one hokp]
          refine tl_y rfl (y_assign (v := .int _ _) rfl) ?_
          refine tl_nil (.then_normal ?_)
          refine .sub (F' := [(0, _), (1, _), (6, _), (7, _), (8, _), (9, _)]) (.cons rfl (.cons rfl (.cons rfl (.cons rfl (.cons rfl (.cons rfl .nil)))))) ?_
          refine x_region ?_
          refine tl_y rfl (y_move (v := .slice _ _ _) rfl) ?_
          refine tl_y rfl (y_move (v := .int _ _) rfl) ?_
          refine tl_y rfl (y_move (v := .int _ _) rfl) ?_
          refine tl_y rfl (y_quoN64 rfl rfl (by omega)) ?_
          rw [Int.ediv_one]
          refine tl_y rfl (y_move (v := .int _ _) rfl) ?_
          refine tl_y rfl (y_remI rfl rfl (by omega)) ?_
          rw [show (x.toNat : Int) % ((pw2 (hN (tv p)) : Nat) : Int) = ((atN (l.map tv) x.toNat k : Nat) : Int) by rw [hat, hlast, show pw2 (hsum []) = 1 from rfl, Nat.div_one]; push_cast; rfl]
          refine tl_y rfl (y_convN32 rfl (by omega)) ?_
          refine tl_e rfl (e_buildSlice rfl (by decide) (fun b8 => ?_))
          refine .pub b8 inferInstance (fun M5 hM5 hb8 => ?_)
          refine tl_e rfl (e_append (by decide) rfl rfl hE (.row (Row.whole (s := 1) (vs := [Value.int .u32 ((atN (l.map tv) x.toNat k : Nat) : Int)]) hb8 rfl (by omega))) rfl (by omega) (by omega) (fun A9 c9 E9 hE9 => ?_))
          have hrr : u32r ((atsN (l.map tv) x.toNat).take k) ++ [Value.int .u32 ((atN (l.map tv) x.toNat k : Nat) : Int)] = u32r ((atsN (l.map tv) x.toNat).take (k + 1)) := by rw [htk]; simp [u32r]
          rw [hrr] at hE9
          refine tl_y rfl (y_assign (v := .slice _ _ _) rfl) ?_
          refine tl_nil (.block_normal (.then_normal ?_))
          refine .sub (F' := [(0, _), (1, _), (6, _), (7, _)]) (.cons rfl (.cons rfl (.cons rfl (.cons rfl .nil)))) ?_
          refine x_region ?_
          refine tl_y rfl (y_move (v := .int _ _) rfl) ?_
          refine tl_y rfl (y_addI rfl rfl (by omega)) ?_
          refine tl_y rfl (y_assign (v := .int _ _) rfl) ?_
          refine tl_nil (.loop_next (m' := n - (k + 1)) (by omega) (F' := [(0, _), (1, _), (6, _), (7, _)]) (.cons rfl (.cons rfl (.cons rfl (.cons rfl .nil)))) ?_)
          exact ⟨k + 1, A9, c9, E9, rfl, by omega, hM1.trans hM5, hE9, rfl, rfl, rfl⟩
      ·
        obtain rfl : k = n := by omega
        refine .pubRow hE (fun M4 hM4 hrow => ?_)
        rw [List.take_of_length_le (by rw [atsN_len, List.length_map]; omega)] at hrow
        refine x_exit (.then_exit (.loop_exit (.block_exit (.then_normal ?_))))
        refine .sub (F' := [(6, _)]) (.cons rfl .nil) ?_
        refine x_seq (x_region ?_)
        refine tl_y rfl (y_move (v := .slice _ _ _) rfl) ?_
        refine tl_y rfl (y_assign (v := .slice _ _ _) rfl) ?_
        refine tl_y rfl (y_assign rfl) ?_
        refine tl_nil (.then_normal ?_)
        refine x_ret (ret2 rfl rfl rfl (hM1.trans hM4) ⟨rfl, _, _, _, by rw [plE, if_pos hok, if_pos hxt], by rw [plV, if_pos ⟨hok, hxt⟩]; exact hrow⟩)
theorem RBelow_spec (x : PairV) (hname : Bytes M NA nl nc name) (hsec : Bytes M SA sl_ sc sec) (q : UInt32) :
    Con Tryz.prog 33 #[.agg (List.toArray x.cells), .agg (List.toArray (seedC NA nl nc SA sl_ sc)), .int .u32 (q.toNat : Int)] G M L (fun v M' L' => L' = L ∧ ∃ y z : SlV, v = .tuple #[.agg (List.toArray [y.v, z.v]), .int .i64 (belE x nl sl_)] ∧ Bytes M' y.a y.n y.c (belNV x nl sl_ name sec q.toNat) ∧ Bytes M' z.a z.n z.c (belSV x nl sl_ name sec q.toNat)) noPanic := by
  refine enter (args := [_, _, _]) (fn := Tryz.f33) ⟨Tryz.func33, rfl, by kernel_rfl, by kernel_rfl⟩ 35 rfl ?_
  refine x_seq (x_region ?_)
  refine tl_e rfl (e_box rfl (fun b1 => ?_))
  refine tl_e rfl (e_box rfl (fun b2 => ?_))
  refine tl_e rfl (e_alloc (fun b3 => ?_))
  refine tl_y rfl (y_assign rfl) ?_
  refine tl_nil (.then_normal ?_)
  refine x_seq (x_region ?_)
  refine tl_y rfl (y_loadAgg rfl rfl (.own inferInstance inferInstance)) ?_
  refine tl_e rfl (e_call' rfl (RSets12_spec x) ?_)
  rintro _ _ _ _ ⟨rfl, rfl, rfl⟩
  refine tl_y rfl (y_move (v := .tuple _) rfl) ?_
  refine tl_y rfl (y_extract rfl) ?_
  refine tl_y rfl (y_extract rfl) ?_
  refine tl_y rfl (y_extract rfl) ?_
  refine tl_e rfl (e_alloc (fun b4 => ?_))
  refine tl_e rfl (e_alloc (fun b5 => ?_))
  refine tl_e rfl (e_store rfl rfl (by rfl) (by rfl) inferInstance inferInstance inferInstance ?_)
  refine tl_e rfl (e_store rfl rfl (by rfl) (by rfl) inferInstance inferInstance inferInstance ?_)
  refine tl_y rfl (y_assign (v := .bool _) rfl) ?_
  refine tl_nil (.then_normal ?_)
  refine .sub (F' := [(2, _), (4, _), (6, _), (8, _), (10, _)]) (.cons rfl (.cons rfl (.cons rfl (.cons rfl (.cons rfl .nil))))) ?_
  refine x_seq (x_seq (x_region ?_))
  refine tl_y rfl (y_move (v := .bool _) rfl) ?_
  refine tl_y rfl (y_notd rfl) ?_
  refine tl_nil (.then_normal ?_)
  refine x_cond rfl (fun hc1 => ?_) (fun hc1 => ?_)
  ·
    refine x_seq (x_region ?_)
    refine tl_y rfl (y_build rfl) ?_
    refine tl_e rfl (e_store rfl rfl (by rfl) (by rfl) inferInstance inferInstance inferInstance ?_)
    refine tl_y rfl (y_assign rfl) ?_
    refine tl_nil (.then_normal ?_)
    refine .sub (F' := [(6, _), (7, _)]) (.cons rfl (.cons rfl .nil)) ?_
    refine x_ret (.then_ret (retRV (L' := L) (rv2 rfl (rc_cellAgg (by rfl) rfl (.own inferInstance inferInstance)) (rc_tmp (by rfl))) inferInstance (Le.refl _) (by
      have e : belE x nl sl_ = 4 := by rw [belE, if_pos hc1]
      exact ⟨rfl, ⟨none, 0, 0⟩, ⟨none, 0, 0⟩, by rw [e], by rw [belNV, e]; exact Row.nil _ _, by rw [belSV, e]; exact Row.nil _ _⟩)))
  ·
    have hok : okP x := Classical.not_not.1 hc1
    obtain ⟨n, w, p, H, hx⟩ := okP_facts hok
    have hn32 := hx.o.n32
    have hll := hidB_len hx.o name sec q.toNat 65535
    refine x_skip (.then_normal ?_)
    refine x_seq (x_seq (x_region ?_))
    refine tl_y rfl (y_loadAgg rfl rfl (.own inferInstance inferInstance)) ?_
    refine tl_y rfl (y_loadAgg rfl rfl (.own inferInstance inferInstance)) ?_
    refine tl_e rfl (e_call' rfl (RoMay_spec (otsV x.o)) ?_)
    rintro _ _ _ _ ⟨rfl, rfl, rfl⟩
    refine tl_y rfl (y_notd rfl) ?_
    refine tl_nil (.then_normal ?_)
    refine .sub (F' := [(2, _), (4, _), (6, _), (8, _), (23, _)]) (.cons rfl (.cons rfl (.cons rfl (.cons rfl (.cons rfl .nil))))) ?_
    refine x_cond rfl (fun hc2 => ?_) (fun hc2 => ?_)
    ·
      refine x_seq (x_region ?_)
      refine tl_y rfl (y_build rfl) ?_
      refine tl_e rfl (e_store rfl rfl (by rfl) (by rfl) inferInstance inferInstance inferInstance ?_)
      refine tl_y rfl (y_assign rfl) ?_
      refine tl_nil (.then_normal ?_)
      refine .sub (F' := [(6, _), (7, _)]) (.cons rfl (.cons rfl .nil)) ?_
      refine x_ret (.then_ret (retRV (L' := L) (rv2 rfl (rc_cellAgg (by rfl) rfl (.own inferInstance inferInstance)) (rc_tmp (by rfl))) inferInstance (Le.refl _) (by
        have e : belE x nl sl_ = 1 := by rw [belE, if_neg hc1, if_pos hc2]
        exact ⟨rfl, ⟨none, 0, 0⟩, ⟨none, 0, 0⟩, by rw [e], by rw [belNV, e]; exact Row.nil _ _, by rw [belSV, e]; exact Row.nil _ _⟩)))
    ·
      have hy : okY (otsV x.o) nl sl_ := Classical.not_not.1 hc2
      have he0 : belE x nl sl_ = 0 := by rw [belE, if_neg hc1, if_neg hc2]
      refine x_skip (.then_normal ?_)
      refine x_seq ?_
      have he : Le M M := Le.refl _
      refine x_draw 10 hmix rfl ?_
      refine to_y 0 rfl (by kernel_rfl) rfl (y_loadAgg rfl rfl (.own inferInstance inferInstance)) ?_
      refine to_y 1 rfl (by kernel_rfl) rfl (y_loadAgg rfl rfl (.own inferInstance inferInstance)) ?_
      refine to_p 2 rfl (by kernel_rfl) rfl (y_move (v := .int _ _) rfl) ?_
      refine to_y 5 rfl (by kernel_rfl) rfl (y_loadAgg rfl rfl (.own inferInstance inferInstance)) ?_
      refine to_y 6 rfl (by kernel_rfl) rfl (y_loadAgg rfl rfl (.own inferInstance inferInstance)) ?_
      refine to_p 7 rfl (by kernel_rfl) rfl (y_move (v := .int _ _) rfl) ?_
      refine to_e 3 rfl (by kernel_rfl) rfl (e_call' rfl (RoSecret_spec (otsV x.o) (hname.mono he) (hsec.mono he) q 65535 (by omega)) ?_)
      rintro _ M4 _ hM4 ⟨rfl, A4, m4, c4, rfl, hA4⟩
      rw [if_pos hy] at hA4
      have hm4 := hA4.size
      have hc4 := hA4.le
      replace he := he.trans hM4
      try replace hA5 := hA5.mono hM4
      refine ⟨⟨he, Keeps.mem⟩, ?_⟩
      refine to_p 4 rfl (by kernel_rfl) rfl (y_sliceH rfl rfl (by omega) (by omega)) ?_
      refine to_e 8 rfl (by kernel_rfl) rfl (e_call' rfl (RoSecret_spec (otsV x.o) (hname.mono he) (hsec.mono he) q 65534 (by omega)) ?_)
      rintro _ M5 _ hM5 ⟨rfl, A5, m5, c5, rfl, hA5⟩
      rw [if_pos hy] at hA5
      replace he := he.trans hM5
      try replace hA4 := hA4.mono hM5
      refine ⟨⟨he, Keeps.mem⟩, ?_⟩
      refine to_p 9 rfl (by kernel_rfl) rfl (y_build rfl) ?_
      refine to_t 10 rfl (by kernel_rfl) (by kernel_rfl) rfl (e_store rfl rfl (by rfl) (by rfl) inferInstance inferInstance inferInstance ?_)
      refine to_p 11 rfl (by kernel_rfl) rfl (y_assign rfl) ?_
      refine to_nil (by kernel_rfl) (.then_normal ?_)
      refine .sub (F' := [(6, _), (7, _)]) (.cons rfl (.cons rfl .nil)) ?_
      refine x_ret (retRV (L' := L) (rv2 rfl (rc_cellAgg (by rfl) rfl (.own inferInstance inferInstance)) (rc_tmp (by rfl))) inferInstance he ⟨rfl, ⟨_, _, _⟩, ⟨_, _, _⟩, by rw [he0], by rw [belNV, if_pos he0]; exact Bytes.take hA4 16 (by omega), by rw [belSV, if_pos he0]; exact hA5⟩)
end
end Go.Proofs.YtiimjodbaogjbaaGreatDoor
set_option linter.unusedVariables false
set_option linter.unusedSimpArgs false
set_option linter.constructorNameAsVariable false
namespace Go.Proofs.YtiimjodbaogjbaaGreatDoor
open Go Go.Eng
theorem atsN_inj {ts : List TreeV} {x y : Nat} (hx : x < pw2 (hsum ts)) (hy : y < pw2 (hsum ts)) (h : atsN ts x = atsN ts y) : x = y := by
  have hall : ∀ i, i ≤ ts.length → x / pw2 (hsum (ts.drop i)) = y / pw2 (hsum (ts.drop i)) := by
    intro i
    induction i with
    | zero => intro _; rw [List.drop_zero, Nat.div_eq_of_lt hx, Nat.div_eq_of_lt hy]
    | succ i ih =>
      intro hi
      have hg : ts[i]? = some (ts[i]'(by omega)) := List.getElem?_eq_getElem (by omega)
      have e1 := atN_step hg x
      have e2 := atN_step hg y
      have e3 : atN ts x i = atN ts y i := by
        have a1 := atsN_get ts x (i := i) (by omega)
        have a2 := atsN_get ts y (i := i) (by omega)
        rw [h, a2] at a1
        exact (Option.some.inj a1).symm
      rw [← e1, ← e2, ih (by omega), e3]
  have := hall ts.length (Nat.le_refl _)
  rw [List.drop_length] at this
  simpa [hsum, pw2] using this
theorem plE_zero {l : List PairV} {x : Nat} (h : plE l x = 0) : okL l ∧ x < totN l := by
  unfold plE at h
  split at h
  · rename_i h1
    split at h
    · rename_i h2; exact ⟨h1, h2⟩
    · cases h
  · cases h
theorem plV_inj {l : List PairV} {x y : Nat} (hx : plE l x = 0) (hy : plE l y = 0) : plV l x = plV l y ↔ x = y := by
  have h1 := plE_zero hx
  have h2 := plE_zero hy
  rw [plV, plV, if_pos h1, if_pos h2]
  have ht : totN l = pw2 (hsum (l.map tv)) := by rw [totN, if_pos h1.1]
  exact ⟨fun h => atsN_inj (by rw [← ht]; exact h1.2) (by rw [← ht]; exact h2.2) h, fun h => by rw [h]⟩
section
variable {G : World} {M : Mem} {L : Own} {NA SA TA : Option Addr} {nl nc sl_ sc tl tc : Nat} {name sec text : List UInt8}
theorem HssPlaces_spec (hg : LmG M) {A : Option Addr} {n c : Nat} {l : List PairV} (h : Row M 2 A n c (prow l)) (x y : UInt64) (hname : Bytes M NA nl nc name) (hsec : Bytes M SA sl_ sc sec) :
    Con Tryz.prog 5 #[.slice A n c, .agg (List.toArray [.int .u64 (x.toNat : Int), .int .u64 (y.toNat : Int)]), .agg (List.toArray (seedC NA nl nc SA sl_ sc))] G M L (fun v M' L' => v = .bool true) noPanic := by
  have hln : l.length = n := by have := h.len; rw [prow, flat_len pcl] at this; omega
  have hle := h.le
  have hxl := x.toNat_lt
  obtain ⟨q, hq⟩ : ∃ q : UInt32, q.toNat = x.toNat % 4294967296 := ⟨UInt32.ofNat (x.toNat % 4294967296), by rw [UInt32.toNat_ofNat', Nat.mod_eq_of_lt (by omega)]⟩
  refine enter (args := [_, _, _]) (fn := Tryz.f5) ⟨Tryz.func5, rfl, by kernel_rfl, by kernel_rfl⟩ 137 rfl ?_
  refine x_seq (x_region ?_)
  refine tl_e rfl (e_box rfl (fun b1 => ?_))
  refine tl_e rfl (e_box rfl (fun b2 => ?_))
  refine tl_y rfl (y_assign rfl) ?_
  refine tl_nil (.then_normal ?_)
  refine x_seq (x_seq (x_region ?_))
  refine tl_e rfl (e_call' rfl (awake13_spec hg.hs) ?_)
  rintro _ M1 _ hM1 ⟨rfl, rfl⟩
  have hd := hM1
  refine tl_y rfl (y_not rfl) ?_
  refine tl_nil (.then_normal ?_)
  refine .sub (F' := [(0, _), (4, _), (5, _), (18, _)]) (.cons rfl (.cons rfl (.cons rfl (.cons rfl .nil)))) ?_
  refine x_false rfl (rfl) ?_
  refine x_skip (.then_normal ?_)
  refine x_seq (x_seq (x_region ?_))
  refine tl_y rfl (y_move (v := .slice _ _ _) rfl) ?_
  refine tl_y rfl (y_len rfl) ?_
  refine tl_y rfl (y_gtr rfl rfl) ?_
  refine tl_y rfl (y_move (v := .bool _) rfl) ?_
  refine tl_cases (s := 22) rfl (fun hk1 => ?_) (fun hk1 => ?_)
  ·
    refine tl_skip rfl ?_
    refine tl_skip rfl ?_
    refine tl_skip rfl ?_
    refine tl_skip rfl ?_
    refine tl_y rfl (y_pickT rfl rfl) ?_
    refine tl_y rfl (y_move (v := .bool _) rfl) ?_
    refine tl_skip rfl ?_
    refine tl_skip rfl ?_
    refine tl_skip rfl ?_
    refine tl_skip rfl ?_
    refine tl_y rfl (y_pickT rfl rfl) ?_
    refine tl_nil (.then_normal ?_)
    refine .sub (F' := [(0, _), (4, _), (5, _), (33, _)]) (.cons rfl (.cons rfl (.cons rfl (.cons rfl .nil)))) ?_
    refine x_true rfl rfl ?_
    refine x_seq (x_region ?_)
    refine tl_y rfl (y_assign rfl) ?_
    refine tl_nil (.then_normal ?_)
    refine .sub (F' := [(6, _)]) (.cons rfl .nil) ?_
    refine x_ret (.then_ret (ret1 rfl rfl hd rfl))
  ·
    refine tl_y rfl (y_fieldAddr rfl) ?_
    refine tl_y rfl (y_load rfl rfl (.own inferInstance inferInstance)) ?_
    refine tl_y rfl (y_len rfl) ?_
    refine tl_y rfl (y_gtr rfl rfl) ?_
    refine tl_y rfl (y_pickF rfl rfl) ?_
    refine tl_y rfl (y_move (v := .bool _) rfl) ?_
    refine tl_cases (s := 28) rfl (fun hk2 => ?_) (fun hk2 => ?_)
    ·
      refine tl_skip rfl ?_
      refine tl_skip rfl ?_
      refine tl_skip rfl ?_
      refine tl_skip rfl ?_
      refine tl_y rfl (y_pickT rfl rfl) ?_
      refine tl_nil (.then_normal ?_)
      refine .sub (F' := [(0, _), (4, _), (5, _), (33, _)]) (.cons rfl (.cons rfl (.cons rfl (.cons rfl .nil)))) ?_
      refine x_true rfl rfl ?_
      refine x_seq (x_region ?_)
      refine tl_y rfl (y_assign rfl) ?_
      refine tl_nil (.then_normal ?_)
      refine .sub (F' := [(6, _)]) (.cons rfl .nil) ?_
      refine x_ret (.then_ret (ret1 rfl rfl hd rfl))
    ·
      refine tl_y rfl (y_fieldAddr rfl) ?_
      refine tl_y rfl (y_load rfl rfl (.own inferInstance inferInstance)) ?_
      refine tl_y rfl (y_len rfl) ?_
      refine tl_y rfl (y_gtr rfl rfl) ?_
      refine tl_y rfl (y_pickF rfl rfl) ?_
      refine tl_nil (.then_normal ?_)
      refine .sub (F' := [(0, _), (4, _), (5, _), (33, _)]) (.cons rfl (.cons rfl (.cons rfl (.cons rfl .nil)))) ?_
      refine x_cond rfl (fun hc2 => ?_) (fun hc2 => ?_)
      ·
        refine x_seq (x_region ?_)
        refine tl_y rfl (y_assign rfl) ?_
        refine tl_nil (.then_normal ?_)
        refine .sub (F' := [(6, _)]) (.cons rfl .nil) ?_
        refine x_ret (.then_ret (ret1 rfl rfl hd rfl))
      ·
        refine x_skip (.then_normal ?_)
        refine x_seq (x_region ?_)
        refine tl_y rfl (y_move (v := .slice _ _ _) rfl) ?_
        refine tl_y rfl (y_indexArrK 0 rfl rfl (by omega)) ?_
        refine tl_y rfl (y_load rfl rfl (.own inferInstance inferInstance)) ?_
        refine tl_e rfl (e_call' rfl (Places_spec (hg.mono hd).hs (h.mono hd) x) ?_)
        rintro _ M2 _ hM2 ⟨rfl, A2, n2, c2, rfl, hr2⟩
        replace hd := hd.trans hM2
        refine tl_y rfl (y_move (v := .tuple _) rfl) ?_
        refine tl_y rfl (y_extract rfl) ?_
        refine tl_y rfl (y_extract rfl) ?_
        refine tl_y rfl (y_assign (v := .slice _ _ _) rfl) ?_
        refine tl_y rfl (y_assign (v := .int _ _) rfl) ?_
        refine tl_nil (.then_normal ?_)
        refine .sub (F' := [(0, _), (4, _), (5, _), (7, _), (8, _)]) (.cons rfl (.cons rfl (.cons rfl (.cons rfl (.cons rfl .nil))))) ?_
        refine x_seq (x_region ?_)
        refine tl_y rfl (y_move (v := .slice _ _ _) rfl) ?_
        refine tl_y rfl (y_indexArrK 0 rfl rfl (by omega)) ?_
        refine tl_y rfl (y_load rfl rfl (.own inferInstance inferInstance)) ?_
        refine tl_e rfl (e_call' rfl (RPlaces_spec (h.mono hd) x) ?_)
        rintro _ M3 _ hM3 ⟨rfl, A3, n3, c3, rfl, hr3⟩
        replace hd := hd.trans hM3
        replace hr2 := hr2.mono hM3
        refine tl_y rfl (y_move (v := .tuple _) rfl) ?_
        refine tl_y rfl (y_extract rfl) ?_
        refine tl_y rfl (y_extract rfl) ?_
        refine tl_y rfl (y_assign (v := .slice _ _ _) rfl) ?_
        refine tl_y rfl (y_assign (v := .int _ _) rfl) ?_
        refine tl_nil (.then_normal ?_)
        refine .sub (F' := [(0, _), (4, _), (5, _), (7, _), (8, _), (9, _), (10, _)]) (.cons rfl (.cons rfl (.cons rfl (.cons rfl (.cons rfl (.cons rfl (.cons rfl .nil))))))) ?_
        refine x_seq (x_region ?_)
        refine tl_y rfl (y_move (v := .slice _ _ _) rfl) ?_
        refine tl_y rfl (y_indexArrK 1 rfl rfl (by omega)) ?_
        refine tl_y rfl (y_load rfl rfl (.own inferInstance inferInstance)) ?_
        refine tl_e rfl (e_call' rfl (Places_spec (hg.mono hd).hs (h.mono hd) y) ?_)
        rintro _ M4 _ hM4 ⟨rfl, A4, n4, c4, rfl, hr4⟩
        replace hd := hd.trans hM4
        replace hr2 := hr2.mono hM4
        replace hr3 := hr3.mono hM4
        refine tl_y rfl (y_move (v := .tuple _) rfl) ?_
        refine tl_y rfl (y_extract rfl) ?_
        refine tl_y rfl (y_extract rfl) ?_
        refine tl_y rfl (y_assign (v := .slice _ _ _) rfl) ?_
        refine tl_y rfl (y_assign (v := .int _ _) rfl) ?_
        refine tl_nil (.then_normal ?_)
        refine .sub (F' := [(0, _), (4, _), (5, _), (7, _), (8, _), (9, _), (10, _), (11, _), (12, _)]) (.cons rfl (.cons rfl (.cons rfl (.cons rfl (.cons rfl (.cons rfl (.cons rfl (.cons rfl (.cons rfl .nil))))))))) ?_
        refine x_seq (x_seq (x_region ?_))
        refine tl_y rfl (y_move (v := .slice _ _ _) rfl) ?_
        refine tl_y rfl (y_move (v := .slice _ _ _) rfl) ?_
        refine tl_e rfl (e_call' rfl (Words_spec hr2 hr3 rfl) ?_)
        rintro _ _ _ _ ⟨rfl, rfl, rfl⟩
        refine tl_y rfl (y_not rfl) ?_
        refine tl_y rfl (y_move (v := .bool _) rfl) ?_
        refine tl_set (s := 59) (u := .bool false) rfl (rfl) ?_
        refine tl_y rfl (y_move (v := .int _ _) rfl) ?_
        refine tl_y rfl (y_move (v := .int _ _) rfl) ?_
        refine tl_y rfl (y_neq rfl rfl) ?_
        refine tl_y rfl (y_pickF rfl rfl) ?_
        refine tl_y rfl (y_move (v := .bool _) rfl) ?_
        refine tl_set (s := 64) (u := .bool false) rfl (congrArg Value.bool (decide_eq_false (fun h => h rfl))) ?_
        refine tl_y rfl (y_move (v := .slice _ _ _) rfl) ?_
        refine tl_e rfl (e_call' rfl (hMay_spec (hg.mono hd).hs (h.mono hd)) ?_)
        rintro _ M5 _ hM5 ⟨rfl, rfl⟩
        replace hd := hd.trans hM5
        replace hr2 := hr2.mono hM5
        replace hr4 := hr4.mono hM5
        refine tl_y rfl (y_move (v := .slice _ _ _) rfl) ?_
        refine tl_e rfl (e_call' rfl (RMay13_spec (h.mono hd)) ?_)
        rintro _ _ _ _ ⟨rfl, rfl, rfl⟩
        refine tl_y rfl (y_neqBool rfl rfl) ?_
        refine tl_y rfl (y_pickF rfl rfl) ?_
        refine tl_y rfl (y_move (v := .bool _) rfl) ?_
        refine tl_set (s := 71) (u := .bool false) rfl (congrArg Value.bool (by simp)) ?_
        refine tl_y rfl (y_move (v := .slice _ _ _) rfl) ?_
        refine tl_e rfl (e_call' rfl (Total_spec (hg.mono hd).hs (h.mono hd)) ?_)
        rintro _ M6 _ hM6 ⟨rfl, rfl⟩
        replace hd := hd.trans hM6
        replace hr2 := hr2.mono hM6
        replace hr4 := hr4.mono hM6
        refine tl_y rfl (y_move (v := .slice _ _ _) rfl) ?_
        refine tl_e rfl (e_call' rfl (RTotal_spec (h.mono hd)) ?_)
        rintro _ _ _ _ ⟨rfl, rfl, rfl⟩
        refine tl_y rfl (y_neq rfl rfl) ?_
        refine tl_y rfl (y_pickF rfl rfl) ?_
        refine tl_nil (.then_normal ?_)
        refine .sub (F' := [(0, _), (4, _), (5, _), (7, _), (8, _), (11, _), (12, _), (77, _)]) (.cons rfl (.cons rfl (.cons rfl (.cons rfl (.cons rfl (.cons rfl (.cons rfl (.cons rfl .nil)))))))) ?_
        refine x_false rfl (decide_eq_false (fun h => h rfl)) ?_
        refine x_skip (.then_normal ?_)
        refine x_seq (x_seq ?_)
        refine x_meet (I := fun F D M7 L7 => ∃ bb : Bool, bb = false ∧ F = [(0, .slice A n c), (4, .pointer (some ⟨b1, 0, none⟩)), (5, .pointer (some ⟨b2, 0, none⟩)), (94, .bool bb)] ∧ D = [] ∧ M6 = M7 ∧ (b2, .cells (List.toArray (seedC NA nl nc SA sl_ sc)) 49 (0, 0)) :: (b1, .cells (List.toArray [.int .u64 (x.toNat : Int), .int .u64 (y.toNat : Int)]) 47 (0, 0)) :: L = L7) ?_ (fun Jd10 => ?_)
        ·
          rintro _ _ _ _ ⟨_, rfl, rfl, rfl, rfl, rfl⟩  -- slots [0, 4, 5, 94]
          refine x_false rfl (rfl) ?_
          refine x_skip (.then_normal ?_)
          refine x_seq (x_seq (x_region ?_))
          refine tl_y rfl (y_move (v := .slice _ _ _) rfl) ?_
          refine tl_y rfl (y_len rfl) ?_
          refine tl_y rfl (y_eql rfl rfl) ?_
          refine tl_nil (.then_normal ?_)
          refine x_cond rfl (fun hc5 => ?_) (fun hc5 => ?_)
          ·
            refine x_seq (x_region ?_)
            refine tl_y rfl (y_assign rfl) ?_
            refine tl_nil (.then_normal ?_)
            refine .sub (F' := [(6, _)]) (.cons rfl .nil) ?_
            refine x_ret (.then_ret (ret1 rfl rfl hd rfl))
          ·
            have hn0 : 0 < n := by omega
            obtain ⟨p, hp⟩ : ∃ p, l[0]? = some p := ⟨_, List.getElem?_eq_getElem (by omega)⟩
            obtain ⟨g, o, rfl, hcell⟩ := (h.mono hd).cellsN (by omega)
            have hc2 := fun L => hcell L (0 * 2) 2 (by rw [prow, flat_len pcl]; omega)
            simp only [prow, flat_take pcl l 0 p hp] at hc2
            refine x_skip (.then_normal ?_)
            refine .sub (F' := [(0, _), (4, _), (5, _)]) (.cons rfl (.cons rfl (.cons rfl .nil))) ?_
            refine x_seq ?_
            refine x_meet (I := fun F D M7 L7 => ∃ (b : Nat) (u z : SlV), F = [(0, .slice (some ⟨g, o, none⟩) n c), (4, .pointer (some ⟨b1, 0, none⟩)), (5, .pointer (some ⟨b2, 0, none⟩)), (13, .pointer (some ⟨b, 0, none⟩)), (14, .int .i64 (belE p nl sl_))] ∧ D = [] ∧ Le M6 M7 ∧ Bytes M7 u.a u.n u.c (belNV p nl sl_ name sec q.toNat) ∧ Bytes M7 z.a z.n z.c (belSV p nl sl_ name sec q.toNat) ∧ (b, .cells (List.toArray [u.v, z.v]) 49 (0, 0)) :: (b2, .cells (List.toArray (seedC NA nl nc SA sl_ sc)) 49 (0, 0)) :: (b1, .cells (List.toArray [.int .u64 (x.toNat : Int), .int .u64 (y.toNat : Int)]) 47 (0, 0)) :: L = L7) ?_ (fun Jd14 => ?_)
            ·
              rintro _ _ M7 _ ⟨b3, u, z, rfl, rfl, hM7, hu, hz, rfl⟩  -- slots [0, 4, 5, 13, 14]
              replace hd := hd.trans hM7
              obtain ⟨g', o', hgo, hcell'⟩ := (h.mono hd).cellsN (by omega)
              obtain ⟨rfl, rfl⟩ : g = g' ∧ o = o' := by simpa using hgo
              have hc3 := fun L => hcell' L (0 * 2) 2 (by rw [prow, flat_len pcl]; omega)
              simp only [prow, flat_take pcl l 0 p hp] at hc3
              refine x_seq ?_
              refine x_meet (I := fun F D M8 L8 => ∃ (b : Nat) (u' z' : SlV), F = [(13, .pointer (some ⟨b3, 0, none⟩)), (14, .int .i64 (belE p nl sl_)), (15, .pointer (some ⟨b, 0, none⟩)), (16, .int .i64 (belE p nl sl_))] ∧ D = [] ∧ Le M7 M8 ∧ Bytes M8 u'.a u'.n u'.c (belNV p nl sl_ name sec q.toNat) ∧ Bytes M8 z'.a z'.n z'.c (belSV p nl sl_ name sec q.toNat) ∧ (b, .cells (List.toArray [u'.v, z'.v]) 49 (0, 0)) :: (b3, .cells (List.toArray [u.v, z.v]) 49 (0, 0)) :: (b2, .cells (List.toArray (seedC NA nl nc SA sl_ sc)) 49 (0, 0)) :: (b1, .cells (List.toArray [.int .u64 (x.toNat : Int), .int .u64 (y.toNat : Int)]) 47 (0, 0)) :: L = L8) ?_ (fun Jd15 => ?_)
              ·
                rintro _ _ M8 _ ⟨b4, u', z', rfl, rfl, hM8, hu', hz', rfl⟩  -- slots [13, 14, 15, 16]
                refine x_seq (x_region ?_)
                refine tl_y rfl (y_move (v := .int _ _) rfl) ?_
                refine tl_y rfl (y_move (v := .int _ _) rfl) ?_
                refine tl_y rfl (y_eql rfl rfl) ?_
                refine tl_y rfl (y_move (v := .bool _) rfl) ?_
                refine tl_set (s := 123) (u := .bool true) rfl (congrArg Value.bool (decide_eq_true rfl)) ?_
                refine tl_y rfl (y_fieldAddr rfl) ?_
                refine tl_y rfl (y_load rfl rfl (.own inferInstance inferInstance)) ?_
                refine tl_y rfl (y_fieldAddr rfl) ?_
                refine tl_y rfl (y_load rfl rfl (.own inferInstance inferInstance)) ?_
                refine tl_e rfl (e_call' rfl (same_spec (hu.mono hM8) hu') ?_)
                rintro _ _ _ _ ⟨rfl, rfl, rfl⟩
                refine tl_y rfl (y_pickT rfl rfl) ?_
                refine tl_y rfl (y_move (v := .bool _) rfl) ?_
                refine tl_set (s := 130) (u := .bool true) rfl (congrArg Value.bool (decide_eq_true rfl)) ?_
                refine tl_y rfl (y_fieldAddr rfl) ?_
                refine tl_y rfl (y_load rfl rfl (.own inferInstance inferInstance)) ?_
                refine tl_y rfl (y_fieldAddr rfl) ?_
                refine tl_y rfl (y_load rfl rfl (.own inferInstance inferInstance)) ?_
                refine tl_e rfl (e_call' rfl (same_spec (hz.mono hM8) hz') ?_)
                rintro _ _ _ _ ⟨rfl, rfl, rfl⟩
                refine tl_y rfl (y_pickT rfl rfl) ?_
                refine tl_y rfl (y_assign (v := .bool _) rfl) ?_
                refine tl_nil (.then_normal ?_)
                refine .sub (F' := [(6, _)]) (.cons rfl .nil) ?_
                refine x_ret (ret1 rfl rfl (hd.trans hM8) (congrArg Value.bool (decide_eq_true rfl)))
              ·
                have he : Le M7 M7 := Le.refl _
                refine x_draw0 13 ([(b3, .cells (List.toArray [u.v, z.v]) 49 (0, 0)), (b2, .cells (List.toArray (seedC NA nl nc SA sl_ sc)) 49 (0, 0)), (b1, .cells (List.toArray [.int .u64 (x.toNat : Int), .int .u64 (y.toNat : Int)]) 47 (0, 0))]) Keeps.mem hmix rfl ?_
                refine to_p 0 rfl (by kernel_rfl) rfl (y_move (v := .slice _ _ _) rfl) ?_
                refine to_p 1 rfl (by kernel_rfl) rfl (y_indexAddr rfl rfl (by omega)) ?_
                refine to_y 2 rfl (by kernel_rfl) rfl (y_loadAgg rfl rfl (.at_ (hc3 _) (by omega))) ?_
                refine to_y 3 rfl (by kernel_rfl) rfl (y_loadAgg rfl rfl (.own inferInstance inferInstance)) ?_
                refine to_p 4 rfl (by kernel_rfl) rfl (y_indexArrK 0 rfl rfl (by omega)) ?_
                refine to_y 5 rfl (by kernel_rfl) rfl (y_load rfl rfl (.own inferInstance inferInstance)) ?_
                refine to_p 6 rfl (by kernel_rfl) rfl (y_convE (b := (q.toNat : Int)) rfl (by rw [wrapU32, hq]; omega)) ?_
                refine to_two 7 11 (by kernel_rfl) ?_ ?_
                ·
                  refine two_e 7 rfl rfl (e_call' rfl (RBelow_spec p (hname.mono hd) (hsec.mono hd) q) ?_)
                  rintro _ M8 _ hM8 ⟨rfl, u', z', rfl, hu', hz'⟩
                  replace he := he.trans hM8
                  refine ⟨⟨he, Keeps.mem⟩, ?_⟩
                  refine to_p 8 rfl (by kernel_rfl) rfl (y_move (v := .tuple _) rfl) ?_
                  refine to_p 9 rfl (by kernel_rfl) rfl (y_extract rfl) ?_
                  refine to_p 10 rfl (by kernel_rfl) rfl (y_extract rfl) ?_
                  refine to_e 11 rfl (by kernel_rfl) rfl (e_alloc (fun b3 => ?_))
                  refine ⟨⟨(by first | exact Le.refl _ | assumption), Keeps.mem⟩, ?_⟩
                  refine to_e 12 rfl (by kernel_rfl) rfl (e_store rfl rfl (by rfl) (by rfl) inferInstance inferInstance inferInstance ?_)
                  refine ⟨⟨(by first | exact Le.refl _ | assumption), Keeps.mem⟩, ?_⟩
                  refine to_y1 13 rfl (by kernel_rfl) rfl (y_assign (v := .int _ _) rfl) ?_
                  refine to_nil (by kernel_rfl) (.then_normal (.sub (F' := [(13, _), (14, _), (15, _), (16, _)]) (.cons rfl (.cons rfl (.cons rfl (.cons rfl .nil)))) (Jd15 _ _ _ _ ?_)))
                  exact ⟨_, _, _, rfl, rfl, he, hu', hz', rfl⟩
                ·
                  refine two_e 11 rfl rfl (e_alloc (fun b4 => ?_))
                  refine ⟨⟨(by first | exact Le.refl _ | assumption), Keeps.mem⟩, ?_⟩
                  refine to_e 7 rfl (by kernel_rfl) rfl (e_call' rfl (RBelow_spec p (hname.mono hd) (hsec.mono hd) q) ?_)
                  rintro _ M8 _ hM8 ⟨rfl, u', z', rfl, hu', hz'⟩
                  replace he := he.trans hM8
                  refine ⟨⟨he, Keeps.mem⟩, ?_⟩
                  refine to_p 8 rfl (by kernel_rfl) rfl (y_move (v := .tuple _) rfl) ?_
                  refine to_p 9 rfl (by kernel_rfl) rfl (y_extract rfl) ?_
                  refine to_p 10 rfl (by kernel_rfl) rfl (y_extract rfl) ?_
                  refine to_e 12 rfl (by kernel_rfl) rfl (e_store rfl rfl (by rfl) (by rfl) inferInstance inferInstance inferInstance ?_)
                  refine ⟨⟨(by first | exact Le.refl _ | assumption), Keeps.mem⟩, ?_⟩
                  refine to_y1 13 rfl (by kernel_rfl) rfl (y_assign (v := .int _ _) rfl) ?_
                  refine to_nil (by kernel_rfl) (.then_normal (.sub (F' := [(13, _), (14, _), (15, _), (16, _)]) (.cons rfl (.cons rfl (.cons rfl (.cons rfl .nil)))) (Jd15 _ _ _ _ ?_)))
                  exact ⟨_, _, _, rfl, rfl, he, hu', hz', rfl⟩
            ·
              have he : Le M6 M6 := Le.refl _
              refine x_draw0 13 ([(b2, .cells (List.toArray (seedC NA nl nc SA sl_ sc)) 49 (0, 0)), (b1, .cells (List.toArray [.int .u64 (x.toNat : Int), .int .u64 (y.toNat : Int)]) 47 (0, 0))]) Keeps.mem hmix rfl ?_
              refine to_p 0 rfl (by kernel_rfl) rfl (y_move (v := .slice _ _ _) rfl) ?_
              refine to_p 1 rfl (by kernel_rfl) rfl (y_indexAddr rfl rfl (by omega)) ?_
              refine to_y 2 rfl (by kernel_rfl) rfl (y_loadAgg rfl rfl (.at_ (hc2 _) (by omega))) ?_
              refine to_y 3 rfl (by kernel_rfl) rfl (y_loadAgg rfl rfl (.own inferInstance inferInstance)) ?_
              refine to_p 4 rfl (by kernel_rfl) rfl (y_indexArrK 0 rfl rfl (by omega)) ?_
              refine to_y 5 rfl (by kernel_rfl) rfl (y_load rfl rfl (.own inferInstance inferInstance)) ?_
              refine to_p 6 rfl (by kernel_rfl) rfl (y_convE (b := (q.toNat : Int)) rfl (by rw [wrapU32, hq]; omega)) ?_
              refine to_two 7 11 (by kernel_rfl) ?_ ?_
              ·
                refine two_e 7 rfl rfl (e_call' rfl (Below_spec (hg.mono hd) p (hname.mono hd) (hsec.mono hd) q) ?_)
                rintro _ M7 _ hM7 ⟨rfl, u, z, rfl, hu, hz⟩
                replace he := he.trans hM7
                refine ⟨⟨he, Keeps.mem⟩, ?_⟩
                refine to_p 8 rfl (by kernel_rfl) rfl (y_move (v := .tuple _) rfl) ?_
                refine to_p 9 rfl (by kernel_rfl) rfl (y_extract rfl) ?_
                refine to_p 10 rfl (by kernel_rfl) rfl (y_extract rfl) ?_
                refine to_e 11 rfl (by kernel_rfl) rfl (e_alloc (fun b5 => ?_))
                refine ⟨⟨(by first | exact Le.refl _ | assumption), Keeps.mem⟩, ?_⟩
                refine to_e 12 rfl (by kernel_rfl) rfl (e_store rfl rfl (by rfl) (by rfl) inferInstance inferInstance inferInstance ?_)
                refine ⟨⟨(by first | exact Le.refl _ | assumption), Keeps.mem⟩, ?_⟩
                refine to_y1 13 rfl (by kernel_rfl) rfl (y_assign (v := .int _ _) rfl) ?_
                refine to_nil (by kernel_rfl) (.then_normal (.sub (F' := [(0, _), (4, _), (5, _), (13, _), (14, _)]) (.cons rfl (.cons rfl (.cons rfl (.cons rfl (.cons rfl .nil))))) (Jd14 _ _ _ _ ?_)))
                exact ⟨_, _, _, rfl, rfl, he, hu, hz, rfl⟩
              ·
                refine two_e 11 rfl rfl (e_alloc (fun b6 => ?_))
                refine ⟨⟨(by first | exact Le.refl _ | assumption), Keeps.mem⟩, ?_⟩
                refine to_e 7 rfl (by kernel_rfl) rfl (e_call' rfl (Below_spec (hg.mono hd) p (hname.mono hd) (hsec.mono hd) q) ?_)
                rintro _ M7 _ hM7 ⟨rfl, u, z, rfl, hu, hz⟩
                replace he := he.trans hM7
                refine ⟨⟨he, Keeps.mem⟩, ?_⟩
                refine to_p 8 rfl (by kernel_rfl) rfl (y_move (v := .tuple _) rfl) ?_
                refine to_p 9 rfl (by kernel_rfl) rfl (y_extract rfl) ?_
                refine to_p 10 rfl (by kernel_rfl) rfl (y_extract rfl) ?_
                refine to_e 12 rfl (by kernel_rfl) rfl (e_store rfl rfl (by rfl) (by rfl) inferInstance inferInstance inferInstance ?_)
                refine ⟨⟨(by first | exact Le.refl _ | assumption), Keeps.mem⟩, ?_⟩
                refine to_y1 13 rfl (by kernel_rfl) rfl (y_assign (v := .int _ _) rfl) ?_
                refine to_nil (by kernel_rfl) (.then_normal (.sub (F' := [(0, _), (4, _), (5, _), (13, _), (14, _)]) (.cons rfl (.cons rfl (.cons rfl (.cons rfl (.cons rfl .nil))))) (Jd14 _ _ _ _ ?_)))
                exact ⟨_, _, _, rfl, rfl, he, hu, hz, rfl⟩
        ·
          have he : Le M6 M6 := Le.refl _
          refine x_draw 17 hmix rfl ?_
          refine to_p 0 rfl (by kernel_rfl) rfl (y_move (v := .int _ _) rfl) ?_
          refine to_p 1 rfl (by kernel_rfl) rfl (y_eql rfl rfl) ?_
          refine to_p 2 rfl (by kernel_rfl) rfl (y_move (v := .bool _) rfl) ?_
          refine to_cases (s := 80) rfl (fun hk8 => ?_) (fun hk8 => ?_)
          ·
            refine to_p 3 rfl (by kernel_rfl) rfl (y_move (v := .int _ _) rfl) ?_
            refine to_p 4 rfl (by kernel_rfl) rfl (y_eql rfl rfl) ?_
            refine to_p 5 rfl (by kernel_rfl) rfl (y_pickT rfl rfl) ?_
            refine to_p 6 rfl (by kernel_rfl) rfl (y_move (v := .bool _) rfl) ?_
            refine to_cases (s := 84) rfl (fun hk9 => ?_) (fun hk9 => ?_)
            ·
              refine to_p 7 rfl (by kernel_rfl) rfl (y_move (v := .slice _ _ _) rfl) ?_
              refine to_p 8 rfl (by kernel_rfl) rfl (y_move (v := .slice _ _ _) rfl) ?_
              refine to_p 10 rfl (by kernel_rfl) rfl (y_indexArrK 0 rfl rfl (by omega)) ?_
              refine to_y 11 rfl (by kernel_rfl) rfl (y_load rfl rfl (.own inferInstance inferInstance)) ?_
              refine to_p 12 rfl (by kernel_rfl) rfl (y_indexArrK 1 rfl rfl (by omega)) ?_
              refine to_y 13 rfl (by kernel_rfl) rfl (y_load rfl rfl (.own inferInstance inferInstance)) ?_
              refine to_p 14 rfl (by kernel_rfl) rfl (y_eql rfl rfl) ?_
              refine to_e 9 rfl (by kernel_rfl) rfl (e_call' rfl (WordsD_spec hr2 hr4) ?_)
              rintro _ _ _ _ ⟨rfl, rfl, rfl⟩
              refine ⟨⟨(by first | exact Le.refl _ | assumption), Keeps.mem⟩, ?_⟩
              refine to_p 15 rfl (by kernel_rfl) rfl (y_neqBool rfl rfl) ?_
              refine to_p 16 rfl (by kernel_rfl) rfl (y_pickT rfl rfl) ?_
              refine to_nil (by kernel_rfl) (.then_normal (.sub (F' := [(0, _), (4, _), (5, _), (94, _)]) (.cons rfl (.cons rfl (.cons rfl (.cons rfl .nil)))) (Jd10 _ _ _ _ ?_)))
              exact ⟨_, by first | rfl | (rw [decide_eq_decide.2 ((plV_inj hk8 hk9).trans Int.ofNat_inj.symm)]; exact bne_self_eq_false _), rfl, rfl, rfl, rfl⟩
            ·
              refine to_skip 7 rfl (by kernel_rfl) rfl ?_
              refine to_skip 8 rfl (by kernel_rfl) rfl ?_
              refine to_skip 9 rfl (by kernel_rfl) rfl ?_
              refine to_skip 10 rfl (by kernel_rfl) rfl ?_
              refine to_skip 11 rfl (by kernel_rfl) rfl ?_
              refine to_skip 12 rfl (by kernel_rfl) rfl ?_
              refine to_skip 13 rfl (by kernel_rfl) rfl ?_
              refine to_skip 14 rfl (by kernel_rfl) rfl ?_
              refine to_skip 15 rfl (by kernel_rfl) rfl ?_
              refine to_p 16 rfl (by kernel_rfl) rfl (y_pickF rfl rfl) ?_
              refine to_nil (by kernel_rfl) (.then_normal (.sub (F' := [(0, _), (4, _), (5, _), (94, _)]) (.cons rfl (.cons rfl (.cons rfl (.cons rfl .nil)))) (Jd10 _ _ _ _ ?_)))
              exact ⟨_, by first | rfl | (rw [decide_eq_decide.2 ((plV_inj hk8 hk9).trans Int.ofNat_inj.symm)]; exact bne_self_eq_false _), rfl, rfl, rfl, rfl⟩
          ·
            refine to_skip 3 rfl (by kernel_rfl) rfl ?_
            refine to_skip 4 rfl (by kernel_rfl) rfl ?_
            refine to_p 5 rfl (by kernel_rfl) rfl (y_pickF rfl rfl) ?_
            refine to_p 6 rfl (by kernel_rfl) rfl (y_move (v := .bool _) rfl) ?_
            refine to_skip 7 rfl (by kernel_rfl) rfl ?_
            refine to_skip 8 rfl (by kernel_rfl) rfl ?_
            refine to_skip 9 rfl (by kernel_rfl) rfl ?_
            refine to_skip 10 rfl (by kernel_rfl) rfl ?_
            refine to_skip 11 rfl (by kernel_rfl) rfl ?_
            refine to_skip 12 rfl (by kernel_rfl) rfl ?_
            refine to_skip 13 rfl (by kernel_rfl) rfl ?_
            refine to_skip 14 rfl (by kernel_rfl) rfl ?_
            refine to_skip 15 rfl (by kernel_rfl) rfl ?_
            refine to_p 16 rfl (by kernel_rfl) rfl (y_pickF rfl rfl) ?_
            refine to_nil (by kernel_rfl) (.then_normal (.sub (F' := [(0, _), (4, _), (5, _), (94, _)]) (.cons rfl (.cons rfl (.cons rfl (.cons rfl .nil)))) (Jd10 _ _ _ _ ?_)))
            exact ⟨_, by first | rfl | (rw [decide_eq_decide.2 ((plV_inj hk8 hk9).trans Int.ofNat_inj.symm)]; exact bne_self_eq_false _), rfl, rfl, rfl, rfl⟩
end
end Go.Proofs.YtiimjodbaogjbaaGreatDoor
