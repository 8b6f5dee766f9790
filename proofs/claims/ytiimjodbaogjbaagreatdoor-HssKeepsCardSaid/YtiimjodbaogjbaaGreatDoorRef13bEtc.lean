/-
Contracts of functions, each proved by a walk through its code.
-/
import Derived.Test.YtiimjodbaogjbaaGreatDoorLms4Etc
import Derived.Test.YtiimjodbaogjbaaGreatDoorHss7Etc
import Derived.Test.YtiimjodbaogjbaaGreatDoorHss14Etc
import Derived.Test.YtiimjodbaogjbaaGreatDoorOnce3Etc
import Derived.Test.YtiimjodbaogjbaaGreatDoorDig2Etc
import Derived.Test.YtiimjodbaogjbaaGreatDoorEngWEtc
import Derived.Test.YtiimjodbaogjbaaGreatDoorLms5Etc
import Derived.Test.YtiimjodbaogjbaaGreatDoorMerkle5Etc
set_option linter.unusedVariables false
set_option linter.unusedSimpArgs false
set_option linter.constructorNameAsVariable false
namespace Go.Proofs.YtiimjodbaogjbaaGreatDoor
open Go Go.Eng
theorem flat_drop {α : Type} {f : α → List Value} {s : Nat} (hf : ∀ a, (f a).length = s) : ∀ (l : List α) (k : Nat), (l.drop k).flatMap f = (l.flatMap f).drop (k * s)
  | [], k => by simp
  | a :: l, 0 => by simp
  | a :: l, k + 1 => by
    have e : (f a).drop ((k + 1) * s) = [] := List.drop_of_length_le (by rw [hf, Nat.succ_mul]; omega)
    rw [List.drop_succ_cons, List.flatMap_cons, List.drop_append, hf, show (k + 1) * s - s = k * s by rw [Nat.succ_mul]; omega, e, List.nil_append]
    exact flat_drop hf l k
theorem okL_drop {l : List PairV} (h : okL l) {k : Nat} (hk : k < l.length) : okL (l.drop k) := by
  obtain ⟨h1, h2, h3⟩ := h
  have hg : (l.drop k).getD 0 p0 = l.getD k p0 := by rw [List.getD_eq_getElem?_getD, List.getD_eq_getElem?_getD, List.getElem?_drop, Nat.add_zero]
  have hmk : l.getD k p0 ∈ l := getD_mem l k p0 hk
  refine ⟨⟨by rw [List.length_drop]; omega, by rw [List.length_drop]; omega⟩, fun p hp => ?_, ?_⟩
  · have e1 := h2 p (List.mem_of_mem_drop hp)
    have e2 := h2 _ hmk
    rw [good, hg]
    exact ⟨e1.1, e1.2.1.trans e2.2.1.symm, e1.2.2.trans e2.2.2.symm⟩
  · rw [List.map_drop]
    have : hsum ((l.map tv).drop k) ≤ hsum (l.map tv) := by
      have e := congrArg hsum (List.take_append_drop k (l.map tv))
      rw [hsum, List.map_append, List.sum_append] at e
      unfold hsum
      unfold hsum at e
      omega
    omega
section
variable {G : World} {M : Mem} {L : Own} {NA SA TA : Option Addr} {nl nc sl_ sc tl tc : Nat} {name sec text : List UInt8}
theorem prow_sub {A : Option Addr} {n c : Nat} {l : List PairV} (h : Row M 2 A n c (prow l)) {i j : Nat} (hij : i ≤ j) (hj : j ≤ n) : Row M 2 (sl A i c 2) (j - i) (c - i) (prow ((l.drop i).take (j - i))) := by
  have hle := h.le
  have h1 := Row.slice (l := i) (h := j) (m := c) h (by omega) (by omega) (by omega) (Nat.le_refl _)
  have e : ((prow l).drop (i * 2)).take ((j - i) * 2) = prow ((l.drop i).take (j - i)) := by
    rw [prow, prow, ← flat_drop pcl]
    generalize l.drop i = l'
    generalize j - i = k
    induction k generalizing l' with
    | zero => simp
    | succ k ih =>
      cases l' with
      | nil => simp
      | cons a l' => rw [List.take_succ_cons, List.flatMap_cons, List.flatMap_cons, Nat.succ_mul, Nat.add_comm (k * 2) 2, ← ih l', List.take_append, pcl, show 2 + k * 2 - 2 = k * 2 by omega, List.take_of_length_le (by rw [pcl]; omega)]
  rwa [e] at h1
theorem RTotal_spec {A : Option Addr} {n c : Nat} {l : List PairV} (h : Row M 2 A n c (prow l)) :
    Con Tryz.prog 31 #[.slice A n c] G M L (fun v M' L' => M = M' ∧ L = L' ∧ v = .int .u64 (totN l : Nat)) noPanic := by
  have hmx := h.max
  have hle := h.le
  have hln : l.length = n := by have := h.len; rw [prow, flat_len pcl] at this; omega
  refine enter (args := [_]) (fn := Tryz.f31) ⟨Tryz.func31, rfl, by kernel_rfl, by kernel_rfl⟩ 36 rfl ?_
  refine x_seq (x_region ?_)
  refine tl_y rfl (y_assign rfl) ?_
  refine tl_nil (.then_normal ?_)
  refine x_seq (x_region ?_)
  refine tl_y rfl (y_assign rfl) ?_
  refine tl_nil (.then_normal ?_)
  refine x_seq (x_seq (x_region ?_))
  refine tl_y rfl (y_move (v := .slice _ _ _) rfl) ?_
  refine tl_e rfl (e_call' rfl (RMay13_spec h) ?_)
  rintro _ _ _ _ ⟨rfl, rfl, rfl⟩
  refine tl_y rfl (y_notd rfl) ?_
  refine tl_nil (.then_normal ?_)
  refine x_cond rfl (fun hc1 => ?_) (fun hc1 => ?_)
  ·
    refine x_seq (x_region ?_)
    refine tl_y rfl (y_assign rfl) ?_
    refine tl_nil (.then_normal ?_)
    refine .sub (F' := [(2, _)]) (.cons rfl .nil) ?_
    refine x_ret (.then_ret (ret1 rfl rfl (Le.refl _) ⟨rfl, rfl, by rw [totN, if_neg hc1]; rfl⟩))
  ·
    have hok : okL l := Classical.not_not.1 hc1
    have h60 := hok.2.2
    refine x_skip (.then_normal ?_)
    refine .sub (F' := [(0, _), (3, _)]) (.cons rfl (.cons rfl .nil)) ?_
    refine x_seq (x_seq (x_region ?_))
    refine tl_y rfl (y_assign rfl) ?_
    refine tl_nil (.then_normal ?_)
    refine x_block ?_
    refine x_loop (I := fun m' F D M1 L1 => ∃ k : Nat, m' = n - k ∧ k ≤ n ∧ D = [] ∧ M = M1 ∧ L = L1 ∧ F = [(0, .slice A n c), (3, .int .u64 (pw2 (hsum ((l.take k).map tv)) : Nat)), (4, .int .i64 k)]) (n) (F0 := [(0, _), (3, _), (4, _)]) ?_ (.cons rfl (.cons rfl (.cons rfl .nil))) ?_  -- slots [0, 3, 4], written [3, 4]
    · exact ⟨0, rfl, by omega, rfl, rfl, rfl, rfl⟩
    rintro m _ _ _ _ ⟨k, rfl, hk, rfl, rfl, rfl, rfl⟩
    refine x_seq (x_seq (x_region ?_))
    refine tl_y rfl (y_move (v := .int _ _) rfl) ?_
    refine tl_y rfl (y_move (v := .slice _ _ _) rfl) ?_
    refine tl_y rfl (y_len rfl) ?_
    refine tl_y rfl (y_lss rfl rfl) ?_
    refine tl_nil (.then_normal ?_)
    refine x_cond rfl (fun hc2 => ?_) (fun hc2 => ?_)
    ·
      have hkn : k < n := by omega
      obtain ⟨p, hp⟩ : ∃ p, l[k]? = some p := ⟨_, List.getElem?_eq_getElem (by omega)⟩
      have hmem : p ∈ l := List.mem_of_getElem? hp
      have htk : l.take (k + 1) = l.take k ++ [p] := by
        rw [List.take_add_one, hp]; rfl
      obtain ⟨hH, hH1, hH25⟩ := okP_h (hok.2.1 p hmem).1
      have hsn : hsum ((l.take (k + 1)).map tv) = hsum ((l.take k).map tv) + hN (tv p) := by rw [htk, List.map_append]; exact hsum_snoc _ _
      have hs60 : hsum ((l.take (k + 1)).map tv) ≤ hsum (l.map tv) := by rw [List.map_take]; exact hsum_take _
      obtain ⟨g, o, rfl, hcell⟩ := h.cellsN (by omega)
      have hc2 := fun L => hcell L (k * 2) 2 (by rw [prow, flat_len pcl]; omega)
      simp only [prow, flat_take pcl l k p hp] at hc2
      refine x_skip (.then_normal ?_)
      refine .sub (F' := [(0, _), (3, _), (4, _)]) (.cons rfl (.cons rfl (.cons rfl .nil))) ?_
      refine x_seq ?_
      refine x_block ?_
      refine x_seq (x_region ?_)
      refine tl_y rfl (y_move (v := .slice _ _ _) rfl) ?_
      refine tl_y rfl (y_move (v := .int _ _) rfl) ?_
      refine tl_y rfl (y_indexAddr rfl rfl (by omega)) ?_
      refine tl_y rfl (y_loadAgg rfl rfl (.at_ (hc2 _) (by omega))) ?_
      refine tl_e rfl (e_call' rfl (RSets12_spec p) ?_)
      rintro _ _ _ _ ⟨rfl, rfl, rfl⟩
      refine tl_y rfl (y_move (v := .tuple _) rfl) ?_
      refine tl_y rfl (y_extract rfl) ?_
      refine tl_y rfl (y_extract rfl) ?_
      refine tl_y rfl (y_extract rfl) ?_
      refine tl_e rfl (e_alloc (fun b1 => ?_))
      refine tl_e rfl (e_alloc (fun b2 => ?_))
      refine tl_e rfl (e_store rfl rfl (by rfl) (by rfl) inferInstance inferInstance inferInstance ?_)
      refine tl_e rfl (e_store rfl rfl (by rfl) (by rfl) inferInstance inferInstance inferInstance ?_)
      refine tl_y rfl (y_assign (v := .bool _) rfl) ?_
      refine tl_nil (.then_normal ?_)
      refine .sub (F' := [(0, _), (3, _), (4, _), (6, _)]) (.cons rfl (.cons rfl (.cons rfl (.cons rfl .nil)))) ?_
      refine x_seq (x_region ?_)
      refine tl_y rfl (y_assign rfl) ?_
      refine tl_nil (.then_normal ?_)
      refine x_block ?_
      refine x_loop (I := fun m' F D M1 L1 => ∃ j : Nat, m' = hN (tv p) - j ∧ j ≤ hN (tv p) ∧ D = [] ∧ M = M1 ∧ (b2, .cells (List.toArray (treeV p.t).cells) 29 (0, 0)) :: (b1, .cells (List.toArray (otsV p.o).cells) 27 (0, 0)) :: L = L1 ∧ F = [(0, .slice (some ⟨g, o, none⟩) n c), (3, .int .u64 (pw2 (hsum ((l.take k).map tv) + j) : Nat)), (4, .int .i64 k), (6, .pointer (some ⟨b2, 0, none⟩)), (8, .int .i64 j)]) (hN (tv p)) (F0 := [(0, _), (3, _), (4, _), (6, _), (8, _)]) ?_ (.cons rfl (.cons rfl (.cons rfl (.cons rfl (.cons rfl .nil))))) ?_  -- slots [0, 3, 4, 6, 8], written [3, 8]
      · exact ⟨0, rfl, by omega, rfl, rfl, rfl, rfl⟩
      rintro m _ _ _ _ ⟨j, rfl, hj, rfl, rfl, rfl, rfl⟩
      refine x_seq (x_seq (x_region ?_))
      refine tl_y rfl (y_move (v := .int _ _) rfl) ?_
      refine tl_y rfl (y_fieldAddr rfl) ?_
      refine tl_y rfl (y_load (v := .int .i64 ((hN (tv p) : Nat) : Int)) rfl rfl (by rw [← hH]; exact .own inferInstance inferInstance)) ?_
      refine tl_y rfl (y_lss rfl rfl) ?_
      refine tl_nil (.then_normal ?_)
      refine x_cond rfl (fun hc3 => ?_) (fun hc3 => ?_)
      ·
        have hj60 := pw2_60 (a := hsum ((l.take k).map tv) + (j + 1)) (by omega)
        have hdb := pw2_succ (hsum ((l.take k).map tv) + j)
        rw [← Nat.add_assoc] at hj60
        refine x_skip (.then_normal ?_)
        refine .sub (F' := [(0, _), (3, _), (4, _), (6, _), (8, _)]) (.cons rfl (.cons rfl (.cons rfl (.cons rfl (.cons rfl .nil))))) ?_
        refine x_seq ?_
        refine x_block ?_
        refine x_region ?_
        refine tl_y rfl (y_move (v := .int _ _) rfl) ?_
        refine tl_y rfl (y_mulN64 rfl rfl (by omega)) ?_
        rw [hdb]
        refine tl_y rfl (y_assign (v := .int _ _) rfl) ?_
        refine tl_nil (.block_normal (.then_normal ?_))
        refine x_region ?_
        refine tl_y rfl (y_move (v := .int _ _) rfl) ?_
        refine tl_y rfl (y_addI rfl rfl (by omega)) ?_
        refine tl_y rfl (y_assign (v := .int _ _) rfl) ?_
        refine tl_nil (.loop_next (m' := hN (tv p) - (j + 1)) (by omega) (F' := [(0, _), (3, _), (4, _), (6, _), (8, _)]) (.cons rfl (.cons rfl (.cons rfl (.cons rfl (.cons rfl .nil))))) ?_)
        exact ⟨j + 1, rfl, by omega, rfl, rfl, rfl, rfl⟩
      ·
        obtain rfl : j = hN (tv p) := by omega
        refine .dropTo L inferInstance ?_
        refine x_exit (.then_exit (.loop_exit (.block_exit (.block_normal (.then_normal ?_)))))
        refine .sub (F' := [(0, _), (3, _), (4, _)]) (.cons rfl (.cons rfl (.cons rfl .nil))) ?_
        refine x_region ?_
        refine tl_y rfl (y_move (v := .int _ _) rfl) ?_
        refine tl_y rfl (y_addI rfl rfl (by omega)) ?_
        refine tl_y rfl (y_assign (v := .int _ _) rfl) ?_
        refine tl_nil (.loop_next (m' := n - (k + 1)) (by omega) (F' := [(0, _), (3, _), (4, _)]) (.cons rfl (.cons rfl (.cons rfl .nil))) ?_)
        exact ⟨k + 1, rfl, by omega, rfl, rfl, rfl, by rw [hsn]; rfl⟩
    ·
      obtain rfl : k = n := by omega
      rw [List.take_of_length_le (by omega)]
      refine x_exit (.then_exit (.loop_exit (.block_exit (.then_normal ?_))))
      refine .sub (F' := [(3, _)]) (.cons rfl .nil) ?_
      refine x_seq (x_region ?_)
      refine tl_y rfl (y_move (v := .int _ _) rfl) ?_
      refine tl_y rfl (y_assign (v := .int _ _) rfl) ?_
      refine tl_nil (.then_normal ?_)
      refine x_ret (ret1 rfl rfl (Le.refl _) ⟨rfl, rfl, by rw [totN, if_pos hok]⟩)
theorem RPlaces_spec {A : Option Addr} {n c : Nat} {l : List PairV} (h : Row M 2 A n c (prow l)) (x : UInt64) :
    Con Tryz.prog 26 #[.slice A n c, .int .u64 (x.toNat : Int)] G M L (fun v M' L' => L = L' ∧ ∃ A' n' c', v = .tuple #[.slice A' n' c', .int .i64 (plE l x.toNat)] ∧ Row M' 1 A' n' c' (u32r (plV l x.toNat))) noPanic := by
  have hmx := h.max
  have hle := h.le
  have hln : l.length = n := by have := h.len; rw [prow, flat_len pcl] at this; omega
  have hxl := x.toNat_lt
  refine enter (args := [_, _]) (fn := Tryz.f26) ⟨Tryz.func26, rfl, by kernel_rfl, by kernel_rfl⟩ 49 rfl ?_
  refine x_seq (x_region ?_)
  refine tl_y rfl (y_assign rfl) ?_
  refine tl_y rfl (y_assign rfl) ?_
  refine tl_nil (.then_normal ?_)
  refine x_seq (x_seq (x_region ?_))
  refine tl_y rfl (y_move (v := .slice _ _ _) rfl) ?_
  refine tl_e rfl (e_call' rfl (RMay13_spec h) ?_)
  rintro _ _ _ _ ⟨rfl, rfl, rfl⟩
  refine tl_y rfl (y_notd rfl) ?_
  refine tl_nil (.then_normal ?_)
  refine .sub (F' := [(0, _), (1, _), (12, _)]) (.cons rfl (.cons rfl (.cons rfl .nil))) ?_
  refine x_cond rfl (fun hc1 => ?_) (fun hc1 => ?_)
  ·
    refine x_seq (x_region ?_)
    refine tl_y rfl (y_assign rfl) ?_
    refine tl_y rfl (y_assign rfl) ?_
    refine tl_nil (.then_normal ?_)
    refine x_ret (.then_ret (ret2 rfl rfl rfl (Le.refl _) ⟨rfl, _, _, _, by rw [plE, if_neg hc1], by rw [plV, if_neg (fun h => hc1 h.1)]; exact Row.nil _ _⟩))
  ·
    have hok : okL l := Classical.not_not.1 hc1
    have h60 := hok.2.2
    refine x_skip (.then_normal ?_)
    refine x_seq (x_seq (x_region ?_))
    refine tl_y rfl (y_move (v := .int _ _) rfl) ?_
    refine tl_y rfl (y_move (v := .slice _ _ _) rfl) ?_
    refine tl_e rfl (e_call' rfl (RTotal_spec h) ?_)
    rintro _ _ _ _ ⟨rfl, rfl, rfl⟩
    refine tl_y rfl (y_geq rfl rfl) ?_
    refine tl_nil (.then_normal ?_)
    refine .sub (F' := [(0, _), (1, _), (16, _)]) (.cons rfl (.cons rfl (.cons rfl .nil))) ?_
    refine x_cond rfl (fun hc2 => ?_) (fun hc2 => ?_)
    ·
      refine x_seq (x_region ?_)
      refine tl_y rfl (y_assign rfl) ?_
      refine tl_y rfl (y_assign rfl) ?_
      refine tl_nil (.then_normal ?_)
      refine x_ret (.then_ret (ret2 rfl rfl rfl (Le.refl _) ⟨rfl, _, _, _, by rw [plE, if_pos hok, if_neg (by omega)], by rw [plV, if_neg (fun h => by have := h.2; omega)]; exact Row.nil _ _⟩))
    ·
      have hxt : x.toNat < totN l := by omega
      have hn8 := hok.1.2
      refine x_skip (.then_normal ?_)
      refine x_seq (x_region ?_)
      refine tl_y rfl (y_assign rfl) ?_
      refine tl_nil (.then_normal ?_)
      refine x_seq (x_seq (x_region ?_))
      refine tl_y rfl (y_assign rfl) ?_
      refine tl_nil (.then_normal ?_)
      refine x_block ?_
      refine x_loop (I := fun m' F D M1 L1 => ∃ (k : Nat) (A1 : Option Addr) (c1 : Nat) (E : Own), m' = n - k ∧ k ≤ n ∧ Le M M1 ∧ OwnRow 22 1 A1 k c1 (u32r ((atsN (l.map tv) x.toNat).take k)) E ∧ D = [] ∧ L1 = E ++ L ∧ F = [(0, .slice A n c), (1, .int .u64 (x.toNat : Int)), (6, .slice A1 k c1), (7, .int .i64 k)]) (n) (F0 := [(0, _), (1, _), (6, _), (7, _)]) ?_ (.cons rfl (.cons rfl (.cons rfl (.cons rfl .nil)))) ?_  -- slots [0, 1, 6, 7], written [6, 7]
      · exact ⟨0, none, 0, [], rfl, by omega, Le.refl _, .nil, rfl, rfl, rfl⟩
      rintro m _ _ M1 _ ⟨k, A1, c1, E, rfl, hk, hM1, hE, rfl, rfl, rfl⟩
      refine x_seq (x_seq (x_region ?_))
      refine tl_y rfl (y_move (v := .int _ _) rfl) ?_
      refine tl_y rfl (y_move (v := .slice _ _ _) rfl) ?_
      refine tl_y rfl (y_len rfl) ?_
      refine tl_y rfl (y_lss rfl rfl) ?_
      refine tl_nil (.then_normal ?_)
      refine x_cond rfl (fun hc3 => ?_) (fun hc3 => ?_)
      ·
        have hkn : k < n := by omega
        obtain ⟨p, hp⟩ : ∃ p, l[k]? = some p := ⟨_, List.getElem?_eq_getElem (by omega)⟩
        have hmem : p ∈ l := List.mem_of_getElem? hp
        have hokp := (hok.2.1 p hmem).1
        have hpt : (l.map tv)[k]? = some (tv p) := by rw [List.getElem?_map, hp]; rfl
        have hlt := atN_lt hpt x.toNat
        have hH25 := (okP_h hokp).2.2
        have hpw := pw2_25 hH25
        have hone := prow_sub (h.mono hM1) (i := k) (j := k + 1) (by omega) (by omega)
        have hone' : (l.drop k).take (k + 1 - k) = [p] := by
          rw [show k + 1 - k = 1 by omega, List.drop_eq_getElem_cons (by omega), List.take_succ_cons, List.take_zero, (List.getElem?_eq_some_iff.1 hp).2]
        rw [hone'] at hone
        have hat : atN (l.map tv) x.toNat k = x.toNat / pw2 (hsum ((l.map tv).drop (k + 1))) % pw2 (hN (tv p)) := by
          rw [atN, List.getD_eq_getElem?_getD, hpt]; rfl
        have hrest := prow_sub (h.mono hM1) (i := k + 1) (j := n) (by omega) (by omega)
        have hrest' : (l.drop (k + 1)).take (n - (k + 1)) = l.drop (k + 1) := List.take_of_length_le (by rw [List.length_drop]; omega)
        rw [hrest'] at hrest
        have hpos := pw2_pos (hsum ((l.map tv).drop (k + 1)))
        have hpos2 := pw2_pos (hN (tv p))
        have htk : (atsN (l.map tv) x.toNat).take (k + 1) = (atsN (l.map tv) x.toNat).take k ++ [atN (l.map tv) x.toNat k] := by
          rw [List.take_add_one, atsN_get _ _ (by rw [List.length_map]; omega)]; rfl
        refine x_skip (.then_normal ?_)
        refine .sub (F' := [(0, _), (1, _), (6, _), (7, _)]) (.cons rfl (.cons rfl (.cons rfl (.cons rfl .nil)))) ?_
        refine x_seq ?_
        refine x_block ?_
        refine x_seq (x_region ?_)
        refine tl_y rfl (y_assign rfl) ?_
        refine tl_nil (.then_normal ?_)
        refine x_seq (x_seq (x_region ?_))
        refine tl_y rfl (y_move (v := .int _ _) rfl) ?_
        refine tl_y rfl (y_addI rfl rfl (by omega)) ?_
        refine tl_y rfl (y_move (v := .slice _ _ _) rfl) ?_
        refine tl_y rfl (y_len rfl) ?_
        refine tl_y rfl (y_lss rfl rfl) ?_
        refine tl_nil (.then_normal ?_)
        refine .sub (F' := [(0, _), (1, _), (6, _), (7, _), (8, _), (27, _)]) (.cons rfl (.cons rfl (.cons rfl (.cons rfl (.cons rfl (.cons rfl .nil)))))) ?_
        refine x_cond rfl (fun hc4 => ?_) (fun hc4 => ?_)
        ·
          refine x_region ?_
          refine tl_y rfl (y_move (v := .slice _ _ _) rfl) ?_
          refine tl_y rfl (y_move (v := .int _ _) rfl) ?_
          refine tl_y rfl (y_addI rfl rfl (by omega)) ?_
          refine tl_y rfl (y_sliceL rfl rfl (by omega)) ?_
          rw [show ((k : Int) + 1).toNat = k + 1 by omega]
          refine tl_e rfl (e_call' rfl (RTotal_spec hrest) ?_)
          rintro _ _ _ _ ⟨rfl, rfl, rfl⟩
          have htot : totN (l.drop (k + 1)) = pw2 (hsum ((l.map tv).drop (k + 1))) := by rw [totN, if_pos (okL_drop hok (by omega)), List.map_drop]
          rw [htot]
          refine tl_y rfl (y_assign (v := .int _ _) rfl) ?_
          refine tl_nil (.then_normal ?_)
          refine .sub (F' := [(0, _), (1, _), (6, _), (7, _), (8, _)]) (.cons rfl (.cons rfl (.cons rfl (.cons rfl (.cons rfl .nil))))) ?_
          refine x_seq (x_region ?_)
          refine tl_y rfl (y_move (v := .slice _ _ _) rfl) ?_
          refine tl_y rfl (y_move (v := .int _ _) rfl) ?_
          refine tl_y rfl (y_move (v := .int _ _) rfl) ?_
          refine tl_y rfl (y_addI rfl rfl (by omega)) ?_
          refine tl_y rfl (y_sliceLH rfl rfl rfl (by omega) (by omega)) ?_
          rw [Int.toNat_natCast, show ((k : Int) + 1).toNat = k + 1 by omega]
          refine tl_e rfl (e_call' rfl (RTotal_spec hone) ?_)
          rintro _ _ _ _ ⟨rfl, rfl, rfl⟩
          rw [totN_one hokp]
          refine tl_y rfl (y_assign (v := .int _ _) rfl) ?_
          refine tl_nil (.then_normal ?_)
          refine .sub (F' := [(0, _), (1, _), (6, _), (7, _), (8, _), (9, _)]) (.cons rfl (.cons rfl (.cons rfl (.cons rfl (.cons rfl (.cons rfl .nil)))))) ?_
          refine x_region ?_
          refine tl_y rfl (y_move (v := .slice _ _ _) rfl) ?_
          refine tl_y rfl (y_move (v := .int _ _) rfl) ?_
          refine tl_y rfl (y_move (v := .int _ _) rfl) ?_
          refine tl_y rfl (y_quoN64 rfl rfl (by omega)) ?_
          rw [show (x.toNat : Int) / ((pw2 (hsum ((l.map tv).drop (k + 1))) : Nat) : Int) = ((x.toNat / pw2 (hsum ((l.map tv).drop (k + 1))) : Nat) : Int) from (Int.natCast_ediv _ _).symm]
          refine tl_y rfl (y_move (v := .int _ _) rfl) ?_
          refine tl_y rfl (y_remI rfl rfl ⟨Int.natCast_nonneg _, by omega⟩) ?_
          rw [show ((x.toNat / pw2 (hsum ((l.map tv).drop (k + 1))) : Nat) : Int) % ((pw2 (hN (tv p)) : Nat) : Int) = ((atN (l.map tv) x.toNat k : Nat) : Int) by rw [hat]; push_cast; rfl]
          refine tl_y rfl (y_convN32 rfl (by omega)) ?_
          refine tl_e rfl (e_buildSlice rfl (by decide) (fun b8 => ?_))
          refine .pub b8 inferInstance (fun M5 hM5 hb8 => ?_)
          refine tl_e rfl (e_append (by decide) rfl rfl hE (.row (Row.whole (s := 1) (vs := [Value.int .u32 ((atN (l.map tv) x.toNat k : Nat) : Int)]) hb8 rfl (by omega))) rfl (by omega) (by omega) (fun A9 c9 E9 hE9 => ?_))
          have hrr : u32r ((atsN (l.map tv) x.toNat).take k) ++ [Value.int .u32 ((atN (l.map tv) x.toNat k : Nat) : Int)] = u32r ((atsN (l.map tv) x.toNat).take (k + 1)) := by rw [htk]; simp [u32r]
          rw [hrr] at hE9
          refine tl_y rfl (y_assign (v := .slice _ _ _) rfl) ?_
          refine tl_nil (.block_normal (.then_normal ?_))
          refine .sub (F' := [(0, _), (1, _), (6, _), (7, _)]) (.cons rfl (.cons rfl (.cons rfl (.cons rfl .nil)))) ?_
          refine x_region ?_
          refine tl_y rfl (y_move (v := .int _ _) rfl) ?_
          refine tl_y rfl (y_addI rfl rfl (by omega)) ?_
          refine tl_y rfl (y_assign (v := .int _ _) rfl) ?_
          refine tl_nil (.loop_next (m' := n - (k + 1)) (by omega) (F' := [(0, _), (1, _), (6, _), (7, _)]) (.cons rfl (.cons rfl (.cons rfl (.cons rfl .nil)))) ?_)
          exact ⟨k + 1, A9, c9, E9, rfl, by omega, hM1.trans hM5, hE9, rfl, rfl, rfl⟩
        ·
          have hlast : (l.map tv).drop (k + 1) = [] := List.drop_of_length_le (by rw [List.length_map]; omega)
          refine x_skip (.then_normal ?_)
          refine x_seq (x_region ?_)
          refine tl_y rfl (y_move (v := .slice _ _ _) rfl) ?_
          refine tl_y rfl (y_move (v := .int _ _) rfl) ?_
          refine tl_y rfl (y_move (v := .int _ _) rfl) ?_
          refine tl_y rfl (y_addI rfl rfl (by omega)) ?_
          refine tl_y rfl (y_sliceLH rfl rfl rfl (by omega) (by omega)) ?_
          rw [Int.toNat_natCast, show ((k : Int) + 1).toNat = k + 1 by omega]
          refine tl_e rfl (e_call' rfl (RTotal_spec hone) ?_)
          rintro _ _ _ _ ⟨rfl, rfl, rfl⟩
          rw [totN_one hokp]
          refine tl_y rfl (y_assign (v := .int _ _) rfl) ?_
          refine tl_nil (.then_normal ?_)
          refine .sub (F' := [(0, _), (1, _), (6, _), (7, _), (8, _), (9, _)]) (.cons rfl (.cons rfl (.cons rfl (.cons rfl (.cons rfl (.cons rfl .nil)))))) ?_
          refine x_region ?_
          refine tl_y rfl (y_move (v := .slice _ _ _) rfl) ?_
          refine tl_y rfl (y_move (v := .int _ _) rfl) ?_
          refine tl_y rfl (y_move (v := .int _ _) rfl) ?_
          refine tl_y rfl (y_quoN64 rfl rfl (by omega)) ?_
          rw [Int.ediv_one]
          refine tl_y rfl (y_move (v := .int _ _) rfl) ?_
          refine tl_y rfl (y_remI rfl rfl (by omega)) ?_
          rw [show (x.toNat : Int) % ((pw2 (hN (tv p)) : Nat) : Int) = ((atN (l.map tv) x.toNat k : Nat) : Int) by rw [hat, hlast, show pw2 (hsum []) = 1 from rfl, Nat.div_one]; push_cast; rfl]
          refine tl_y rfl (y_convN32 rfl (by omega)) ?_
          refine tl_e rfl (e_buildSlice rfl (by decide) (fun b8 => ?_))
          refine .pub b8 inferInstance (fun M5 hM5 hb8 => ?_)
          refine tl_e rfl (e_append (by decide) rfl rfl hE (.row (Row.whole (s := 1) (vs := [Value.int .u32 ((atN (l.map tv) x.toNat k : Nat) : Int)]) hb8 rfl (by omega))) rfl (by omega) (by omega) (fun A9 c9 E9 hE9 => ?_))
          have hrr : u32r ((atsN (l.map tv) x.toNat).take k) ++ [Value.int .u32 ((atN (l.map tv) x.toNat k : Nat) : Int)] = u32r ((atsN (l.map tv) x.toNat).take (k + 1)) := by rw [htk]; simp [u32r]
          rw [hrr] at hE9
          refine tl_y rfl (y_assign (v := .slice _ _ _) rfl) ?_
          refine tl_nil (.block_normal (.then_normal ?_))
          refine .sub (F' := [(0, _), (1, _), (6, _), (7, _)]) (.cons rfl (.cons rfl (.cons rfl (.cons rfl .nil)))) ?_
          refine x_region ?_
          refine tl_y rfl (y_move (v := .int _ _) rfl) ?_
          refine tl_y rfl (y_addI rfl rfl (by omega)) ?_
          refine tl_y rfl (y_assign (v := .int _ _) rfl) ?_
          refine tl_nil (.loop_next (m' := n - (k + 1)) (by omega) (F' := [(0, _), (1, _), (6, _), (7, _)]) (.cons rfl (.cons rfl (.cons rfl (.cons rfl .nil)))) ?_)
          exact ⟨k + 1, A9, c9, E9, rfl, by omega, hM1.trans hM5, hE9, rfl, rfl, rfl⟩
      ·
        obtain rfl : k = n := by omega
        refine .pubRow hE (fun M4 hM4 hrow => ?_)
        rw [List.take_of_length_le (by rw [atsN_len, List.length_map]; omega)] at hrow
        refine x_exit (.then_exit (.loop_exit (.block_exit (.then_normal ?_))))
        refine .sub (F' := [(6, _)]) (.cons rfl .nil) ?_
        refine x_seq (x_region ?_)
        refine tl_y rfl (y_move (v := .slice _ _ _) rfl) ?_
        refine tl_y rfl (y_assign (v := .slice _ _ _) rfl) ?_
        refine tl_y rfl (y_assign rfl) ?_
        refine tl_nil (.then_normal ?_)
        refine x_ret (ret2 rfl rfl rfl (hM1.trans hM4) ⟨rfl, _, _, _, by rw [plE, if_pos hok, if_pos hxt], by rw [plV, if_pos ⟨hok, hxt⟩]; exact hrow⟩)
end
end Go.Proofs.YtiimjodbaogjbaaGreatDoor
set_option linter.unusedVariables false
set_option linter.unusedSimpArgs false
set_option linter.constructorNameAsVariable false
namespace Go.Proofs.YtiimjodbaogjbaaGreatDoor
open Go Go.Eng
section
variable {G : World} {M : Mem} {L : Own} {NA SA TA : Option Addr} {nl nc sl_ sc tl tc : Nat} {name sec text : List UInt8}
theorem RLight13_spec {A : Option Addr} {n c : Nat} {l : List PairV} (h : Row M 2 A n c (prow l)) :
    Con Tryz.prog 49 #[.slice A n c] G M L (fun v M' L' => M = M' ∧ L = L' ∧ ∃ b : Bool, v = .bool b ∧ (b = true → n ≤ 100)) noPanic := by
  have hmx := h.max
  have hle := h.le
  have hln : l.length = n := by have := h.len; rw [prow, flat_len pcl] at this; omega
  refine enter (args := [_]) (fn := Tryz.f49) ⟨Tryz.func49, rfl, by kernel_rfl, by kernel_rfl⟩ 26 rfl ?_
  refine x_seq (x_region ?_)
  refine tl_y rfl (y_assign rfl) ?_
  refine tl_nil (.then_normal ?_)
  refine x_seq (x_seq (x_region ?_))
  refine tl_y rfl (y_move (v := .slice _ _ _) rfl) ?_
  refine tl_y rfl (y_len rfl) ?_
  refine tl_y rfl (y_gtr rfl rfl) ?_
  refine tl_nil (.then_normal ?_)
  refine x_cond rfl (fun hc1 => ?_) (fun hc1 => ?_)
  ·
    refine x_seq (x_region ?_)
    refine tl_y rfl (y_assign rfl) ?_
    refine tl_nil (.then_normal ?_)
    refine .sub (F' := [(2, _)]) (.cons rfl .nil) ?_
    refine x_ret (.then_ret (ret1 rfl rfl (Le.refl _) ⟨rfl, rfl, _, rfl, fun h => by cases h⟩))
  ·
    refine x_skip (.then_normal ?_)
    refine x_seq (x_seq (x_region ?_))
    refine tl_y rfl (y_move (v := .slice _ _ _) rfl) ?_
    refine tl_e rfl (e_call' rfl (RMay13_spec h) ?_)
    rintro _ _ _ _ ⟨rfl, rfl, rfl⟩
    refine tl_y rfl (y_notd rfl) ?_
    refine tl_nil (.then_normal ?_)
    refine .sub (F' := [(0, _), (2, _), (9, _)]) (.cons rfl (.cons rfl (.cons rfl .nil))) ?_
    refine x_cond rfl (fun hc2 => ?_) (fun hc2 => ?_)
    ·
      refine x_seq (x_region ?_)
      refine tl_y rfl (y_assign rfl) ?_
      refine tl_nil (.then_normal ?_)
      refine x_ret (.then_ret (ret1 rfl rfl (Le.refl _) ⟨rfl, rfl, _, rfl, fun h => by omega⟩))
    ·
      refine x_skip (.then_normal ?_)
      refine x_seq (x_seq (x_region ?_))
      refine tl_y rfl (y_assign rfl) ?_
      refine tl_nil (.then_normal ?_)
      refine x_block ?_
      refine x_loop (I := fun m' F D M1 L1 => ∃ k : Nat, m' = n - k ∧ k ≤ n ∧ D = [] ∧ M = M1 ∧ L = L1 ∧ F = [(0, .slice A n c), (2, .bool false), (3, .int .i64 k)]) (n) (F0 := [(0, _), (2, _), (3, _)]) ?_ (.cons rfl (.cons rfl (.cons rfl .nil))) ?_  -- slots [0, 2, 3], written [2, 3]
      · exact ⟨0, rfl, by omega, rfl, rfl, rfl, rfl⟩
      rintro m _ _ _ _ ⟨k, rfl, hk, rfl, rfl, rfl, rfl⟩
      refine x_seq (x_seq (x_region ?_))
      refine tl_y rfl (y_move (v := .int _ _) rfl) ?_
      refine tl_y rfl (y_move (v := .slice _ _ _) rfl) ?_
      refine tl_y rfl (y_len rfl) ?_
      refine tl_y rfl (y_lss rfl rfl) ?_
      refine tl_nil (.then_normal ?_)
      refine x_cond rfl (fun hc3 => ?_) (fun hc3 => ?_)
      ·
        have hkn : k < n := by omega
        obtain ⟨p, hp⟩ : ∃ p, l[k]? = some p := ⟨_, List.getElem?_eq_getElem (by omega)⟩
        obtain ⟨g, o, rfl, hcell⟩ := h.cellsN (by omega)
        have hc2 := fun L => hcell L (k * 2) 2 (by rw [prow, flat_len pcl]; omega)
        simp only [prow, flat_take pcl l k p hp] at hc2
        refine x_skip (.then_normal ?_)
        refine .sub (F' := [(0, _), (2, _), (3, _)]) (.cons rfl (.cons rfl (.cons rfl .nil))) ?_
        refine x_seq ?_
        refine x_block ?_
        refine x_seq (x_region ?_)
        refine tl_y rfl (y_move (v := .slice _ _ _) rfl) ?_
        refine tl_y rfl (y_move (v := .int _ _) rfl) ?_
        refine tl_y rfl (y_indexAddr rfl rfl (by omega)) ?_
        refine tl_y rfl (y_loadAgg rfl rfl (.at_ (hc2 _) (by omega))) ?_
        refine tl_e rfl (e_call' rfl (RLight_spec p) ?_)
        rintro _ _ _ _ ⟨rfl, rfl, rfl⟩
        refine tl_y rfl (y_notd rfl) ?_
        refine tl_y rfl (y_move (v := .bool _) rfl) ?_
        refine tl_cases (s := 22) rfl (fun hk1 => ?_) (fun hk1 => ?_)
        ·
          refine tl_skip rfl ?_
          refine tl_skip rfl ?_
          refine tl_y rfl (y_pickT rfl rfl) ?_
          refine tl_nil (.then_normal ?_)
          refine .sub (F' := [(0, _), (2, _), (3, _), (25, _)]) (.cons rfl (.cons rfl (.cons rfl (.cons rfl .nil)))) ?_
          refine x_true rfl rfl ?_
          refine x_seq (x_region ?_)
          refine tl_y rfl (y_assign rfl) ?_
          refine tl_nil (.then_normal ?_)
          refine x_ret (.block_ret (.then_ret (.loop_ret (.block_ret (.then_ret (ret1 rfl rfl (Le.refl _) ⟨rfl, rfl, _, rfl, fun h => by cases h⟩))))))
        ·
          refine tl_y rfl (y_move (v := .int _ _) rfl) ?_
          refine tl_y rfl (y_geq rfl rfl) ?_
          refine tl_y rfl (y_pickF rfl rfl) ?_
          refine tl_nil (.then_normal ?_)
          refine .sub (F' := [(0, _), (2, _), (3, _), (25, _)]) (.cons rfl (.cons rfl (.cons rfl (.cons rfl .nil)))) ?_
          refine x_cond rfl (fun hc4 => ?_) (fun hc4 => ?_)
          ·
            refine x_seq (x_region ?_)
            refine tl_y rfl (y_assign rfl) ?_
            refine tl_nil (.then_normal ?_)
            refine x_ret (.block_ret (.then_ret (.loop_ret (.block_ret (.then_ret (ret1 rfl rfl (Le.refl _) ⟨rfl, rfl, _, rfl, fun h => by cases h⟩))))))
          ·
            refine x_skip (.block_normal (.then_normal ?_))
            refine x_region ?_
            refine tl_y rfl (y_move (v := .int _ _) rfl) ?_
            refine tl_y rfl (y_addI rfl rfl (by omega)) ?_
            refine tl_y rfl (y_assign (v := .int _ _) rfl) ?_
            refine tl_nil (.loop_next (m' := n - (k + 1)) (by omega) (F' := [(0, _), (2, _), (3, _)]) (.cons rfl (.cons rfl (.cons rfl .nil))) ?_)
            exact ⟨k + 1, rfl, by omega, rfl, rfl, rfl, rfl⟩
      ·
        refine x_exit (.then_exit (.loop_exit (.block_exit (.then_normal ?_))))
        refine .sub (F' := []) .nil ?_
        refine x_seq (x_region ?_)
        refine tl_y rfl (y_assign rfl) ?_
        refine tl_nil (.then_normal ?_)
        refine x_ret (ret1 rfl rfl (Le.refl _) ⟨rfl, rfl, _, rfl, fun h => by omega⟩)
end
end Go.Proofs.YtiimjodbaogjbaaGreatDoor
set_option linter.unusedVariables false
set_option linter.unusedSimpArgs false
set_option linter.constructorNameAsVariable false
namespace Go.Proofs.YtiimjodbaogjbaaGreatDoor
open Go Go.Eng
def tlR (f : Nat → List UInt8) : Nat → Nat → List UInt8
  | 0, _ => []
  | m + 1, i => f i ++ tlR f m (i + 1)
theorem catR_tl (f : Nat → List UInt8) : ∀ m i, catR f (i + m) = catR f i ++ tlR f m i
  | 0, i => by rw [tlR, List.append_nil, Nat.add_zero]
  | m + 1, i => by rw [tlR, ← List.append_assoc, ← catR_succ, ← catR_tl f m (i + 1)]; congr 1; omega
def pfR (l : List PairV) (at_ : List Nat) (name sec text : List UInt8) : Nat → Nat → List PartB
  | 0, _ => []
  | m + 1, i => ⟨pubR l at_ name sec i, sgR l at_ name sec text i, if i + 1 < l.length then pubR l at_ name sec (i + 1) else []⟩ :: pfR l at_ name sec text m (i + 1)
theorem pairC_app {a b : List UInt8} (h : 8 ≤ a.length) : pairC (a ++ b) = pairC a := by
  rw [pairC, pairC, List.drop_append_of_le_length (by omega), List.take_append_of_le_length (by rw [List.length_drop]; omega), List.take_append_of_le_length (by omega)]
section
variable {l : List PairV} {nl sl : Nat} {at_ : List Nat} {name sec text : List UInt8} {x : Nat}
theorem pubR_facts (hok : okL l) (hc : canB l nl sl) (hn : name.length = nl) (hs : sec.length = sl) {i : Nat} (hi : i < l.length) :
    ∃ n w p H, PF (l.getD i p0) n w p H ∧ (seedR l at_ name sec i).1.length = 16 ∧ (pubR l at_ name sec i).length = 24 + n ∧ pairC (pubR l at_ name sec i) = l.getD i p0 ∧ pubN (l.getD i p0) = 24 + n ∧ 24 ≤ n ∧ n ≤ 32 := by
  obtain ⟨h1, h2, h3, h4⟩ := okL_get hok hi
  obtain ⟨n, w, p, H, hx⟩ := okP_facts h1
  have h16 := (seedR_ok hok hc at_ hn hs i (by omega)).1
  obtain ⟨k1, k2, _, _, _⟩ := pub_parts hx h16 (seedR l at_ name sec i).2
  obtain ⟨z1, _, _, _, _⟩ := hx.sizes
  have hn32 := hx.o.n32
  exact ⟨n, w, p, H, hx, h16, k1, k2, z1, by omega, by omega⟩
theorem key_app (hok : okL l) (hc : canB l nl sl) (hn : name.length = nl) (hs : sec.length = sl) {i : Nat} (hi : i < l.length) (b : List UInt8) :
    keyE (pubR l at_ name sec i ++ b) = 0 ∧ keyT (pubR l at_ name sec i ++ b) = pubR l at_ name sec i ∧ keyD (pubR l at_ name sec i ++ b) = b := by
  obtain ⟨n, w, p, H, hx, h16, k1, k2, k3, k4, k5⟩ := pubR_facts (at_ := at_) hok hc hn hs hi
  have e : pairC (pubR l at_ name sec i ++ b) = l.getD i p0 := by rw [pairC_app (by omega), k2]
  refine ⟨?_, ?_, ?_⟩
  · rw [keyE, if_neg (by rw [List.length_append]; omega), e, if_neg (fun h => h hx.ok), if_neg (by rw [List.length_append]; omega)]
  · rw [keyT, e, k3]; exact take_at k1
  · rw [keyD, e, k3]; exact drop_at k1
theorem parse_hss (hok : okL l) (hc : canB l nl sl) (hn : name.length = nl) (hs : sec.length = sl) (hat : at_ = atsN (l.map tv) x) : ∀ m i, i + m + 1 = l.length →
    parse m (pubR l at_ name sec i) (tlR (levR l at_ name sec text) (m + 1) i) = (0, pfR l at_ name sec text (m + 1) i)
  | 0, i, hi => by
    obtain ⟨n, w, p, H, hx, h16, k1, k2, k3, k4, k5⟩ := pubR_facts (at_ := at_) (name := name) (sec := sec) hok hc hn hs (i := i) (by omega)
    obtain ⟨z1, _, _, _⟩ := lv_len hok hc at_ text hn hs (i := i) (by omega) hat
    have e : tlR (levR l at_ name sec text) 1 i = sgR l at_ name sec text i := by rw [tlR, tlR, List.append_nil, levR, if_neg (by omega), List.append_nil]
    rw [e, parse, k2, if_neg (by omega), if_neg (by omega), pfR, pfR, if_neg (by omega), sgT, k2, List.take_of_length_le (by omega)]
  | m + 1, i, hi => by
    obtain ⟨n, w, p, H, hx, h16, k1, k2, k3, k4, k5⟩ := pubR_facts (at_ := at_) (name := name) (sec := sec) hok hc hn hs (i := i) (by omega)
    obtain ⟨z1, _, _, _⟩ := lv_len hok hc at_ text hn hs (i := i) (by omega) hat
    have e : tlR (levR l at_ name sec text) (m + 1 + 1) i = sgR l at_ name sec text i ++ (pubR l at_ name sec (i + 1) ++ tlR (levR l at_ name sec text) (m + 1) (i + 1)) := by
      rw [tlR, levR, if_pos (by omega), List.append_assoc]
    obtain ⟨q1, q2, q3⟩ := key_app (at_ := at_) (name := name) (sec := sec) hok hc hn hs (i := i + 1) (by omega) (tlR (levR l at_ name sec text) (m + 1) (i + 1))
    have ih := parse_hss hok hc hn hs hat m (i + 1) (by omega)
    have eT : sgT (pubR l at_ name sec i) (tlR (levR l at_ name sec text) (m + 1 + 1) i) = sgR l at_ name sec text i := by rw [sgT, k2, e]; exact take_at z1
    have eD : sgD (pubR l at_ name sec i) (tlR (levR l at_ name sec text) (m + 1 + 1) i) = pubR l at_ name sec (i + 1) ++ tlR (levR l at_ name sec text) (m + 1) (i + 1) := by rw [sgD, k2, e]; exact drop_at z1
    have e3 : pfR l at_ name sec text (m + 1 + 1) i = ⟨pubR l at_ name sec i, sgR l at_ name sec text i, pubR l at_ name sec (i + 1)⟩ :: pfR l at_ name sec text (m + 1) (i + 1) := by rw [pfR, if_pos (by omega)]
    rw [e3, parse, eT, eD, k2, if_neg (by rw [e, List.length_append]; omega), if_neg (fun h => h q1), q2, q3, ih, if_neg (fun h => h rfl)]
theorem pfR_fits (hok : okL l) (hc : canB l nl sl) (hn : name.length = nl) (hs : sec.length = sl) (hat : at_ = atsN (l.map tv) x) (htl : text.length ≤ 65536) : ∀ m i, i + m = l.length → ∀ p ∈ pfR l at_ name sec text m i, partF text p
  | 0, i, _, p, hp => by cases hp
  | m + 1, i, hi, p, hp => by
    rcases List.mem_cons.1 hp with rfl | hp
    · obtain ⟨n, w, p', H, hx, h16, k1, k2, k3, k4, k5⟩ := pubR_facts (at_ := at_) (name := name) (sec := sec) hok hc hn hs (i := i) (by omega)
      obtain ⟨z1, _, z3, _⟩ := lv_len hok hc at_ text hn hs (i := i) (by omega) hat
      rw [hx.lv] at z3
      have hf : ∀ t : List UInt8, t.length ≤ 65536 → fitK (pubR l at_ name sec i) t.length t (lsigB (l.getD i p0) (seedR l at_ name sec i).1 (seedR l at_ name sec i).2 (at_.getD i 0) t) := fun t ht => lms_fits hx h16 _ t z3 ht
      rw [partF]
      by_cases h1 : i + 1 < l.length
      · obtain ⟨n2, _, _, _, _, _, r1, _, _, r4, r5⟩ := pubR_facts (at_ := at_) (name := name) (sec := sec) hok hc hn hs (i := i + 1) h1
        have hne : pubR l at_ name sec (i + 1) ≠ [] := fun h => by have := congrArg List.length h; rw [r1] at this; simp at this
        have := hf (pubR l at_ name sec (i + 1)) (by omega)
        simp only [if_pos h1, if_neg hne]
        rw [sgR, nextR, if_pos h1]
        exact this
      · simp only [if_neg h1, if_pos]
        rw [sgR, nextR, if_neg h1]
        exact hf text htl
    · exact pfR_fits hok hc hn hs hat htl m (i + 1) (by omega) p hp
theorem pfR_q (hok : okL l) (hc : canB l nl sl) (hn : name.length = nl) (hs : sec.length = sl) (hat : at_ = atsN (l.map tv) x) : ∀ m i, i + m = l.length → (pfR l at_ name sec text m i).map partQ = at_.drop i
  | 0, i, hi => by rw [pfR, List.map_nil, List.drop_of_length_le (by rw [hat, atsN_len, List.length_map]; omega)]
  | m + 1, i, hi => by
    obtain ⟨n, w, p', H, hx, h16, k1, k2, k3, k4, k5⟩ := pubR_facts (at_ := at_) (name := name) (sec := sec) hok hc hn hs (i := i) (by omega)
    obtain ⟨z1, _, z3, z4⟩ := lv_len hok hc at_ text hn hs (i := i) (by omega) hat
    rw [hx.lv] at z3
    have hl : at_.length = l.length := by rw [hat, atsN_len, List.length_map]
    have e : getB ((sgR l at_ name sec text i).take 4) = at_.getD i 0 := by
      rw [sgR, (lsig_parts hx h16 _ _ z3).2.1, getB_put, Nat.mod_eq_of_lt (by omega)]
    rw [pfR, List.map_cons, pfR_q hok hc hn hs hat m (i + 1) (by omega), partQ, e]
    have hlt : i < at_.length := by omega
    have e2 : at_.getD i 0 = at_[i] := by rw [List.getD_eq_getElem?_getD, List.getElem?_eq_getElem hlt]; rfl
    rw [e2, ← List.drop_eq_getElem_cons hlt]
theorem hss_read (h0 : canE l nl sl = 0) (hn : name.length = nl) (hs : sec.length = sl) (hat : at_ = atsN (l.map tv) x) :
    readP (hpubB l name sec) (hsigB l at_ name sec text) = (0, pfR l at_ name sec text l.length 0) := by
  obtain ⟨hok, hc⟩ := canE_zero h0
  have h1 := hok.1
  obtain ⟨n, w, p', H, hx, h16, k1, k2, k3, k4, k5⟩ := pubR_facts (at_ := at_) (name := name) (sec := sec) hok hc hn hs (i := 0) (by omega)
  have e0 : pubB (l.getD 0 p0) name sec = pubR l at_ name sec 0 := rfl
  have p1 : (putB l.length 4).length = 4 := putB_length 4 _
  have p2 : (putB (l.length - 1) 4).length = 4 := putB_length 4 _
  have d1 : (hpubB l name sec).drop 4 = pubR l at_ name sec 0 := drop_at p1
  have d2 : (hpubB l name sec).take 4 = putB l.length 4 := take_at p1
  have d3 : (hsigB l at_ name sec text).drop 4 = tlR (levR l at_ name sec text) l.length 0 := by
    have := catR_tl (levR l at_ name sec text) l.length 0
    rw [Nat.zero_add, catR_zero, List.nil_append] at this
    rw [← this]; exact drop_at p2
  have d4 : (hsigB l at_ name sec text).take 4 = putB (l.length - 1) 4 := take_at p2
  obtain ⟨q1, q2, q3⟩ := key_app (at_ := at_) (name := name) (sec := sec) hok hc hn hs (i := 0) (by omega) []
  rw [List.append_nil] at q1
  have g1 : getB (putB l.length 4) = l.length := by rw [getB_put, Nat.mod_eq_of_lt (by omega)]
  have g2 : getB (putB (l.length - 1) 4) = l.length - 1 := by rw [getB_put, Nat.mod_eq_of_lt (by omega)]
  obtain ⟨m, hm⟩ : ∃ m, l.length = m + 1 := ⟨l.length - 1, by omega⟩
  rw [readP_eq (by rw [hpubB, List.length_append]; omega) (by rw [d1]; exact q1) (by rw [d1, k2, k1, k3]) (by rw [d2, g1]; exact h1) (by rw [hsigB, List.length_append]; omega) (by rw [d2, d4, g1, g2]), d2, g1, d1, d3, hm]
  exact parse_hss hok hc hn hs hat m 0 (by omega)
theorem hss_fits (h0 : canE l nl sl = 0) (hn : name.length = nl) (hs : sec.length = sl) (hat : at_ = atsN (l.map tv) x) (htl : text.length ≤ 65536) : hfit (hpubB l name sec) text (hsigB l at_ name sec text) := by
  obtain ⟨hok, hc⟩ := canE_zero h0
  rw [hfit, hss_read h0 hn hs hat]
  exact ⟨rfl, pfR_fits hok hc hn hs hat htl _ 0 (by omega)⟩
theorem hss_places (h0 : canE l nl sl = 0) (hn : name.length = nl) (hs : sec.length = sl) (hat : at_ = atsN (l.map tv) x) : redV (hpubB l name sec) (hsigB l at_ name sec text) = at_ := by
  obtain ⟨hok, hc⟩ := canE_zero h0
  rw [redV, hss_read h0 hn hs hat, if_pos rfl]
  exact pfR_q hok hc hn hs hat _ 0 (by omega)
end
end Go.Proofs.YtiimjodbaogjbaaGreatDoor
set_option linter.unusedVariables false
set_option linter.unusedSimpArgs false
set_option linter.constructorNameAsVariable false
namespace Go.Proofs.YtiimjodbaogjbaaGreatDoor
open Go Go.Eng
theorem totN_pos {l : List PairV} (h : okL l) : 1 ≤ totN l ∧ totN l ≤ 1152921504606846976 := by
  rw [totN, if_pos h]
  exact ⟨pw2_pos _, pw2_60 h.2.2⟩
theorem canE_two {l : List PairV} {nl sl : Nat} (h : okL l) (hn : canE l nl sl ≠ 0) : canE l nl sl = 1 := by
  rw [canE, if_neg (fun h' => h' h)] at hn ⊢
  split at hn
  · rename_i h1; rw [if_pos h1]
  · exact absurd rfl hn
theorem mod_tot (x : UInt64) {l : List PairV} (h : okL l) : ∃ y : UInt64, y.toNat = x.toNat % totN l ∧ y.toNat < totN l ∧ (x.toNat : Int) % ((totN l : Nat) : Int) = ((y.toNat : Nat) : Int) := by
  have h1 := totN_pos h
  have h2 := Nat.mod_lt x.toNat h1.1
  have e : (UInt64.ofNat (x.toNat % totN l)).toNat = x.toNat % totN l := by rw [UInt64.toNat_ofNat', Nat.mod_eq_of_lt (by omega)]
  exact ⟨_, e, by rw [e]; exact h2, by rw [e]; exact (Int.natCast_emod _ _).symm⟩
section
variable {G : World} {M : Mem} {L : Own} {NA SA TA PA A : Option Addr} {nl nc sl_ sc tl tc pl pc m c : Nat} {name sec text pub sig : List UInt8}
theorem HssKeeps_spec (hg : LmG M) {A : Option Addr} {n c : Nat} {pl : List PairV} (h : Row M 2 A n c (prow pl)) (hname : Bytes M NA nl nc name) (hsec : Bytes M SA sl_ sc sec) (x : UInt64) (htext : Bytes M TA tl tc text) :
    Con Tryz.prog 13 #[.slice A n c, .agg (List.toArray (seedC NA nl nc SA sl_ sc)), .agg (List.toArray [.int .u64 (x.toNat : Int), .slice TA tl tc])] G M L (fun v M' L' => v = .bool true) noPanic := by
  have hns := hname.size
  have hss := hsec.size
  have hts := htext.size
  refine enter (args := [_, _, _]) (fn := Tryz.f13) ⟨Tryz.func13, rfl, by kernel_rfl, by kernel_rfl⟩ 102 rfl ?_
  refine x_seq (x_region ?_)
  refine tl_e rfl (e_box rfl (fun b1 => ?_))
  refine tl_e rfl (e_box rfl (fun b2 => ?_))
  refine tl_y rfl (y_assign rfl) ?_
  refine tl_nil (.then_normal ?_)
  refine x_seq (x_seq (x_region ?_))
  refine tl_e rfl (e_call' rfl (awake13_spec hg.hs) ?_)
  rintro _ M1 _ hM1 ⟨rfl, rfl⟩
  have hd := hM1
  refine tl_y rfl (y_not rfl) ?_
  refine tl_nil (.then_normal ?_)
  refine .sub (F' := [(0, _), (4, _), (5, _), (17, _)]) (.cons rfl (.cons rfl (.cons rfl (.cons rfl .nil)))) ?_
  refine x_false rfl (rfl) ?_
  refine x_skip (.then_normal ?_)
  refine x_seq (x_seq (x_region ?_))
  refine tl_y rfl (y_move (v := .slice _ _ _) rfl) ?_
  refine tl_e rfl (e_call' rfl (RLight13_spec (h.mono hd)) ?_)
  rintro _ _ _ _ ⟨rfl, rfl, lb, rfl, hlb⟩
  refine tl_y rfl (y_not rfl) ?_
  refine tl_y rfl (y_move (v := .bool _) rfl) ?_
  refine tl_casesb (s := 21) rfl (fun hk1 => ?_) (fun hk1 => ?_)
  ·
    refine tl_skip rfl ?_
    refine tl_skip rfl ?_
    refine tl_skip rfl ?_
    refine tl_y rfl (y_pickT rfl rfl) ?_
    refine tl_y rfl (y_move (v := .bool _) rfl) ?_
    refine tl_skip rfl ?_
    refine tl_skip rfl ?_
    refine tl_skip rfl ?_
    refine tl_skip rfl ?_
    refine tl_y rfl (y_pickT rfl rfl) ?_
    refine tl_y rfl (y_move (v := .bool _) rfl) ?_
    refine tl_skip rfl ?_
    refine tl_skip rfl ?_
    refine tl_skip rfl ?_
    refine tl_skip rfl ?_
    refine tl_y rfl (y_pickT rfl rfl) ?_
    refine tl_y rfl (y_move (v := .bool _) rfl) ?_
    refine tl_skip rfl ?_
    refine tl_skip rfl ?_
    refine tl_skip rfl ?_
    refine tl_skip rfl ?_
    refine tl_y rfl (y_pickT rfl rfl) ?_
    refine tl_nil (.then_normal ?_)
    refine .sub (F' := [(0, _), (4, _), (5, _), (43, _)]) (.cons rfl (.cons rfl (.cons rfl (.cons rfl .nil)))) ?_
    refine x_true rfl rfl ?_
    refine x_seq (x_region ?_)
    refine tl_y rfl (y_assign rfl) ?_
    refine tl_nil (.then_normal ?_)
    refine .sub (F' := [(6, _)]) (.cons rfl .nil) ?_
    refine x_ret (.then_ret (ret1 rfl rfl hd rfl))
  ·
    refine tl_y rfl (y_move (v := .slice _ _ _) rfl) ?_
    refine tl_e rfl (e_call' rfl (RMay13_spec (h.mono hd)) ?_)
    rintro _ _ _ _ ⟨rfl, rfl, rfl⟩
    refine tl_y rfl (y_notd rfl) ?_
    refine tl_y rfl (y_pickF rfl rfl) ?_
    refine tl_y rfl (y_move (v := .bool _) rfl) ?_
    refine tl_cases (s := 26) rfl (fun hk2 => ?_) (fun hk2 => ?_)
    ·
      refine tl_skip rfl ?_
      refine tl_skip rfl ?_
      refine tl_skip rfl ?_
      refine tl_skip rfl ?_
      refine tl_y rfl (y_pickT rfl rfl) ?_
      refine tl_y rfl (y_move (v := .bool _) rfl) ?_
      refine tl_skip rfl ?_
      refine tl_skip rfl ?_
      refine tl_skip rfl ?_
      refine tl_skip rfl ?_
      refine tl_y rfl (y_pickT rfl rfl) ?_
      refine tl_y rfl (y_move (v := .bool _) rfl) ?_
      refine tl_skip rfl ?_
      refine tl_skip rfl ?_
      refine tl_skip rfl ?_
      refine tl_skip rfl ?_
      refine tl_y rfl (y_pickT rfl rfl) ?_
      refine tl_nil (.then_normal ?_)
      refine .sub (F' := [(0, _), (4, _), (5, _), (43, _)]) (.cons rfl (.cons rfl (.cons rfl (.cons rfl .nil)))) ?_
      refine x_true rfl rfl ?_
      refine x_seq (x_region ?_)
      refine tl_y rfl (y_assign rfl) ?_
      refine tl_nil (.then_normal ?_)
      refine .sub (F' := [(6, _)]) (.cons rfl .nil) ?_
      refine x_ret (.then_ret (ret1 rfl rfl hd rfl))
    ·
      refine tl_y rfl (y_fieldAddr rfl) ?_
      refine tl_y rfl (y_load rfl rfl (.own inferInstance inferInstance)) ?_
      refine tl_y rfl (y_len rfl) ?_
      refine tl_y rfl (y_gtr rfl rfl) ?_
      refine tl_y rfl (y_pickF rfl rfl) ?_
      refine tl_y rfl (y_move (v := .bool _) rfl) ?_
      refine tl_cases (s := 32) rfl (fun hk3 => ?_) (fun hk3 => ?_)
      ·
        refine tl_skip rfl ?_
        refine tl_skip rfl ?_
        refine tl_skip rfl ?_
        refine tl_skip rfl ?_
        refine tl_y rfl (y_pickT rfl rfl) ?_
        refine tl_y rfl (y_move (v := .bool _) rfl) ?_
        refine tl_skip rfl ?_
        refine tl_skip rfl ?_
        refine tl_skip rfl ?_
        refine tl_skip rfl ?_
        refine tl_y rfl (y_pickT rfl rfl) ?_
        refine tl_nil (.then_normal ?_)
        refine .sub (F' := [(0, _), (4, _), (5, _), (43, _)]) (.cons rfl (.cons rfl (.cons rfl (.cons rfl .nil)))) ?_
        refine x_true rfl rfl ?_
        refine x_seq (x_region ?_)
        refine tl_y rfl (y_assign rfl) ?_
        refine tl_nil (.then_normal ?_)
        refine .sub (F' := [(6, _)]) (.cons rfl .nil) ?_
        refine x_ret (.then_ret (ret1 rfl rfl hd rfl))
      ·
        refine tl_y rfl (y_fieldAddr rfl) ?_
        refine tl_y rfl (y_load rfl rfl (.own inferInstance inferInstance)) ?_
        refine tl_y rfl (y_len rfl) ?_
        refine tl_y rfl (y_gtr rfl rfl) ?_
        refine tl_y rfl (y_pickF rfl rfl) ?_
        refine tl_y rfl (y_move (v := .bool _) rfl) ?_
        refine tl_cases (s := 38) rfl (fun hk4 => ?_) (fun hk4 => ?_)
        ·
          refine tl_skip rfl ?_
          refine tl_skip rfl ?_
          refine tl_skip rfl ?_
          refine tl_skip rfl ?_
          refine tl_y rfl (y_pickT rfl rfl) ?_
          refine tl_nil (.then_normal ?_)
          refine .sub (F' := [(0, _), (4, _), (5, _), (43, _)]) (.cons rfl (.cons rfl (.cons rfl (.cons rfl .nil)))) ?_
          refine x_true rfl rfl ?_
          refine x_seq (x_region ?_)
          refine tl_y rfl (y_assign rfl) ?_
          refine tl_nil (.then_normal ?_)
          refine .sub (F' := [(6, _)]) (.cons rfl .nil) ?_
          refine x_ret (.then_ret (ret1 rfl rfl hd rfl))
        ·
          refine tl_y rfl (y_fieldAddr rfl) ?_
          refine tl_y rfl (y_load rfl rfl (.own inferInstance inferInstance)) ?_
          refine tl_y rfl (y_len rfl) ?_
          refine tl_y rfl (y_gtr rfl rfl) ?_
          refine tl_y rfl (y_pickF rfl rfl) ?_
          refine tl_nil (.then_normal ?_)
          refine .sub (F' := [(0, _), (4, _), (5, _), (43, _)]) (.cons rfl (.cons rfl (.cons rfl (.cons rfl .nil)))) ?_
          refine x_cond rfl (fun hc2 => ?_) (fun hc2 => ?_)
          ·
            refine x_seq (x_region ?_)
            refine tl_y rfl (y_assign rfl) ?_
            refine tl_nil (.then_normal ?_)
            refine .sub (F' := [(6, _)]) (.cons rfl .nil) ?_
            refine x_ret (.then_ret (ret1 rfl rfl hd rfl))
          ·
            have hok : okL pl := Classical.not_not.1 hk2
            obtain ⟨y, hy1, hy2, hy3⟩ := mod_tot x hok
            have hp0 := totN_pos hok
            refine x_skip (.then_normal ?_)
            refine x_seq (x_region ?_)
            refine tl_y rfl (y_move (v := .slice _ _ _) rfl) ?_
            refine tl_y rfl (y_loadAgg rfl rfl (.own inferInstance inferInstance)) ?_
            refine tl_e rfl (e_call' rfl (Public_hspec (hg.mono hd) (h.mono hd) (hname.mono hd) (hsec.mono hd)) ?_)
            rintro _ M3 _ hM3 ⟨rfl, A3, m3, c3, rfl, hA3⟩
            replace hd := hd.trans hM3
            have hs3 := hA3.size
            refine tl_y rfl (y_move (v := .tuple _) rfl) ?_
            refine tl_y rfl (y_extract rfl) ?_
            refine tl_y rfl (y_extract rfl) ?_
            refine tl_y rfl (y_assign (v := .slice _ _ _) rfl) ?_
            refine tl_y rfl (y_assign (v := .int _ _) rfl) ?_
            refine tl_nil (.then_normal ?_)
            refine .sub (F' := [(0, _), (4, _), (5, _), (7, _), (8, _)]) (.cons rfl (.cons rfl (.cons rfl (.cons rfl (.cons rfl .nil))))) ?_
            refine x_seq ?_
            have he : Le M3 M3 := Le.refl _
            refine x_draw 6 hmix rfl ?_
            refine to_p 0 rfl (by kernel_rfl) rfl (y_fieldAddr rfl) ?_
            refine to_y 1 rfl (by kernel_rfl) rfl (y_load rfl rfl (.own inferInstance inferInstance)) ?_
            refine to_p 2 rfl (by kernel_rfl) rfl (y_move (v := .slice _ _ _) rfl) ?_
            refine to_e 3 rfl (by kernel_rfl) rfl (e_call' rfl (RTotal_spec (h.mono hd)) ?_)
            rintro _ _ _ _ ⟨rfl, rfl, rfl⟩
            refine ⟨⟨(by first | exact Le.refl _ | assumption), Keeps.mem⟩, ?_⟩
            refine to_p 4 rfl (by kernel_rfl) rfl (y_remI rfl rfl ⟨by omega, by omega⟩) ?_
            rw [hy3]
            refine to_p 5 rfl (by kernel_rfl) rfl (y_assign (v := .int _ _) rfl) ?_
            refine to_nil (by kernel_rfl) (.then_normal ?_)
            refine .sub (F' := [(0, _), (4, _), (5, _), (7, _), (8, _), (9, _)]) (.cons rfl (.cons rfl (.cons rfl (.cons rfl (.cons rfl (.cons rfl .nil)))))) ?_
            refine x_seq (x_region ?_)
            refine tl_y rfl (y_move (v := .slice _ _ _) rfl) ?_
            refine tl_y rfl (y_loadAgg rfl rfl (.own inferInstance inferInstance)) ?_
            refine tl_y rfl (y_move (v := .int _ _) rfl) ?_
            refine tl_y rfl (y_fieldAddr rfl) ?_
            refine tl_y rfl (y_load rfl rfl (.own inferInstance inferInstance)) ?_
            refine tl_e rfl (e_call' rfl (Sign_hspec (hg.mono hd) (h.mono hd) (hname.mono hd) (hsec.mono hd) y (htext.mono hd)) ?_)
            rintro _ M5 _ hM5 ⟨rfl, A5, m5, c5, rfl, hA5⟩
            replace hd := hd.trans hM5
            replace hA3 := hA3.mono hM5
            have hs5 := hA5.size
            refine tl_y rfl (y_move (v := .tuple _) rfl) ?_
            refine tl_y rfl (y_extract rfl) ?_
            refine tl_y rfl (y_extract rfl) ?_
            refine tl_y rfl (y_assign (v := .slice _ _ _) rfl) ?_
            refine tl_y rfl (y_assign (v := .int _ _) rfl) ?_
            refine tl_nil (.then_normal ?_)
            refine .sub (F' := [(0, _), (5, _), (7, _), (8, _), (9, _), (10, _), (11, _)]) (.cons rfl (.cons rfl (.cons rfl (.cons rfl (.cons rfl (.cons rfl (.cons rfl .nil))))))) ?_
            refine x_seq (x_seq (x_region ?_))
            refine tl_y rfl (y_move (v := .int _ _) rfl) ?_
            refine tl_y rfl (y_neq rfl rfl) ?_
            refine tl_nil (.then_normal ?_)
            refine x_cond rfl (fun hc3 => ?_) (fun hc3 => ?_)
            ·
              have hE1 := canE_two hok hc3
              have hE2 : hsigE pl nl sl_ y.toNat tl = 1 := by rw [hsigE, if_pos hc3, hE1]
              rw [hE1, hE2]
              refine x_seq (x_region ?_)
              refine tl_y rfl (y_move (v := .int _ _) rfl) ?_
              refine tl_y rfl (y_eql rfl rfl) ?_
              refine tl_y rfl (y_move (v := .bool _) rfl) ?_
              refine tl_set (s := 68) (u := .bool true) rfl (rfl) ?_
              refine tl_y rfl (y_move (v := .int _ _) rfl) ?_
              refine tl_y rfl (y_eql rfl rfl) ?_
              refine tl_y rfl (y_pickT rfl rfl) ?_
              refine tl_y rfl (y_assign (v := .bool _) rfl) ?_
              refine tl_nil (.then_normal ?_)
              refine .sub (F' := [(6, _)]) (.cons rfl .nil) ?_
              refine x_ret (.then_ret (ret1 rfl rfl hd rfl))
            ·
              have hcan : canE pl nl sl_ = 0 := Classical.not_not.1 hc3
              have hEp : plE pl y.toNat = 0 := by rw [plE, if_pos hok, if_pos hy2]
              have hE0 : hsigE pl nl sl_ y.toNat tl = 0 := by rw [hsigE, if_neg (fun h => h hcan), if_neg (by omega), hEp]
              rw [hsigV, if_pos hE0] at hA5 hs5
              rw [hpubV, if_pos hcan] at hA3 hs3
              have hrd := hss_read hcan hns hss (text := text) (x := y.toNat) rfl
              have hft := hss_fits hcan hns hss (text := text) (x := y.toNat) rfl (by omega)
              have hpl := hss_places hcan hns hss (text := text) (x := y.toNat) rfl
              have hb3 : m3 ≤ 1000000000000 := by
                obtain ⟨hp1, _, _, _⟩ := okL_get hok (i := 0) (by have := hok.1.1; omega)
                obtain ⟨n', w, p, H, hx⟩ := okP_facts hp1
                have h16 : name.length = 16 := (seedR_ok hok (canE_zero hcan).2 [] hns hss 0 (by omega)).1
                obtain ⟨k1, _, _, _, _⟩ := pub_parts hx h16 sec
                have := hx.o.n32
                rw [hpubB, List.length_append, putB_length, k1] at hs3
                omega
              have hb5 : m5 ≤ 1000000000000 := by
                have hcl : ∀ k, k ≤ pl.length → (catR (levR pl (atsN (pl.map tv) y.toNat) name sec text) k).length ≤ k * 10100 := by
                  intro k
                  induction k with
                  | zero => intro _; rw [catR_zero]; simp
                  | succ k ih =>
                    intro hk
                    have h1 := ih (by omega)
                    obtain ⟨z1, z2, _, _⟩ := lv_len hok (canE_zero hcan).2 _ text hns hss (i := k) (by omega) rfl
                    have h2 : (levR pl (atsN (pl.map tv) y.toNat) name sec text k).length ≤ 10100 := by
                      rw [levR, List.length_append, z1]
                      split
                      · obtain ⟨n2, _, _, _, _, _, r1, _, _, r4, r5⟩ := pubR_facts (at_ := atsN (pl.map tv) y.toNat) (name := name) (sec := sec) hok (canE_zero hcan).2 hns hss (i := k + 1) (by omega)
                        omega
                      · rw [List.length_nil]; omega
                    rw [catR_succ, List.length_append]
                    omega
                have := hcl _ (Nat.le_refl _)
                have h8 := hok.1.2
                rw [hsigB, List.length_append, putB_length] at hs5
                omega
              rw [hE0]
              refine x_skip (.then_normal ?_)
              refine x_seq (x_region ?_)
              refine tl_y rfl (y_move (v := .slice _ _ _) rfl) ?_
              refine tl_y rfl (y_move (v := .slice _ _ _) rfl) ?_
              refine tl_e rfl (e_call' rfl (Read_hspec (hg.mono hd) hA3 hA5 hb3 hb5) ?_)
              rintro _ M6 _ hM6 ⟨rfl, A6, m6, c6, rfl, hA6⟩
              replace hd := hd.trans hM6
              rw [hpl] at hA6
              rw [hrd]
              refine tl_y rfl (y_move (v := .tuple _) rfl) ?_
              refine tl_y rfl (y_extract rfl) ?_
              refine tl_y rfl (y_extract rfl) ?_
              refine tl_y rfl (y_assign (v := .slice _ _ _) rfl) ?_
              refine tl_y rfl (y_assign (v := .int _ _) rfl) ?_
              refine tl_nil (.then_normal ?_)
              refine .sub (F' := [(0, _), (5, _), (7, _), (9, _), (10, _), (11, _), (12, _), (13, _)]) (.cons rfl (.cons rfl (.cons rfl (.cons rfl (.cons rfl (.cons rfl (.cons rfl (.cons rfl .nil)))))))) ?_
              refine x_seq (x_region ?_)
              refine tl_y rfl (y_move (v := .slice _ _ _) rfl) ?_
              refine tl_y rfl (y_move (v := .int _ _) rfl) ?_
              refine tl_e rfl (e_call' rfl (RPlaces_spec (h.mono hd) y) ?_)
              rintro _ M7 _ hM7 ⟨rfl, A7, m7, c7, rfl, hA7⟩
              replace hd := hd.trans hM7
              rw [plV, if_pos ⟨hok, hy2⟩] at hA7
              refine tl_y rfl (y_move (v := .tuple _) rfl) ?_
              refine tl_y rfl (y_extract rfl) ?_
              refine tl_y rfl (y_extract rfl) ?_
              refine tl_y rfl (y_assign (v := .slice _ _ _) rfl) ?_
              refine tl_y rfl (y_assign (v := .int _ _) rfl) ?_
              refine tl_nil (.then_normal ?_)
              refine .sub (F' := [(5, _), (7, _), (10, _), (11, _), (12, _), (13, _), (14, _)]) (.cons rfl (.cons rfl (.cons rfl (.cons rfl (.cons rfl (.cons rfl (.cons rfl .nil))))))) ?_
              refine x_seq (x_region ?_)
              refine tl_y rfl (y_move (v := .int _ _) rfl) ?_
              refine tl_y rfl (y_eql rfl rfl) ?_
              refine tl_y rfl (y_move (v := .bool _) rfl) ?_
              refine tl_set (s := 86) (u := .bool true) rfl (by first | rfl | exact congrArg Value.bool (decide_eq_true rfl) | exact congrArg Value.bool (decide_eq_true hE0)) ?_
              refine tl_y rfl (y_move (v := .int _ _) rfl) ?_
              refine tl_y rfl (y_eql rfl rfl) ?_
              refine tl_y rfl (y_pickT rfl rfl) ?_
              refine tl_y rfl (y_move (v := .bool _) rfl) ?_
              refine tl_set (s := 90) (u := .bool true) rfl (by first | rfl | exact congrArg Value.bool (decide_eq_true rfl) | exact congrArg Value.bool (decide_eq_true hE0)) ?_
              refine tl_y rfl (y_move (v := .slice _ _ _) rfl) ?_
              refine tl_y rfl (y_move (v := .slice _ _ _) rfl) ?_
              refine tl_e rfl (e_call' rfl (Words_spec (hA6.mono hM7) hA7 rfl) ?_)
              rintro _ _ _ _ ⟨rfl, rfl, rfl⟩
              refine tl_y rfl (y_pickT rfl rfl) ?_
              refine tl_y rfl (y_move (v := .bool _) rfl) ?_
              refine tl_set (s := 95) (u := .bool true) rfl (by first | rfl | exact congrArg Value.bool (decide_eq_true rfl) | exact congrArg Value.bool (decide_eq_true hE0)) ?_
              refine tl_y rfl (y_move (v := .slice _ _ _) rfl) ?_
              refine tl_y rfl (y_fieldAddr rfl) ?_
              refine tl_y rfl (y_load rfl rfl (.own inferInstance inferInstance)) ?_
              refine tl_y rfl (y_move (v := .slice _ _ _) rfl) ?_
              refine tl_e rfl (e_call' rfl (Fits_hspec (hg.mono hd) (hA3.mono (hM6.trans hM7)) (htext.mono hd) (hA5.mono (hM6.trans hM7)) hb3 hb5) ?_)
              rintro _ M8 _ hM8 ⟨rfl, rfl⟩
              replace hd := hd.trans hM8
              refine tl_y rfl (y_pickT rfl rfl) ?_
              refine tl_y rfl (y_assign (v := .bool _) rfl) ?_
              refine tl_nil (.then_normal ?_)
              refine .sub (F' := [(6, _)]) (.cons rfl .nil) ?_
              refine x_ret (ret1 rfl rfl hd (congrArg Value.bool (decide_eq_true hft)))
end
end Go.Proofs.YtiimjodbaogjbaaGreatDoor
