/-
Contracts of functions, each proved by a walk through its code.
-/
import Derived.Test.YtbgdjdhbejbhkaaDoorRef1Etc
import Derived.Test.YtbgdjdhbejbhkaaDoorEngWEtc
import Derived.Test.YtbgdjdhbejbhkaaDoorRef2Etc
import Derived.Test.YtbgdjdhbejbhkaaDoorLaw20Etc
set_option linter.unusedVariables false
set_option linter.unusedSimpArgs false
namespace Go.Proofs.YtbgdjdhbejbhkaaDoor
open Go Go.Eng
/-- Is byte 'j' the new one? -/
def pickP (c j : Nat) : Prop := c % 4 = 1 ∨ (c % 4 = 2 ∧ j < c / 4) ∨ (c % 4 = 3 ∧ c / 4 ≤ j)
instance (c j : Nat) : Decidable (pickP c j) := by unfold pickP; infer_instance
def mixB (c : Nat) (old w : List UInt8) : Nat → List UInt8
  | 0 => old
  | j + 1 => if pickP c j then (mixB c old w j).set j (w.getD j 0) else mixB c old w j
theorem mixB_length (c : Nat) (old w : List UInt8) : ∀ j, (mixB c old w j).length = old.length
  | 0 => rfl
  | j + 1 => by simp only [mixB]; split <;> simp [mixB_length c old w j]
theorem mixB_get (c : Nat) (old w : List UInt8) (hl : w.length = old.length) : ∀ j i, j ≤ old.length → (mixB c old w j)[i]? = if i < j ∧ pickP c i then w[i]? else old[i]?
  | 0, i, _ => by simp [mixB]
  | j + 1, i, hj => by
    have ih := mixB_get c old w hl j i (by omega)
    simp only [mixB]
    by_cases hp : pickP c j
    · rw [if_pos hp, List.getElem?_set]
      by_cases hji : j = i
      · subst hji
        rw [if_pos rfl, if_pos (by rw [mixB_length]; omega), if_pos ⟨by omega, hp⟩, List.getD_eq_getElem?_getD, List.getElem?_eq_getElem (by omega)]
        rfl
      · rw [if_neg hji, ih]
        by_cases hi : i < j ∧ pickP c i
        · rw [if_pos hi, if_pos ⟨by omega, hi.2⟩]
        · rw [if_neg hi, if_neg (fun hh => hi ⟨by omega, hh.2⟩)]
    · rw [if_neg hp, ih]
      by_cases hi : i < j ∧ pickP c i
      · rw [if_pos hi, if_pos ⟨by omega, hi.2⟩]
      · rw [if_neg hi, if_neg (fun hh => hi ⟨by
          have : i ≠ j := fun e => hp (e ▸ hh.2)
          omega, hh.2⟩)]
theorem mixB_after (c : UInt8) (old w : List UInt8) (h1 : old.length = 64) (h2 : w.length = 64) : mixB c.toNat old w 64 = afterF old w c := by
  apply List.ext_getElem?
  intro i
  rw [mixB_get _ _ _ (by omega) 64 i (by omega)]
  unfold afterF
  by_cases c0 : c.toNat % 4 = 0
  · rw [if_pos c0, if_neg (fun hh => by have h := hh.2; unfold pickP at h; omega)]
  · rw [if_neg c0]
    by_cases c1 : c.toNat % 4 = 1
    · rw [if_pos c1]
      by_cases hi : i < 64
      · rw [if_pos ⟨hi, .inl c1⟩]
      · rw [if_neg (fun hh => hi hh.1), List.getElem?_eq_none (by omega), List.getElem?_eq_none (by omega)]
    · rw [if_neg c1]
      by_cases c2 : c.toNat % 4 = 2
      · rw [if_pos c2, List.getElem?_append, List.length_take, List.getElem?_take, List.getElem?_drop]
        by_cases hi : i < min (c.toNat / 4) 64
        · rw [if_pos (by unfold pickP; omega), if_pos (by omega), if_pos hi]
        · rw [if_neg (by unfold pickP; omega), if_neg (by omega)]
          congr 1; omega
      · rw [if_neg c2, List.getElem?_append, List.length_take, List.getElem?_take, List.getElem?_drop]
        by_cases hi : i < min (c.toNat / 4) 64
        · rw [if_neg (by unfold pickP; omega), if_pos (by omega), if_pos hi]
        · by_cases h64 : i < 64
          · rw [if_pos (by unfold pickP; omega), if_neg (by omega)]
            congr 1; omega
          · rw [if_neg (fun hh => h64 hh.1), if_neg (by omega), List.getElem?_eq_none (by omega), List.getElem?_eq_none (by omega)]
theorem mix_store {c j : Nat} {old w : List UInt8} {pre slack : List Value} (hp : pickP c j) (hj : j < old.length) :
    (pre ++ ((mixB c old w j).map bv ++ slack)).set (pre.length + j) (bv (w.getD j 0)) = pre ++ ((mixB c old w (j + 1)).map bv ++ slack) := by
  rw [set_mid _ _ _ _ _ (by simp [mixB_length]; omega)]
  simp only [mixB, if_pos hp, List.map_set]
theorem mix_skip {c j : Nat} {old w : List UInt8} (hp : ¬ pickP c j) : mixB c old w (j + 1) = mixB c old w j := by simp only [mixB, if_neg hp]
section
variable {G : World} {M : Mem} {R : Own} {q : Nat} {r : RRep} {S : DS}
theorem RUp_spec (h : IsRef M r S) {Ac : Option Addr} {nc cc : Nat} {cs : List UInt8} (hcs : Bytes M Ac nc cc cs) {A : Option Addr} {n c : Nat} {xs : List Int} (hx : Ints M A n c xs) (stop : Int) :
    Con Tryd.prog 40 #[.pointer (some ⟨q, 0, none⟩), .slice Ac nc cc, .agg #[.slice A n c, .int .i64 stop]] G M (rL q r S R) (fun v M' L' => RK q r.la r.ln r.lc (upped S cs xs stop) R M' L') noPanic := by
  have hsz := h.sz
  have hsn := h.sn
  have hwn := h.wn
  have hhn := h.hn
  have hwm := h.w.max
  have hwl := h.w.le
  have hhv := h.what.len
  have hcz := hcs.size
  refine enter (args := [_, _, _]) (fn := Tryd.f40) ⟨Tryd.func40, rfl, by kernel_rfl, by kernel_rfl⟩ 116 rfl ?_
  refine x_seq (x_region ?_)
  refine tl_e rfl (e_box rfl (fun b1 => ?_))
  refine tl_nil (.then_normal ?_)
  refine x_seq (x_seq (x_region ?_))
  refine tl_y rfl (y_assign rfl) ?_
  refine tl_nil (.then_normal ?_)
  refine x_block ?_
  refine x_loop (I := fun m' F D M1 L1 => ∃ (k : Nat) (sv : List Value) (E : Own), m' = r.wn - k ∧ k ≤ r.wn ∧ Le M M1 ∧ OwnRow 45 1 r.sa r.sn r.sc sv E ∧ BRows M1 sv (upGo cs 0 (S.pend.take k) S.sure) ∧ D = [] ∧ L1 = (b1, .cells (List.toArray [.slice A n c, .int .i64 stop]) 66 (0, 0)) :: (q, .cells (List.toArray (rcells r S)) 74 (0, 0)) :: (E ++ (r.E2 ++ (r.E3 ++ R))) ∧ F = [(0, .pointer (some ⟨q, 0, none⟩)), (1, .slice Ac nc cc), (5, .pointer (some ⟨b1, 0, none⟩)), (6, .int .i64 k)]) (r.wn) (F0 := [(0, _), (1, _), (5, _), (6, _)]) ?_ (.cons rfl (.cons rfl (.cons rfl (.cons rfl .nil)))) ?_  -- slots [0, 1, 5, 6], written [6]
  · exact ⟨0, r.sv, r.E1, rfl, by omega, Le.refl _, h.s, h.sure, rfl, rfl, rfl⟩
  rintro m _ _ M1 L1 ⟨k, sv, E, rfl, hk, hM1, hE, hsv, rfl, rfl, rfl⟩
  refine x_seq (x_seq (x_region ?_))
  refine tl_y rfl (y_move (v := .int _ _) rfl) ?_
  refine tl_y rfl (y_move (v := .pointer _) rfl) ?_
  refine tl_y rfl (y_nilCheck rfl) ?_
  refine tl_y rfl (y_fieldAddr rfl) ?_
  refine tl_y rfl (y_load rfl rfl (.own inferInstance inferInstance)) ?_
  refine tl_y rfl (y_len rfl) ?_
  refine tl_y rfl (y_lss rfl rfl) ?_
  refine tl_nil (.then_normal ?_)
  refine .sub (F' := [(0, _), (1, _), (5, _), (6, _), (16, _)]) (.cons rfl (.cons rfl (.cons rfl (.cons rfl (.cons rfl .nil))))) ?_
  refine x_cond rfl (fun hc1 => ?_) (fun hc1 => ?_)
  ·
    have hkn : k < r.wn := by omega
    have hq := h.pl (S.pend.getD k default) (getD_mem _ _ _ (by omega))
    obtain ⟨gs, pre, slack, hsa, hEe⟩ := hE.pos (by omega)
    subst hEe
    rw [hsa] at hE
    simp only [List.cons_append, List.nil_append]
    have hsl := hsv.len
    rw [upGo_length] at hsl
    refine x_skip (.then_normal ?_)
    refine x_seq ?_
    refine x_block ?_
    refine x_seq (x_region ?_)
    refine tl_y rfl (y_assign rfl) ?_
    refine tl_nil (.then_normal ?_)
    refine x_join (I := fun F D M2 L2 => D = [] ∧ M1 = M2 ∧ L2 = (b1, .cells (List.toArray [.slice A n c, .int .i64 stop]) 66 (0, 0)) :: (q, .cells (List.toArray (rcells r S)) 74 (0, 0)) :: (gs, .cells (pre ++ (sv ++ slack)).toArray 45 (0, 0)) :: (r.E2 ++ (r.E3 ++ R)) ∧ F = [(0, .pointer (some ⟨q, 0, none⟩)), (1, .slice Ac nc cc), (5, .pointer (some ⟨b1, 0, none⟩)), (6, .int .i64 k), (7, .int .i64 (nextC cs k).toNat)]) ?_ (fun Jj2 => ?_)
    ·
      rintro _ _ M2 L2 ⟨rfl, rfl, rfl, rfl⟩  -- slots [0, 1, 5, 6, 7]
      obtain ⟨g2, o2, hwa, hcw⟩ := h.w.cellIn (M := M1) (L := ((b1, .cells (List.toArray [.slice A n c, .int .i64 stop]) 66 (0, 0)) :: (q, .cells (List.toArray (rcells r S)) 74 (0, 0)) :: (gs, .cells (pre ++ (sv ++ slack)).toArray 45 (0, 0)) :: (r.E2 ++ (r.E3 ++ R)))) inferInstance (by simp; omega)
      have hw1 := hcw k _ (wheres_get (by omega))
      obtain ⟨Ao, no, co, hvo, hbo⟩ := hsv.get (S.pend.getD k default).1.toNat (by rw [upGo_length]; omega)
      have hol := upGo_mem cs (S.pend.take k) 0 S.sure h.sl (fun q hq => h.pl q (List.mem_of_mem_take hq)) _ (getD_mem _ (S.pend.getD k default).1.toNat [] (by rw [upGo_length]; omega))
      generalize hold : (upGo cs 0 (S.pend.take k) S.sure).getD (S.pend.getD k default).1.toNat [] = old at hbo hol
      obtain rfl : no = 64 := by have := hbo.size; omega
      have hcb := (nextC cs k).toNat_lt
      refine x_seq ?_
      refine x_draw 16 hmix rfl ?_
      refine to_p 1 rfl (by kernel_rfl) rfl (y_move (v := .pointer _) rfl) ?_
      refine to_p 2 rfl (by kernel_rfl) rfl (y_nilCheck rfl) ?_
      refine to_p 3 rfl (by kernel_rfl) rfl (y_fieldAddr rfl) ?_
      refine to_y 4 rfl (by kernel_rfl) rfl (y_load rfl rfl (.own inferInstance inferInstance)) ?_
      refine to_p 5 rfl (by kernel_rfl) rfl (y_move (v := .pointer _) rfl) ?_
      refine to_p 6 rfl (by kernel_rfl) rfl (y_nilCheck rfl) ?_
      refine to_p 7 rfl (by kernel_rfl) rfl (y_fieldAddr rfl) ?_
      refine to_y 8 rfl (by kernel_rfl) rfl (y_load rfl rfl (.own inferInstance inferInstance)) ?_
      refine to_p 9 rfl (by kernel_rfl) rfl (y_move (v := .int _ _) rfl) ?_
      refine to_p 10 rfl (by kernel_rfl) rfl (y_indexAddr (b := g2) (o := o2) (by rw [hwa]; rfl) rfl (by omega)) ?_
      refine to_y 11 rfl (by kernel_rfl) rfl (y_load rfl rfl (.at_ hw1 (by omega))) ?_
      refine to_p 12 rfl (by kernel_rfl) rfl (y_indexAddr (b := gs) (o := pre.length) (by rw [hsa]; rfl) rfl (by omega)) ?_
      refine to_y 13 rfl (by kernel_rfl) rfl (y_load rfl rfl (.ownAt (c := pre ++ (sv ++ slack)) inferInstance (by rw [List.getElem?_append_right (by omega), Nat.add_sub_cancel_left, List.getElem?_append_left (by omega), Nat.mul_one]; exact hvo))) ?_
      refine to_e 0 rfl (by kernel_rfl) rfl (e_buildSlice0 (fun b2 => ?_))
      refine ⟨⟨(by first | exact Le.refl _ | assumption), Keeps.mem⟩, ?_⟩
      refine to_e 14 rfl (by kernel_rfl) rfl (e_append1 (by decide) rfl rfl OwnRow.made00 (.row hbo) (all_one_bv _) (by omega) (by omega) (fun A8 c8 E8 hE8 => ?_))
      rw [Nat.zero_add, List.nil_append] at hE8
      rw [Nat.zero_add]
      have hc8 := hE8.le
      have hm8 := hE8.max
      obtain ⟨g8, pre8, slack8, rfl, rfl⟩ := hE8.parts (by omega)
      refine ⟨⟨(by first | exact Le.refl _ | assumption), Keeps.mem⟩, ?_⟩
      refine to_p 15 rfl (by kernel_rfl) rfl (y_assign (v := .slice _ _ _) rfl) ?_
      refine to_nil (by kernel_rfl) (.then_normal ?_)
      refine .sub (F' := [(0, _), (1, _), (5, _), (6, _), (7, _), (8, _)]) (.cons rfl (.cons rfl (.cons rfl (.cons rfl (.cons rfl (.cons rfl .nil)))))) ?_
      refine x_seq (x_seq (x_region ?_))
      simp only [List.cons_append, List.nil_append]
      refine tl_y rfl (y_assign rfl) ?_
      refine tl_nil (.then_normal ?_)
      refine x_block ?_
      refine x_loop (I := fun m' F D M2 L2 => ∃ (j : Nat), m' = 64 - j ∧ j ≤ 64 ∧ M1 = M2 ∧ D = [] ∧ L2 = (g8, .cells (pre8 ++ ((mixB (nextC cs k).toNat old (S.pend.getD k default).2 j).map bv ++ slack8)).toArray 5 (0, 0)) :: ((b1, .cells (List.toArray [.slice A n c, .int .i64 stop]) 66 (0, 0)) :: (q, .cells (List.toArray (rcells r S)) 74 (0, 0)) :: (gs, .cells (pre ++ (sv ++ slack)).toArray 45 (0, 0)) :: (r.E2 ++ (r.E3 ++ R))) ∧ F = [(0, .pointer (some ⟨q, 0, none⟩)), (1, .slice Ac nc cc), (5, .pointer (some ⟨b1, 0, none⟩)), (6, .int .i64 k), (7, .int .i64 (nextC cs k).toNat), (8, .slice (some ⟨g8, pre8.length, none⟩) 64 c8), (9, .int .i64 j)]) (64) (F0 := [(0, _), (1, _), (5, _), (6, _), (7, _), (8, _), (9, _)]) ?_ (.cons rfl (.cons rfl (.cons rfl (.cons rfl (.cons rfl (.cons rfl (.cons rfl .nil))))))) ?_  -- slots [0, 1, 5, 6, 7, 8, 9], written [9]
      · exact ⟨0, rfl, by omega, rfl, rfl, rfl, rfl⟩
      rintro m _ _ M2 L2 ⟨j, rfl, hj, rfl, rfl, rfl, rfl⟩
      refine x_seq (x_seq (x_region ?_))
      refine tl_y rfl (y_move (v := .int _ _) rfl) ?_
      refine tl_y rfl (y_lss rfl rfl) ?_
      refine tl_nil (.then_normal ?_)
      refine x_cond rfl (fun hc2 => ?_) (fun hc2 => ?_)
      ·
        have hj64 : j < 64 := by omega
        obtain ⟨g3, o3, hha, hch⟩ := h.h.cellIn (M := M1) (L := (g8, .cells (pre8 ++ ((mixB (nextC cs k).toNat old (S.pend.getD k default).2 j).map bv ++ slack8)).toArray 5 (0, 0)) :: ((b1, .cells (List.toArray [.slice A n c, .int .i64 stop]) 66 (0, 0)) :: (q, .cells (List.toArray (rcells r S)) 74 (0, 0)) :: (gs, .cells (pre ++ (sv ++ slack)).toArray 45 (0, 0)) :: (r.E2 ++ (r.E3 ++ R)))) inferInstance (by simp at hhv; omega)
        obtain ⟨A9, n9, c9, hv9, hb9⟩ := (h.what.mono hM1).get k (by simp; omega)
        rw [whats_getD (by omega)] at hb9
        have hh9 := hch k _ hv9
        have hn9 := hb9.size
        obtain ⟨g9, o9, rfl, hby⟩ := hb9.byte (by omega)
        refine x_skip (.then_normal ?_)
        refine x_join (I := fun F D M2 L2 => D = [] ∧ M1 = M2 ∧ L2 = (g8, .cells (pre8 ++ ((mixB (nextC cs k).toNat old (S.pend.getD k default).2 (j + 1)).map bv ++ slack8)).toArray 5 (0, 0)) :: ((b1, .cells (List.toArray [.slice A n c, .int .i64 stop]) 66 (0, 0)) :: (q, .cells (List.toArray (rcells r S)) 74 (0, 0)) :: (gs, .cells (pre ++ (sv ++ slack)).toArray 45 (0, 0)) :: (r.E2 ++ (r.E3 ++ R))) ∧ F = [(0, .pointer (some ⟨q, 0, none⟩)), (1, .slice Ac nc cc), (5, .pointer (some ⟨b1, 0, none⟩)), (6, .int .i64 k), (7, .int .i64 (nextC cs k).toNat), (8, .slice (some ⟨g8, pre8.length, none⟩) 64 c8), (9, .int .i64 j)]) ?_ (fun Jj3 => ?_)
        ·
          rintro _ _ M2 L2 ⟨rfl, rfl, rfl, rfl⟩  -- slots [0, 1, 5, 6, 7, 8, 9]
          refine x_region ?_
          refine tl_y rfl (y_move (v := .int _ _) rfl) ?_
          refine tl_y rfl (y_addI rfl rfl (by omega)) ?_
          refine tl_y rfl (y_assign (v := .int _ _) rfl) ?_
          refine tl_nil (.loop_next (m' := 64 - (j + 1)) (by omega) (F' := [(0, _), (1, _), (5, _), (6, _), (7, _), (8, _), (9, _)]) (.cons rfl (.cons rfl (.cons rfl (.cons rfl (.cons rfl (.cons rfl (.cons rfl .nil))))))) ?_)
          exact ⟨j + 1, rfl, by omega, rfl, rfl, rfl, rfl⟩
        ·
          refine x_block ?_
          refine x_seq (x_region ?_)
          refine tl_y rfl (y_move (v := .int _ _) rfl) ?_
          refine tl_y rfl (y_remI rfl rfl (by omega)) ?_
          refine tl_y rfl (y_eql rfl rfl) ?_
          refine tl_y rfl (y_move (v := .bool _) rfl) ?_
          refine tl_cases (s := 52) rfl (fun hk1 => ?_) (fun hk1 => ?_)
          ·
            refine tl_skip rfl ?_
            refine tl_skip rfl ?_
            refine tl_skip rfl ?_
            refine tl_skip rfl ?_
            refine tl_skip rfl ?_
            refine tl_skip rfl ?_
            refine tl_skip rfl ?_
            refine tl_skip rfl ?_
            refine tl_skip rfl ?_
            refine tl_y rfl (y_pickT rfl rfl) ?_
            refine tl_y rfl (y_move (v := .bool _) rfl) ?_
            refine tl_skip rfl ?_
            refine tl_skip rfl ?_
            refine tl_skip rfl ?_
            refine tl_skip rfl ?_
            refine tl_skip rfl ?_
            refine tl_skip rfl ?_
            refine tl_skip rfl ?_
            refine tl_skip rfl ?_
            refine tl_skip rfl ?_
            refine tl_y rfl (y_pickT rfl rfl) ?_
            refine tl_nil (.then_normal ?_)
            refine .sub (F' := [(0, _), (1, _), (5, _), (6, _), (7, _), (8, _), (9, _), (73, _)]) (.cons rfl (.cons rfl (.cons rfl (.cons rfl (.cons rfl (.cons rfl (.cons rfl (.cons rfl .nil)))))))) ?_
            refine x_true rfl rfl ?_
            refine x_region ?_
            refine tl_y rfl (y_move (v := .slice _ _ _) rfl) ?_
            refine tl_y rfl (y_move (v := .int _ _) rfl) ?_
            refine tl_y rfl (y_move (v := .pointer _) rfl) ?_
            refine tl_y rfl (y_nilCheck rfl) ?_
            refine tl_y rfl (y_fieldAddr rfl) ?_
            refine tl_y rfl (y_load rfl rfl (.own inferInstance inferInstance)) ?_
            refine tl_y rfl (y_move (v := .int _ _) rfl) ?_
            refine tl_y rfl (y_indexAddr (b := g3) (o := o3) (by rw [hha]; rfl) rfl (by omega)) ?_
            refine tl_y rfl (y_load rfl rfl (.at_ hh9 (by omega))) ?_
            refine tl_y rfl (y_move (v := .int _ _) rfl) ?_
            refine tl_y rfl (y_indexAddr rfl rfl (by omega)) ?_
            refine tl_y rfl (y_load rfl rfl (.at_ (hby _ j (by omega)) (by omega))) ?_
            refine tl_y rfl (y_indexAddr rfl rfl (by omega)) ?_
            refine tl_e rfl (e_storeAt (c := pre8 ++ ((mixB (nextC cs k).toNat old (S.pend.getD k default).2 j).map bv ++ slack8)) rfl rfl rfl inferInstance (by simp [mixB_length]; omega) inferInstance ?_)
            refine tl_nil (.block_normal (.then_normal (.sub (F' := [(0, _), (1, _), (5, _), (6, _), (7, _), (8, _), (9, _)]) (.cons rfl (.cons rfl (.cons rfl (.cons rfl (.cons rfl (.cons rfl (.cons rfl .nil))))))) (Jj3 _ _ _ _ ?_))))
            exact ⟨rfl, rfl, by rw [← mix_store (by unfold pickP; omega) (by omega)]; simp [bv], rfl⟩
          ·
            refine tl_y rfl (y_move (v := .int _ _) rfl) ?_
            refine tl_y rfl (y_remI rfl rfl (by omega)) ?_
            refine tl_y rfl (y_eql rfl rfl) ?_
            refine tl_y rfl (y_move (v := .bool _) rfl) ?_
            refine tl_cases (s := 56) rfl (fun hk2 => ?_) (fun hk2 => ?_)
            ·
              refine tl_y rfl (y_move (v := .int _ _) rfl) ?_
              refine tl_y rfl (y_move (v := .int _ _) rfl) ?_
              refine tl_y rfl (y_quoI rfl rfl (by omega)) ?_
              refine tl_y rfl (y_lss rfl rfl) ?_
              refine tl_y rfl (y_pickT rfl rfl) ?_
              refine tl_y rfl (y_pickF rfl rfl) ?_
              refine tl_y rfl (y_move (v := .bool _) rfl) ?_
              refine tl_cases (s := 63) rfl (fun hk3 => ?_) (fun hk3 => ?_)
              ·
                refine tl_skip rfl ?_
                refine tl_skip rfl ?_
                refine tl_skip rfl ?_
                refine tl_skip rfl ?_
                refine tl_skip rfl ?_
                refine tl_skip rfl ?_
                refine tl_skip rfl ?_
                refine tl_skip rfl ?_
                refine tl_skip rfl ?_
                refine tl_y rfl (y_pickT rfl rfl) ?_
                refine tl_nil (.then_normal ?_)
                refine .sub (F' := [(0, _), (1, _), (5, _), (6, _), (7, _), (8, _), (9, _), (73, _)]) (.cons rfl (.cons rfl (.cons rfl (.cons rfl (.cons rfl (.cons rfl (.cons rfl (.cons rfl .nil)))))))) ?_
                refine x_true rfl rfl ?_
                refine x_region ?_
                refine tl_y rfl (y_move (v := .slice _ _ _) rfl) ?_
                refine tl_y rfl (y_move (v := .int _ _) rfl) ?_
                refine tl_y rfl (y_move (v := .pointer _) rfl) ?_
                refine tl_y rfl (y_nilCheck rfl) ?_
                refine tl_y rfl (y_fieldAddr rfl) ?_
                refine tl_y rfl (y_load rfl rfl (.own inferInstance inferInstance)) ?_
                refine tl_y rfl (y_move (v := .int _ _) rfl) ?_
                refine tl_y rfl (y_indexAddr (b := g3) (o := o3) (by rw [hha]; rfl) rfl (by omega)) ?_
                refine tl_y rfl (y_load rfl rfl (.at_ hh9 (by omega))) ?_
                refine tl_y rfl (y_move (v := .int _ _) rfl) ?_
                refine tl_y rfl (y_indexAddr rfl rfl (by omega)) ?_
                refine tl_y rfl (y_load rfl rfl (.at_ (hby _ j (by omega)) (by omega))) ?_
                refine tl_y rfl (y_indexAddr rfl rfl (by omega)) ?_
                refine tl_e rfl (e_storeAt (c := pre8 ++ ((mixB (nextC cs k).toNat old (S.pend.getD k default).2 j).map bv ++ slack8)) rfl rfl rfl inferInstance (by simp [mixB_length]; omega) inferInstance ?_)
                refine tl_nil (.block_normal (.then_normal (.sub (F' := [(0, _), (1, _), (5, _), (6, _), (7, _), (8, _), (9, _)]) (.cons rfl (.cons rfl (.cons rfl (.cons rfl (.cons rfl (.cons rfl (.cons rfl .nil))))))) (Jj3 _ _ _ _ ?_))))
                exact ⟨rfl, rfl, by rw [← mix_store (by unfold pickP; omega) (by omega)]; simp [bv], rfl⟩
              ·
                refine tl_y rfl (y_move (v := .int _ _) rfl) ?_
                refine tl_y rfl (y_remI rfl rfl (by omega)) ?_
                refine tl_y rfl (y_eql rfl rfl) ?_
                refine tl_y rfl (y_move (v := .bool _) rfl) ?_
                refine tl_cases (s := 67) rfl (fun hk4 => ?_) (fun hk4 => ?_)
                ·
                  refine tl_y rfl (y_move (v := .int _ _) rfl) ?_
                  refine tl_y rfl (y_move (v := .int _ _) rfl) ?_
                  refine tl_y rfl (y_quoI rfl rfl (by omega)) ?_
                  refine tl_y rfl (y_geq rfl rfl) ?_
                  refine tl_y rfl (y_pickT rfl rfl) ?_
                  refine tl_y rfl (y_pickF rfl rfl) ?_
                  refine tl_nil (.then_normal ?_)
                  refine .sub (F' := [(0, _), (1, _), (5, _), (6, _), (7, _), (8, _), (9, _), (73, _)]) (.cons rfl (.cons rfl (.cons rfl (.cons rfl (.cons rfl (.cons rfl (.cons rfl (.cons rfl .nil)))))))) ?_
                  refine x_cond rfl (fun hc3 => ?_) (fun hc3 => ?_)
                  ·
                    refine x_region ?_
                    refine tl_y rfl (y_move (v := .slice _ _ _) rfl) ?_
                    refine tl_y rfl (y_move (v := .int _ _) rfl) ?_
                    refine tl_y rfl (y_move (v := .pointer _) rfl) ?_
                    refine tl_y rfl (y_nilCheck rfl) ?_
                    refine tl_y rfl (y_fieldAddr rfl) ?_
                    refine tl_y rfl (y_load rfl rfl (.own inferInstance inferInstance)) ?_
                    refine tl_y rfl (y_move (v := .int _ _) rfl) ?_
                    refine tl_y rfl (y_indexAddr (b := g3) (o := o3) (by rw [hha]; rfl) rfl (by omega)) ?_
                    refine tl_y rfl (y_load rfl rfl (.at_ hh9 (by omega))) ?_
                    refine tl_y rfl (y_move (v := .int _ _) rfl) ?_
                    refine tl_y rfl (y_indexAddr rfl rfl (by omega)) ?_
                    refine tl_y rfl (y_load rfl rfl (.at_ (hby _ j (by omega)) (by omega))) ?_
                    refine tl_y rfl (y_indexAddr rfl rfl (by omega)) ?_
                    refine tl_e rfl (e_storeAt (c := pre8 ++ ((mixB (nextC cs k).toNat old (S.pend.getD k default).2 j).map bv ++ slack8)) rfl rfl rfl inferInstance (by simp [mixB_length]; omega) inferInstance ?_)
                    refine tl_nil (.block_normal (.then_normal (.sub (F' := [(0, _), (1, _), (5, _), (6, _), (7, _), (8, _), (9, _)]) (.cons rfl (.cons rfl (.cons rfl (.cons rfl (.cons rfl (.cons rfl (.cons rfl .nil))))))) (Jj3 _ _ _ _ ?_))))
                    exact ⟨rfl, rfl, by rw [← mix_store (by unfold pickP; omega) (by omega)]; simp [bv], rfl⟩
                  ·
                    refine x_skip (.block_normal (.then_normal (.sub (F' := [(0, _), (1, _), (5, _), (6, _), (7, _), (8, _), (9, _)]) (.cons rfl (.cons rfl (.cons rfl (.cons rfl (.cons rfl (.cons rfl (.cons rfl .nil))))))) (Jj3 _ _ _ _ ?_))))
                    exact ⟨rfl, rfl, by rw [mix_skip (by unfold pickP; omega)], rfl⟩
                ·
                  refine tl_skip rfl ?_
                  refine tl_skip rfl ?_
                  refine tl_skip rfl ?_
                  refine tl_skip rfl ?_
                  refine tl_y rfl (y_pickF rfl rfl) ?_
                  refine tl_y rfl (y_pickF rfl rfl) ?_
                  refine tl_nil (.then_normal ?_)
                  refine .sub (F' := [(0, _), (1, _), (5, _), (6, _), (7, _), (8, _), (9, _), (73, _)]) (.cons rfl (.cons rfl (.cons rfl (.cons rfl (.cons rfl (.cons rfl (.cons rfl (.cons rfl .nil)))))))) ?_
                  refine x_false rfl rfl ?_
                  refine x_skip (.block_normal (.then_normal (.sub (F' := [(0, _), (1, _), (5, _), (6, _), (7, _), (8, _), (9, _)]) (.cons rfl (.cons rfl (.cons rfl (.cons rfl (.cons rfl (.cons rfl (.cons rfl .nil))))))) (Jj3 _ _ _ _ ?_))))
                  exact ⟨rfl, rfl, by rw [mix_skip (by unfold pickP; omega)], rfl⟩
            ·
              refine tl_skip rfl ?_
              refine tl_skip rfl ?_
              refine tl_skip rfl ?_
              refine tl_skip rfl ?_
              refine tl_y rfl (y_pickF rfl rfl) ?_
              refine tl_y rfl (y_pickF rfl rfl) ?_
              refine tl_y rfl (y_move (v := .bool _) rfl) ?_
              refine tl_y rfl (y_move (v := .int _ _) rfl) ?_
              refine tl_y rfl (y_remI rfl rfl (by omega)) ?_
              refine tl_y rfl (y_eql rfl rfl) ?_
              refine tl_y rfl (y_move (v := .bool _) rfl) ?_
              refine tl_cases (s := 67) rfl (fun hk5 => ?_) (fun hk5 => ?_)
              ·
                refine tl_y rfl (y_move (v := .int _ _) rfl) ?_
                refine tl_y rfl (y_move (v := .int _ _) rfl) ?_
                refine tl_y rfl (y_quoI rfl rfl (by omega)) ?_
                refine tl_y rfl (y_geq rfl rfl) ?_
                refine tl_y rfl (y_pickT rfl rfl) ?_
                refine tl_y rfl (y_pickF rfl rfl) ?_
                refine tl_nil (.then_normal ?_)
                refine .sub (F' := [(0, _), (1, _), (5, _), (6, _), (7, _), (8, _), (9, _), (73, _)]) (.cons rfl (.cons rfl (.cons rfl (.cons rfl (.cons rfl (.cons rfl (.cons rfl (.cons rfl .nil)))))))) ?_
                refine x_cond rfl (fun hc4 => ?_) (fun hc4 => ?_)
                ·
                  refine x_region ?_
                  refine tl_y rfl (y_move (v := .slice _ _ _) rfl) ?_
                  refine tl_y rfl (y_move (v := .int _ _) rfl) ?_
                  refine tl_y rfl (y_move (v := .pointer _) rfl) ?_
                  refine tl_y rfl (y_nilCheck rfl) ?_
                  refine tl_y rfl (y_fieldAddr rfl) ?_
                  refine tl_y rfl (y_load rfl rfl (.own inferInstance inferInstance)) ?_
                  refine tl_y rfl (y_move (v := .int _ _) rfl) ?_
                  refine tl_y rfl (y_indexAddr (b := g3) (o := o3) (by rw [hha]; rfl) rfl (by omega)) ?_
                  refine tl_y rfl (y_load rfl rfl (.at_ hh9 (by omega))) ?_
                  refine tl_y rfl (y_move (v := .int _ _) rfl) ?_
                  refine tl_y rfl (y_indexAddr rfl rfl (by omega)) ?_
                  refine tl_y rfl (y_load rfl rfl (.at_ (hby _ j (by omega)) (by omega))) ?_
                  refine tl_y rfl (y_indexAddr rfl rfl (by omega)) ?_
                  refine tl_e rfl (e_storeAt (c := pre8 ++ ((mixB (nextC cs k).toNat old (S.pend.getD k default).2 j).map bv ++ slack8)) rfl rfl rfl inferInstance (by simp [mixB_length]; omega) inferInstance ?_)
                  refine tl_nil (.block_normal (.then_normal (.sub (F' := [(0, _), (1, _), (5, _), (6, _), (7, _), (8, _), (9, _)]) (.cons rfl (.cons rfl (.cons rfl (.cons rfl (.cons rfl (.cons rfl (.cons rfl .nil))))))) (Jj3 _ _ _ _ ?_))))
                  exact ⟨rfl, rfl, by rw [← mix_store (by unfold pickP; omega) (by omega)]; simp [bv], rfl⟩
                ·
                  refine x_skip (.block_normal (.then_normal (.sub (F' := [(0, _), (1, _), (5, _), (6, _), (7, _), (8, _), (9, _)]) (.cons rfl (.cons rfl (.cons rfl (.cons rfl (.cons rfl (.cons rfl (.cons rfl .nil))))))) (Jj3 _ _ _ _ ?_))))
                  exact ⟨rfl, rfl, by rw [mix_skip (by unfold pickP; omega)], rfl⟩
              ·
                refine tl_skip rfl ?_
                refine tl_skip rfl ?_
                refine tl_skip rfl ?_
                refine tl_skip rfl ?_
                refine tl_y rfl (y_pickF rfl rfl) ?_
                refine tl_y rfl (y_pickF rfl rfl) ?_
                refine tl_nil (.then_normal ?_)
                refine .sub (F' := [(0, _), (1, _), (5, _), (6, _), (7, _), (8, _), (9, _), (73, _)]) (.cons rfl (.cons rfl (.cons rfl (.cons rfl (.cons rfl (.cons rfl (.cons rfl (.cons rfl .nil)))))))) ?_
                refine x_false rfl rfl ?_
                refine x_skip (.block_normal (.then_normal (.sub (F' := [(0, _), (1, _), (5, _), (6, _), (7, _), (8, _), (9, _)]) (.cons rfl (.cons rfl (.cons rfl (.cons rfl (.cons rfl (.cons rfl (.cons rfl .nil))))))) (Jj3 _ _ _ _ ?_))))
                exact ⟨rfl, rfl, by rw [mix_skip (by unfold pickP; omega)], rfl⟩
      ·
        obtain rfl : j = 64 := by omega
        rw [mixB_after _ _ _ hol hq.1]
        refine x_exit (.then_exit (.loop_exit (.block_exit (.then_normal ?_))))
        refine .sub (F' := [(0, _), (1, _), (5, _), (6, _), (8, _)]) (.cons rfl (.cons rfl (.cons rfl (.cons rfl (.cons rfl .nil))))) ?_
        refine .pub g8 inferInstance (fun M9 hM9 hg8 => ?_)
        have hb8 : Bytes M9 (some ⟨g8, pre8.length, none⟩) 64 c8 (afterF old (S.pend.getD k default).2 (nextC cs k)) := Row.part hg8 (by rw [List.length_map, afterF_length hol hq.1]) hc8 hm8
        obtain ⟨g2', o2', hwa', hcw'⟩ := h.w.cellIn (M := M9) (L := ((b1, .cells (List.toArray [.slice A n c, .int .i64 stop]) 66 (0, 0)) :: (q, .cells (List.toArray (rcells r S)) 74 (0, 0)) :: (gs, .cells (pre ++ (sv ++ slack)).toArray 45 (0, 0)) :: (r.E2 ++ (r.E3 ++ R)))) inferInstance (by simp; omega)
        have hw1' := hcw' k _ (wheres_get (by omega))
        refine x_draw 13 hmix rfl ?_
        refine to_p 0 rfl (by kernel_rfl) rfl (y_move (v := .pointer _) rfl) ?_
        refine to_p 1 rfl (by kernel_rfl) rfl (y_nilCheck rfl) ?_
        refine to_p 2 rfl (by kernel_rfl) rfl (y_fieldAddr rfl) ?_
        refine to_y 3 rfl (by kernel_rfl) rfl (y_load rfl rfl (.own inferInstance inferInstance)) ?_
        refine to_p 4 rfl (by kernel_rfl) rfl (y_move (v := .pointer _) rfl) ?_
        refine to_p 5 rfl (by kernel_rfl) rfl (y_nilCheck rfl) ?_
        refine to_p 6 rfl (by kernel_rfl) rfl (y_fieldAddr rfl) ?_
        refine to_y 7 rfl (by kernel_rfl) rfl (y_load rfl rfl (.own inferInstance inferInstance)) ?_
        refine to_p 8 rfl (by kernel_rfl) rfl (y_move (v := .int _ _) rfl) ?_
        refine to_p 9 rfl (by kernel_rfl) rfl (y_indexAddr (b := g2') (o := o2') (by rw [hwa']; rfl) rfl (by omega)) ?_
        refine to_y 10 rfl (by kernel_rfl) rfl (y_load rfl rfl (.at_ hw1' (by omega))) ?_
        refine to_p 11 rfl (by kernel_rfl) rfl (y_move (v := .slice _ _ _) rfl) ?_
        refine to_p 12 rfl (by kernel_rfl) rfl (y_indexAddr (b := gs) (o := pre.length) (by rw [hsa]; rfl) rfl (by omega)) ?_
        refine to_t 13 rfl (by kernel_rfl) (by kernel_rfl) rfl (e_storeAt (c := pre ++ (sv ++ slack)) rfl rfl rfl inferInstance (by rw [List.length_append, List.length_append]; omega) inferInstance ?_)
        refine to_nil (by kernel_rfl) (.block_normal (.then_normal ?_))
        refine .sub (F' := [(0, _), (1, _), (5, _), (6, _)]) (.cons rfl (.cons rfl (.cons rfl (.cons rfl .nil)))) ?_
        refine x_region ?_
        refine tl_y rfl (y_move (v := .int _ _) rfl) ?_
        refine tl_y rfl (y_addI rfl rfl (by omega)) ?_
        refine tl_y rfl (y_assign (v := .int _ _) rfl) ?_
        refine tl_nil (.loop_next (m' := r.wn - (k + 1)) (by omega) (F' := [(0, _), (1, _), (5, _), (6, _)]) (.cons rfl (.cons rfl (.cons rfl (.cons rfl .nil)))) ?_)
        exact ⟨k + 1, _, _, rfl, by omega, hM1.trans hM9, hsa ▸ hE.set ((S.pend.getD k default).1.toNat * 1) (.slice (some ⟨g8, pre8.length, none⟩) 64 c8) (by omega), by
  rw [take_snoc _ _ default (by omega), upGo_snoc, hold, Nat.mul_one, Nat.zero_add, List.length_take, Nat.min_eq_left (by omega)]; exact (hsv.mono hM9).set hb8 _, rfl, rfl, rfl⟩
    ·
      refine x_seq (x_region ?_)
      refine tl_y rfl (y_move (v := .slice _ _ _) rfl) ?_
      refine tl_y rfl (y_len rfl) ?_
      refine tl_y rfl (y_gtr rfl rfl) ?_
      refine tl_nil (.then_normal ?_)
      refine x_cond rfl (fun hc5 => ?_) (fun hc5 => ?_)
      ·
        refine x_region ?_
        refine tl_y rfl (y_move (v := .slice _ _ _) rfl) ?_
        refine tl_y rfl (y_move (v := .int _ _) rfl) ?_
        refine tl_y rfl (y_move (v := .slice _ _ _) rfl) ?_
        refine tl_y rfl (y_len rfl) ?_
        refine tl_y rfl (y_remI rfl rfl (by omega)) ?_
        obtain ⟨mk, hmk⟩ : ∃ mk, mk = k % nc := ⟨_, rfl⟩
        have hmk1 : mk < nc := by rw [hmk]; exact Nat.mod_lt _ (by omega)
        obtain ⟨g6, o6, rfl, hb6⟩ := (hcs.mono hM1).byte (by omega)
        rw [show (((k : Nat) : Int) % ((nc : Nat) : Int)) = (mk : Int) by simp [hmk]]
        have hb6m := fun L => hb6 L mk hmk1
        have hbl := (cs.getD mk 0).toNat_lt
        refine tl_y rfl (y_indexAddr rfl rfl (by omega)) ?_
        refine tl_y rfl (y_load rfl rfl (.at_ (hb6m _) (by simp))) ?_
        refine tl_y rfl (y_convI rfl (by omega)) ?_
        refine tl_y rfl (y_assign (v := .int _ _) rfl) ?_
        refine tl_nil (.then_normal (.sub (F' := [(0, _), (1, _), (5, _), (6, _), (7, _)]) (.cons rfl (.cons rfl (.cons rfl (.cons rfl (.cons rfl .nil))))) (Jj2 _ _ _ _ ?_)))
        exact ⟨rfl, rfl, rfl, by rw [show nextC cs k = cs.getD mk 0 by rw [nextC, if_neg (by omega), hcz, ← hmk]]⟩
      ·
        refine x_skip (.then_normal (.sub (F' := [(0, _), (1, _), (5, _), (6, _), (7, _)]) (.cons rfl (.cons rfl (.cons rfl (.cons rfl (.cons rfl .nil))))) (Jj2 _ _ _ _ ?_)))
        exact ⟨rfl, rfl, rfl, by rw [show nextC cs k = 0 by rw [nextC, if_pos (by omega)]]; rfl⟩
  ·
    refine x_exit (.then_exit (.loop_exit (.block_exit (.then_normal ?_))))
    refine x_seq (x_region ?_)
    refine tl_y rfl (y_move (v := .pointer _) rfl) ?_
    refine tl_y rfl (y_nilCheck rfl) ?_
    refine tl_y rfl (y_fieldAddr rfl) ?_
    refine tl_e rfl (e_store rfl rfl (by rfl) (by rfl) inferInstance inferInstance inferInstance ?_)
    refine tl_nil (.then_normal ?_)
    refine .sub (F' := [(0, _), (5, _)]) (.cons rfl (.cons rfl .nil)) ?_
    refine x_seq (x_region ?_)
    refine tl_y rfl (y_move (v := .pointer _) rfl) ?_
    refine tl_y rfl (y_nilCheck rfl) ?_
    refine tl_y rfl (y_fieldAddr rfl) ?_
    refine tl_e rfl (e_store rfl rfl (by rfl) (by rfl) inferInstance inferInstance inferInstance ?_)
    refine tl_nil (.then_normal ?_)
    refine x_seq (x_region ?_)
    refine tl_y rfl (y_move (v := .pointer _) rfl) ?_
    refine tl_y rfl (y_loadAgg rfl rfl (.own inferInstance inferInstance)) ?_
    refine tl_y rfl (y_nilCheck rfl) ?_
    refine tl_y rfl (y_fieldAddr rfl) ?_
    refine tl_e rfl (e_store rfl rfl (by rfl) (by rfl) inferInstance inferInstance inferInstance ?_)
    refine tl_nil (.then_normal ?_)
    refine .sub (F' := [(0, _)]) (.cons rfl .nil) ?_
    refine x_seq (x_region ?_)
    refine tl_y rfl (y_move (v := .pointer _) rfl) ?_
    refine tl_y rfl (y_nilCheck rfl) ?_
    refine tl_y rfl (y_fieldAddr rfl) ?_
    refine tl_e rfl (e_store rfl rfl (by rfl) (by rfl) inferInstance inferInstance inferInstance ?_)
    refine tl_nil (.then_normal ?_)
    refine x_region ?_
    refine tl_y rfl (y_move (v := .pointer _) rfl) ?_
    refine tl_y rfl (y_nilCheck rfl) ?_
    refine tl_y rfl (y_fieldAddr rfl) ?_
    refine tl_e rfl (e_store rfl rfl (by rfl) (by rfl) inferInstance inferInstance inferInstance ?_)
    refine tl_nil (.dropTo ((q, .cells (List.toArray [.slice r.la r.ln r.lc, .slice r.sa r.sn r.sc, .slice none 0 0, .slice none 0 0, .slice A n c, .int .i64 stop, .int .i64 0, .bool false]) 74 (0, 0)) :: (E ++ R)) inferInstance (end0 rfl hM1 (by
  have hkn : k = S.pend.length := by omega
  rw [hkn, List.take_length] at hsv
  exact ⟨{ r with sv := sv, E1 := E, wa := none, wn := 0, wc := 0, E2 := [], ha := none, hn := 0, hc := 0, hv := [], E3 := [], fa := A, fn := n, fc := c }, ⟨hE, .nil, .nil, hsv, .nil, hx.mono hM1, upGo_mem cs _ _ _ h.sl h.pl, (fun p hp => by cases hp), by show (upGo _ _ _ _).length ≤ 256; rw [upGo_length]; exact hsz⟩, rfl⟩)))
end
end Go.Proofs.YtbgdjdhbejbhkaaDoor
set_option linter.unusedVariables false
set_option linter.unusedSimpArgs false
namespace Go.Eng
open Go.Region (ready waitsFor)
/-! ### A read that the operation 'τ' waits for, over others -/
/-- From operation 'τ' over these to operation 'i': each waits for the next. -/
def pathB (ops : Array Oper) : Nat → List Nat → Nat → Bool
  | τ, [], i => waitsFor .any ops τ i
  | τ, j :: js, i => waitsFor .any ops τ j && pathB ops j js i
theorem Cl.path {ops : Array Oper} {X : Array Bool} (h : Cl ops X) {i : Nat} (hx : X.getD i false = false) : ∀ (js : List Nat) (τ : Nat), pathB ops τ js i = true → X.getD τ false = false
  | [], τ, hp => h.back hp hx
  | j :: js, τ, hp => by
    simp only [pathB, Bool.and_eq_true] at hp
    exact h.back hp.1 (h.path hx js j hp.2)
section
variable {P : Program} {n : Nat} {Q : Post} {F : Fr} {D : List Deferred} {G : World} {M M0 : Mem} {L L0 : Own} {ops : Array Oper} {τ f : Nat} {X : Array Bool}
/-- A read is taken next, whatever else could come up: 'τ' waits for it, over the operations that are listed. -/
theorem to_yp (i : Nat) (js : List Nat) {d : Tmp} {op : Op} {ty : TypeId} {pos : String} {aft : Array Edge} {g : Option (Nat × Bool)} {v : Value} (hi : ops[i]? = some ⟨some d, op, ty, pos, aft, g⟩)
    (hc : (Region.noSelect ops && pathB ops τ js i && !Nat.beq i τ && Region.free .any ops X i && (ready .any ops X).contains i) = true)
    (hg : want ops F g = some true) (hy : Yld P op ty F M0 L0 v)
    (h : TO P n ops τ M0 L0 f (X.setIfInBounds i true) Q ((d, v) :: F) D G M L) : TO P n ops τ M0 L0 (f + 1) X Q F D G M L := fun hok hkp w a hw ha hcl hs => by
  simp only [Bool.and_eq_true, Bool.not_eq_true'] at hc
  obtain ⟨⟨⟨⟨c1, c2⟩, c3⟩, c4⟩, c5⟩ := hc
  have c3 : i ≠ τ := Nat.ne_of_beq_eq_false c3
  have hr : i ∈ ready .any ops X := by simpa using c5
  have hd : d < n := by have := all_get hok hi; simpa [okOp, Nat.blt_eq] using this
  have hy' : YieldsS P ops Q.ro (Sees M0 L0) ⟨some d, op, ty, pos, aft, g⟩ v a := .inl ⟨want_wanted (o := ⟨some d, op, ty, pos, aft, g⟩) hg ha, fun w' hw' => by
    rw [Oper.semAt_eq _ _ _ (hy.notDefer hw' (ρ := a.eval) (fun x u hx => ha.eval hx))]
    exact hy w' a.eval hw' (fun x u hx => ha.eval hx)⟩
  refine wpAnyX_first hi (Region.noSelect_spec c1) (fun c a' w hq => Q.ins c a' d v w (kp_get hkp hi) hq) c3 (fun X w h1 h2 h3 => h3 (h1.path h2 js τ c2)) f X a w hcl (Region.free_spec hi c4) hr hy' hs ?_
  exact h hok hkp w _ hw (ha.put hd v) (hcl.set hr) (fun hh => hs ((hd_ne c3).1 hh))
end
end Go.Eng
set_option linter.unusedVariables false
set_option linter.unusedSimpArgs false
set_option linter.constructorNameAsVariable false
namespace Go.Proofs.YtbgdjdhbejbhkaaDoor
open Go Go.Eng
section
variable {G : World} {M : Mem} {L R : Own}
theorem RRecord_spec (num : UInt64) {A : Option Addr} {l c : Nat} {b : List UInt8} (hb : Bytes M A l c b) (n : Nat) (hn : n ≤ 8) (hl : b.length + 28 ≤ 64 * n) :
    Con Tryd.prog 83 #[.int .u64 (num.toNat : Int), .slice A l c, .int .i64 (n : Int)] G M L (fun v M' L' => L' = L ∧ ∃ A' c', v = .slice A' (64 * n) c' ∧ Bytes M' A' (64 * n) c' (recB n num b)) noPanic := by
  have hbl := hb.size
  refine enter (args := [_, _, _]) (fn := Tryd.f83) ⟨Tryd.func83, rfl, by kernel_rfl, by kernel_rfl⟩ 31 rfl ?_
  refine x_seq (x_region ?_)
  refine tl_y rfl (y_assign rfl) ?_
  refine tl_nil (.then_normal ?_)
  refine x_seq (x_region ?_)
  refine tl_y rfl (y_move (v := .int _ _) rfl) ?_
  refine tl_e rfl (e_call' rfl (RPut_spec num 8 (by omega)) ?_)
  rintro _ M1 _ hM1 ⟨rfl, A1, c1, rfl, hA1⟩
  refine tl_y rfl (y_move (v := .slice _ _ _) rfl) ?_
  refine tl_y rfl (y_len rfl) ?_
  refine tl_y rfl (y_of64 rfl) ?_
  refine tl_e rfl (e_call' rfl (RPut_spec (UInt64.ofInt l) 4 (by omega)) ?_)
  rintro _ M2 _ hM2 ⟨rfl, A2, c2, rfl, hA2⟩
  rw [show (UInt64.ofInt (l : Int)).toNat = l from by rw [ofInt64, UInt64.toNat_ofNat', Nat.mod_eq_of_lt (by omega)]] at hA2
  refine tl_y rfl (y_move (v := .slice _ _ _) rfl) ?_
  refine tl_e rfl (e_buildSlice rfl (by decide) (fun b1 => ?_))
  refine .pub b1 inferInstance (fun M3 hM3 hb3 => ?_)
  have hfl : [putB num.toNat 8, putB l 4, b].flatten = recH num b := by simp [recH, hbl]
  have hfll : (recH num b).length = 12 + l := by rw [recH_length, hbl]
  refine tl_e rfl (e_call' rfl (RCat_own (Row.whole hb3 rfl (by omega)) (.cons (hA1.mono (hM2.trans hM3)) (.cons (hA2.mono hM3) (.cons (hb.mono (hM1.trans (hM2.trans hM3))) .nil))) (by rw [hfl, hfll]; omega)) ?_)
  rintro _ _ _ hM4 ⟨rfl, A4, c4, E4, rfl, hE4, rfl⟩
  rw [hfl, hfll] at hE4
  rw [hfl, hfll]
  refine tl_y rfl (y_assign (v := .slice _ _ _) rfl) ?_
  refine tl_nil (.then_normal ?_)
  refine .sub (F' := [(2, _), (7, _)]) (.cons rfl (.cons rfl .nil)) ?_
  refine x_seq (x_region ?_)
  refine tl_y rfl (y_move (v := .slice _ _ _) rfl) ?_
  refine tl_y rfl (y_move (v := .slice _ _ _) rfl) ?_
  refine tl_e rfl (e_call' rfl (ROne_spec (bs := recH num b) (hE4.in_ inferInstance (by omega)) (by omega)) ?_)
  rintro _ M5 _ hM5 ⟨rfl, A5, c5, rfl, hA5⟩
  have hc5 := hA5.le
  refine tl_y rfl (y_sliceH rfl rfl (by omega) (by omega)) ?_
  refine tl_e rfl (e_append (by decide) rfl rfl hE4 (.row (Bytes.take hA5 16 (by omega))) (all_one_bv _) (by omega) (by omega) (fun A6 c6 E6 hE6 => ?_))
  rw [← List.map_append] at hE6
  rw [show 12 + l + Int.toNat 16 = 28 + l by omega] at hE6 ⊢
  refine tl_y rfl (y_assign (v := .slice _ _ _) rfl) ?_
  refine tl_nil (.then_normal ?_)
  refine .sub (F' := [(2, _), (7, _)]) (.cons rfl (.cons rfl .nil)) ?_
  refine x_seq ?_
  refine x_block ?_
  refine x_loop (I := fun m' F D M6 L1 => ∃ (k : Nat) (A6 : Option Addr) (c6 : Nat) (E6 : Own), m' = 64 * n - 28 - l - k ∧ k ≤ 64 * n - 28 - l ∧ OwnRow 5 1 A6 (28 + l + k) c6 (((recH num b ++ (sha (recH num b)).take 16) ++ List.replicate k 0).map bv) E6 ∧ D = [] ∧ M5 = M6 ∧ DropTo L1 (E6 ++ L) ∧ F = [(2, .int .i64 n), (7, .slice A6 (28 + l + k) c6)]) (64 * n - 28 - l) (F0 := [(2, _), (7, _)]) ?_ (.cons rfl (.cons rfl .nil)) ?_  -- slots [2, 7], written [7]
  · exact ⟨0, A6, c6, E6, rfl, by omega, by rw [List.replicate_zero, List.append_nil]; exact hE6, rfl, rfl, inferInstance, rfl⟩
  rintro m _ _ M6 L1 ⟨k, A6, c6, E6, rfl, hk, hE6, rfl, rfl, hdr, rfl⟩
  refine x_seq (x_seq (x_region ?_))
  refine tl_y rfl (y_move (v := .slice _ _ _) rfl) ?_
  refine tl_y rfl (y_len rfl) ?_
  refine tl_y rfl (y_move (v := .int _ _) rfl) ?_
  refine tl_y rfl (y_mulI rfl rfl (by omega)) ?_
  refine tl_y rfl (y_lss rfl rfl) ?_
  refine tl_nil (.then_normal ?_)
  refine .sub (F' := [(2, _), (7, _), (26, _)]) (.cons rfl (.cons rfl (.cons rfl .nil))) ?_
  refine x_cond rfl (fun hc1 => ?_) (fun hc1 => ?_)
  ·
    have hkn : k < 64 * n - 28 - l := by omega
    refine .dropTo _ hdr ?_
    refine x_skip (.then_normal ?_)
    refine x_block ?_
    refine x_region ?_
    refine tl_y rfl (y_move (v := .slice _ _ _) rfl) ?_
    refine tl_e rfl (e_buildSlice rfl (by decide) (fun b3 => ?_))
    refine .to (E6 ++ ((b3, .cells (List.toArray [.int .u8 0]) 5 (0, 0)) :: L)) inferInstance ?_
    refine tl_e rfl (e_append (by decide) rfl rfl hE6 (.own inferInstance rfl) rfl (by omega) (by omega) (fun A7 c7 E7 hE7 => ?_))
    refine tl_y rfl (y_assign (v := .slice _ _ _) rfl) ?_
    refine tl_nil (.block_normal (.loop_next (m' := 64 * n - 28 - l - (k + 1)) (by omega) (F' := [(2, _), (7, _)]) (.cons rfl (.cons rfl .nil)) ?_))
    exact ⟨k + 1, A7, c7, E7, rfl, by omega, by
  rw [List.replicate_succ', ← List.append_assoc, List.map_append]
  exact hE7, rfl, rfl, inferInstance, rfl⟩
  ·
    obtain rfl : k = 64 * n - 28 - l := by omega
    rw [show 28 + l + (64 * n - 28 - l) = 64 * n by omega] at hE6
    refine .dropTo _ hdr ?_
    refine x_exit (.then_exit (.loop_exit (.block_exit (.then_normal ?_))))
    refine x_seq (x_region ?_)
    refine tl_y rfl (y_move (v := .slice _ _ _) rfl) ?_
    refine tl_y rfl (y_assign (v := .slice _ _ _) rfl) ?_
    refine tl_nil (.then_normal ?_)
    refine .sub (F' := [(6, _)]) (.cons rfl .nil) ?_
    refine x_ret (.pubRow hE6 fun M' hle hr => ret1 rfl rfl (hM1.trans (hM2.trans (hM3.trans (hM5.trans hle)))) ⟨rfl, A6, c6, ?_, ?_⟩)
    · rw [show 28 + l + (64 * n - 28 - l) = 64 * n by omega]
    · rw [List.append_assoc] at hr
      rw [recB, hbl]; exact hr
theorem RWhole_spec {A : Option Addr} {n c : Nat} {a : List UInt8} (h : Bytes M A n c a) (k : Nat) (hk : 1 ≤ k ∧ k ≤ 8) (hl : n = 64 * k) :
    Con Tryd.prog 86 #[.slice A n c, .int .i64 (k : Int)] G M L (fun v M' L' => L' = L ∧ ∃ A' n' c', v = .tuple #[.int .u64 ((readRec k a).1.toNat : Int), .slice A' n' c'] ∧ Bytes M' A' n' c' (readRec k a).2) noPanic := by
  have hs := h.size
  have hc := h.le
  have hroom : (if (k : Int) < 1 ∨ 8 < (k : Int) then 0 else 64 * (k : Int) - 28) = 64 * (k : Int) - 28 := by rw [if_neg (by omega)]
  refine enter (args := [_, _]) (fn := Tryd.f86) ⟨Tryd.func86, rfl, by kernel_rfl, by kernel_rfl⟩ 45 rfl ?_
  refine x_seq (x_region ?_)
  refine tl_y rfl (y_assign rfl) ?_
  refine tl_y rfl (y_assign rfl) ?_
  refine tl_nil (.then_normal ?_)
  refine x_seq (x_region ?_)
  refine tl_y rfl (y_move (v := .slice _ _ _) rfl) ?_
  refine tl_y rfl (y_sliceH rfl rfl (by omega) (by omega)) ?_
  refine tl_e rfl (e_call' rfl (RGet_spec (n := 8) (bs := a.take 8) (Bytes.take h 8 (by omega)) (by omega)) ?_)
  rintro _ _ _ _ ⟨rfl, rfl, x, hx, rfl⟩
  refine tl_y rfl (y_move (v := .tuple _) rfl) ?_
  refine tl_y rfl (y_extract rfl) ?_
  refine tl_y rfl (y_extract rfl) ?_
  refine tl_y rfl (y_assign (v := .int _ _) rfl) ?_
  refine tl_y rfl (y_assign (v := .bool _) rfl) ?_
  refine tl_nil (.then_normal ?_)
  refine .sub (F' := [(0, _), (1, _), (6, _)]) (.cons rfl (.cons rfl (.cons rfl .nil))) ?_
  refine x_seq (x_region ?_)
  refine tl_y rfl (y_move (v := .slice _ _ _) rfl) ?_
  refine tl_y rfl (y_sliceLH rfl rfl rfl (by omega) (by omega)) ?_
  refine tl_e rfl (e_call' rfl (RGet_spec (n := 4) (bs := (a.drop 8).take 4) (Bytes.sub h 8 12 (by omega) (by omega)) (by omega)) ?_)
  rintro _ _ _ _ ⟨rfl, rfl, y, hy, rfl⟩
  have hxn : numOf a = x.toNat := hx.symm
  have hyn : cntOf a = y.toNat := hy.symm
  have hofx : UInt64.ofNat (numOf a) = x := by rw [hxn]; simp
  refine tl_y rfl (y_move (v := .tuple _) rfl) ?_
  refine tl_y rfl (y_extract rfl) ?_
  refine tl_y rfl (y_extract rfl) ?_
  refine tl_y rfl (y_assign (v := .int _ _) rfl) ?_
  refine tl_y rfl (y_assign (v := .bool _) rfl) ?_
  refine tl_nil (.then_normal ?_)
  refine .sub (F' := [(0, _), (1, _), (6, _), (8, _)]) (.cons rfl (.cons rfl (.cons rfl (.cons rfl .nil)))) ?_
  refine x_seq (x_seq (x_region ?_))
  refine tl_y rfl (y_move (v := .int _ _) rfl) ?_
  refine tl_y rfl (y_eql rfl rfl) ?_
  refine tl_y rfl (y_move (v := .bool _) rfl) ?_
  refine tl_cases (s := 25) rfl (fun hk1 => ?_) (fun hk1 => ?_)
  ·
    refine tl_skip rfl ?_
    refine tl_skip rfl ?_
    refine tl_skip rfl ?_
    refine tl_skip rfl ?_
    refine tl_skip rfl ?_
    refine tl_y rfl (y_pickT rfl rfl) ?_
    refine tl_nil (.then_normal ?_)
    refine .sub (F' := [(0, _), (1, _), (6, _), (8, _), (31, _)]) (.cons rfl (.cons rfl (.cons rfl (.cons rfl (.cons rfl .nil))))) ?_
    refine x_true rfl rfl ?_
    refine x_seq (x_region ?_)
    refine tl_y rfl (y_assign rfl) ?_
    refine tl_y rfl (y_assign rfl) ?_
    refine tl_nil (.then_normal ?_)
    refine .sub (F' := [(4, _), (5, _)]) (.cons rfl (.cons rfl .nil)) ?_
    refine x_ret (.then_ret (ret2 rfl rfl rfl (Le.refl _) (by
  rw [show readRec k a = (0, []) by rw [readRec, if_pos (.inl (by omega))]]
  exact ⟨rfl, _, _, _, rfl, Row.nil _ _⟩)))
  ·
    refine tl_y rfl (y_move (v := .int _ _) rfl) ?_
    refine tl_y rfl (y_move (v := .int _ _) rfl) ?_
    refine tl_e rfl (e_call' rfl (RRoom_spec (k : Int)) ?_)
    rintro _ _ _ _ ⟨rfl, rfl, rfl⟩
    rw [hroom]
    refine tl_y rfl (y_convN64 rfl (by omega)) ?_
    refine tl_y rfl (y_gtr rfl rfl) ?_
    refine tl_y rfl (y_pickF rfl rfl) ?_
    refine tl_nil (.then_normal ?_)
    refine .sub (F' := [(0, _), (1, _), (6, _), (8, _), (31, _)]) (.cons rfl (.cons rfl (.cons rfl (.cons rfl (.cons rfl .nil))))) ?_
    refine x_cond rfl (fun hc1 => ?_) (fun hc1 => ?_)
    ·
      refine x_seq (x_region ?_)
      refine tl_y rfl (y_assign rfl) ?_
      refine tl_y rfl (y_assign rfl) ?_
      refine tl_nil (.then_normal ?_)
      refine .sub (F' := [(4, _), (5, _)]) (.cons rfl (.cons rfl .nil)) ?_
      refine x_ret (.then_ret (ret2 rfl rfl rfl (Le.refl _) (by
  rw [show readRec k a = (0, []) by rw [readRec, if_pos (.inr (by omega))]]
  exact ⟨rfl, _, _, _, rfl, Row.nil _ _⟩)))
    ·
      refine x_skip (.then_normal ?_)
      refine x_seq (x_region ?_)
      refine tl_y rfl (y_move (v := .slice _ _ _) rfl) ?_
      refine tl_y rfl (y_move (v := .int _ _) rfl) ?_
      refine tl_y rfl (y_addN64 rfl rfl (by omega)) ?_
      refine tl_y rfl (y_sliceLH rfl rfl rfl (by omega) (by omega)) ?_
      rw [show (12 + ((y.toNat : Nat) : Int)).toNat - Int.toNat 12 = cntOf a by omega]
      have hD : Bytes M (sl A (Int.toNat 12) c 1) (cntOf a) (c - Int.toNat 12) (datOf a) := by
        have h1 := Bytes.sub h 12 (12 + cntOf a) (by omega) (by omega)
        rw [Nat.add_sub_cancel_left] at h1
        exact h1
      have hdl := hD.size
      refine tl_y rfl (y_assign (v := .slice _ _ _) rfl) ?_
      refine tl_nil (.then_normal ?_)
      refine .sub (F' := [(0, _), (1, _), (6, _), (10, _)]) (.cons rfl (.cons rfl (.cons rfl (.cons rfl .nil)))) ?_
      refine x_seq (x_seq (x_region ?_))
      refine tl_y rfl (y_move (v := .int _ _) rfl) ?_
      refine tl_y rfl (y_move (v := .slice _ _ _) rfl) ?_
      refine tl_y rfl (y_move (v := .int _ _) rfl) ?_
      refine tl_e rfl (e_call' rfl (RRecord_spec x hD k hk.2 (by omega)) ?_)
      rintro _ M2 _ hM2 ⟨rfl, A2, c2, rfl, hA2⟩
      refine tl_y rfl (y_move (v := .slice _ _ _) rfl) ?_
      refine tl_e rfl (e_call' rfl (same_spec hA2 (h.mono hM2)) ?_)
      rintro _ _ _ _ ⟨rfl, rfl, rfl⟩
      refine tl_y rfl (y_notd rfl) ?_
      refine tl_nil (.then_normal ?_)
      refine .sub (F' := [(6, _), (10, _), (42, _)]) (.cons rfl (.cons rfl (.cons rfl .nil))) ?_
      refine x_cond rfl (fun hc2 => ?_) (fun hc2 => ?_)
      ·
        refine x_seq (x_region ?_)
        refine tl_y rfl (y_assign rfl) ?_
        refine tl_y rfl (y_assign rfl) ?_
        refine tl_nil (.then_normal ?_)
        refine x_ret (.then_ret (ret2 rfl rfl rfl hM2 (by
  rw [show readRec k a = (0, []) by rw [readRec, if_neg (by omega), hofx, if_neg hc2]]
  exact ⟨rfl, _, _, _, rfl, Row.nil _ _⟩)))
      ·
        refine x_skip (.then_normal ?_)
        refine x_seq (x_region ?_)
        refine tl_y rfl (y_move (v := .int _ _) rfl) ?_
        refine tl_y rfl (y_move (v := .slice _ _ _) rfl) ?_
        refine tl_y rfl (y_assign (v := .int _ _) rfl) ?_
        refine tl_y rfl (y_assign (v := .slice _ _ _) rfl) ?_
        refine tl_nil (.then_normal ?_)
        refine .sub (F' := [(4, _), (5, _)]) (.cons rfl (.cons rfl .nil)) ?_
        refine x_ret (ret2 rfl rfl rfl hM2 (by
  rw [show readRec k a = (x, datOf a) by rw [readRec, if_neg (by omega), hofx, if_pos (Classical.not_not.1 hc2)]]
  exact ⟨rfl, _, _, _, rfl, hD.mono hM2⟩))
end
end Go.Proofs.YtbgdjdhbejbhkaaDoor
