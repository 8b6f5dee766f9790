/-
Contracts of functions, each proved by a walk through its code.
-/
import Derived.Test.YtiimjodbaogjbaaGreatDoorShaEtc
import Derived.Test.YtiimjodbaogjbaaGreatDoorSetsEtc
set_option linter.unusedVariables false
set_option linter.unusedSimpArgs false
set_option linter.constructorNameAsVariable false
namespace Go.Proofs.YtiimjodbaogjbaaGreatDoor
open Go Go.Eng
section
variable {G : World} {M : Mem} {L R : Own}
theorem rrot_spec (x : UInt32) (n : Nat) (hn : 0 < n ∧ n < 32) :
    Con Tryz.prog 230 #[.int .u32 (x.toNat : Int), .int .u32 (n : Int)] G M L (fun r M' L' => M = M' ∧ L = L' ∧ r = .int .u32 ((rotr x n).toNat : Int)) noPanic := by
  refine enter (args := [_, _]) (fn := Tryz.f230) ⟨Tryz.func230, rfl, by kernel_rfl, by kernel_rfl⟩ 13 rfl ?_
  refine x_seq (x_region ?_)
  refine tl_y rfl (y_assign rfl) ?_
  refine tl_nil (.then_normal ?_)
  refine x_seq (x_region ?_)
  refine tl_y rfl (y_move (v := .int _ _) rfl) ?_
  refine tl_y rfl (y_move (v := .int _ _) rfl) ?_
  refine tl_y rfl (y_shr32 (s := n) rfl rfl) ?_
  refine tl_y rfl (y_move (v := .int _ _) rfl) ?_
  refine tl_y rfl (y_move (v := .int _ _) rfl) ?_
  refine tl_y rfl (y_subN32 rfl rfl (by omega)) ?_
  rw [show (32 - (n : Int)) = ((32 - n : Nat) : Int) by omega]
  refine tl_y rfl (y_shl32 (s := 32 - n) rfl rfl) ?_
  refine tl_y rfl (y_or32 rfl rfl) ?_
  refine tl_y rfl (y_assign (v := .int _ _) rfl) ?_
  refine tl_nil (.then_normal ?_)
  refine .sub (F' := [(4, _)]) (.cons rfl .nil) ?_
  refine x_ret (ret1 rfl rfl (Le.refl _) ⟨rfl, rfl, by rw [rotr, UInt32.or_comm]⟩)
theorem rconst_spec :
    Con Tryz.prog 229 #[] G M L (fun r M' L' => M = M' ∧ L = L' ∧ r = .agg (kT.map u32v).toArray) noPanic := by
  refine enter (args := []) (fn := Tryz.f229) ⟨Tryz.func229, rfl, by kernel_rfl, by kernel_rfl⟩ 2 rfl ?_
  refine x_seq (x_region ?_)
  refine tl_e rfl (e_alloc (fun b1 => ?_))
  refine tl_nil (.then_normal ?_)
  refine x_seq (x_region ?_)
  refine tl_y rfl (y_buildArr (cells := kT.map u32v) (hf := ⟨by kernel_rfl⟩) rfl) ?_
  refine tl_e rfl (e_store rfl rfl (by rfl) (u32_one _) inferInstance (.whole (by rfl)) inferInstance ?_)
  refine tl_nil (.then_normal ?_)
  refine x_ret (retRV (L' := L) (rv1 rfl (rc_cellAgg (by rfl) rfl (.whole inferInstance (by rfl)))) inferInstance (Le.refl _) ⟨rfl, rfl, rfl⟩)
theorem wd_eq (bs : List UInt8) (k : Nat) (h : 4 * k + 4 ≤ bs.length) :
    shl32 (bs.getD (4 * k) 0).toUInt32 24 + shl32 (bs.getD (4 * k + 1) 0).toUInt32 16 + shl32 (bs.getD (4 * k + 2) 0).toUInt32 8 + (bs.getD (4 * k + 3) 0).toUInt32 = wd bs k := by
  have e : (bs.drop (4 * k)).take 4 = [bs.getD (4 * k) 0, bs.getD (4 * k + 1) 0, bs.getD (4 * k + 2) 0, bs.getD (4 * k + 3) 0] := by
    have hg : ∀ i, i < bs.length → bs[i]? = some (bs.getD i 0) := fun i hi => by rw [List.getD_eq_getElem?_getD, List.getElem?_eq_getElem hi]; rfl
    apply List.ext_getElem?
    intro i
    rw [List.getElem?_take]
    by_cases hi : i < 4
    · rw [if_pos hi, List.getElem?_drop, hg _ (by omega)]
      rcases (by omega : i = 0 ∨ i = 1 ∨ i = 2 ∨ i = 3) with rfl | rfl | rfl | rfl <;> rfl
    · rw [if_neg hi, List.getElem?_eq_none (by simp; omega)]
  have h0 := (bs.getD (4 * k) 0).toNat_lt
  have h1 := (bs.getD (4 * k + 1) 0).toNat_lt
  have h2 := (bs.getD (4 * k + 2) 0).toNat_lt
  have h3 := (bs.getD (4 * k + 3) 0).toNat_lt
  rw [wd, e]
  generalize bs.getD (4 * k) 0 = a at *
  generalize bs.getD (4 * k + 1) 0 = b at *
  generalize bs.getD (4 * k + 2) 0 = c at *
  generalize bs.getD (4 * k + 3) 0 = d at *
  apply UInt32.toNat_inj.1
  simp only [UInt32.toNat_add, shl32, UInt32.toNat_ofNat', UInt8.toNat_toUInt32, getB, List.foldl_cons, List.foldl_nil]
  omega
theorem xor_max (x : UInt32) : x ^^^ 4294967295 = ~~~x := by
  apply UInt32.toBitVec_inj.1
  simp only [UInt32.toBitVec_xor, UInt32.toBitVec_not]
  rw [show (4294967295 : UInt32).toBitVec = BitVec.allOnes 32 by decide, BitVec.xor_allOnes]
theorem plus_eq (r s : H8) : (Value.agg (List.toArray [u32v (s.a + r.a), u32v (s.b + r.b), u32v (s.c + r.c), u32v (s.d + r.d), u32v (s.e + r.e), u32v (s.f + r.f), u32v (s.g + r.g), u32v (s.h + r.h)])) = .agg (List.toArray (plusH r s).vals) := by
  simp only [H8.vals, plusH, UInt32.add_comm]
theorem nextW_eq (w : List UInt32) (t : Nat) : sS1 (w.getD (t - 2) 0) + w.getD (t - 7) 0 + sS0 (w.getD (t - 15) 0) + w.getD (t - 16) 0 = nextW w t := by
  rw [nextW]; ac_rfl
theorem RTurn_spec (st : H8) {A : Option Addr} {n c : Nat} {bs : List UInt8} (hb : Bytes M A n c bs) (hl : n = 64) :
    Con Tryz.prog 212 #[.agg (List.toArray st.vals), .slice A n c] G M L (fun r M' L' => M = M' ∧ L = L' ∧ r = .agg (List.toArray (turn st bs).vals)) noPanic := by
  have hbl := hb.size
  obtain ⟨g, o, hAe, hby⟩ := hb.byte (by omega)
  refine enter (args := [_, _]) (fn := Tryz.f212) ⟨Tryz.func212, rfl, by kernel_rfl, by kernel_rfl⟩ 227 rfl ?_
  refine x_seq (x_region ?_)
  refine tl_e rfl (e_box rfl (fun b1 => ?_))
  refine tl_e rfl (e_alloc (fun b2 => ?_))
  refine tl_nil (.then_normal ?_)
  refine x_seq (x_region ?_)
  refine tl_e rfl (e_call' rfl rconst_spec ?_)
  rintro _ _ _ _ ⟨rfl, rfl, rfl⟩
  refine tl_e rfl (e_alloc (fun b3 => ?_))
  refine tl_e rfl (e_store rfl rfl (by rfl) (u32_one _) inferInstance (.whole (by rfl)) inferInstance ?_)
  refine tl_nil (.then_normal ?_)
  refine x_seq (x_region ?_)
  refine tl_e rfl (e_alloc (fun b4 => ?_))
  refine tl_nil (.then_normal ?_)
  refine x_seq (x_seq (x_region ?_))
  refine tl_y rfl (y_assign rfl) ?_
  refine tl_nil (.then_normal ?_)
  refine x_block ?_
  refine x_loop (I := fun m' F D M1 L1 => ∃ (k : Nat), m' = 16 - k ∧ k ≤ 16 ∧ D = [] ∧ M = M1 ∧ L1 = (b4, .cells (schCells bs k).toArray 244 (0, 0)) :: (b3, .cells (kT.map u32v).toArray 244 (0, 0)) :: (b2, .cells (List.toArray [u32v 0, u32v 0, u32v 0, u32v 0, u32v 0, u32v 0, u32v 0, u32v 0]) 230 (0, 0)) :: (b1, .cells (List.toArray st.vals) 230 (0, 0)) :: L ∧ F = [(1, .slice A n c), (2, .pointer (some ⟨b1, 0, none⟩)), (4, .pointer (some ⟨b2, 0, none⟩)), (5, .pointer (some ⟨b3, 0, none⟩)), (6, .pointer (some ⟨b4, 0, none⟩)), (7, .int .i64 k)]) (16) (F0 := [(1, _), (2, _), (4, _), (5, _), (6, _), (7, _)]) ?_ (.cons rfl (.cons rfl (.cons rfl (.cons rfl (.cons rfl (.cons rfl .nil)))))) ?_  -- slots [1, 2, 4, 5, 6, 7], written [7]
  · exact ⟨0, rfl, by omega, rfl, rfl, rfl, rfl⟩
  rintro m _ _ M1 L1 ⟨k, rfl, hk, rfl, rfl, rfl, rfl⟩
  refine x_seq (x_seq (x_region ?_))
  refine tl_y rfl (y_move (v := .int _ _) rfl) ?_
  refine tl_y rfl (y_lss rfl rfl) ?_
  refine tl_nil (.then_normal ?_)
  refine x_cond rfl (fun hc1 => ?_) (fun hc1 => ?_)
  ·
    refine x_skip (.then_normal ?_)
    refine x_seq ?_
    refine x_block ?_
    refine x_draw 35 hmix rfl ?_
    refine to_p 0 rfl (by kernel_rfl) rfl (y_move (v := .int _ _) rfl) ?_
    refine to_p 1 rfl (by kernel_rfl) rfl (y_move (v := .slice _ _ _) rfl) ?_
    refine to_p 2 rfl (by kernel_rfl) rfl (y_move (v := .int _ _) rfl) ?_
    refine to_p 3 rfl (by kernel_rfl) rfl (y_mulI rfl rfl (by omega)) ?_
    refine to_p 4 rfl (by kernel_rfl) rfl (y_indexAddr (b := g) (o := o) (by rw [hAe]; rfl) rfl (by omega)) ?_
    refine to_y 5 rfl (by kernel_rfl) rfl (y_load rfl rfl (.at_ (hby _ (4 * k + 0) (by omega)) (by omega))) ?_
    refine to_p 6 rfl (by kernel_rfl) rfl (y_u8u32 rfl) ?_
    refine to_p 7 rfl (by kernel_rfl) rfl (y_shl32 (s := 24) rfl rfl) ?_
    refine to_p 8 rfl (by kernel_rfl) rfl (y_move (v := .slice _ _ _) rfl) ?_
    refine to_p 9 rfl (by kernel_rfl) rfl (y_move (v := .int _ _) rfl) ?_
    refine to_p 10 rfl (by kernel_rfl) rfl (y_mulI rfl rfl (by omega)) ?_
    refine to_p 11 rfl (by kernel_rfl) rfl (y_addI rfl rfl (by omega)) ?_
    refine to_p 12 rfl (by kernel_rfl) rfl (y_indexAddr (b := g) (o := o) (by rw [hAe]; rfl) rfl (by omega)) ?_
    refine to_y 13 rfl (by kernel_rfl) rfl (y_load rfl rfl (.at_ (hby _ (4 * k + 1) (by omega)) (by omega))) ?_
    refine to_p 14 rfl (by kernel_rfl) rfl (y_u8u32 rfl) ?_
    refine to_p 15 rfl (by kernel_rfl) rfl (y_shl32 (s := 16) rfl rfl) ?_
    refine to_p 16 rfl (by kernel_rfl) rfl (y_add32 rfl rfl) ?_
    refine to_p 17 rfl (by kernel_rfl) rfl (y_move (v := .slice _ _ _) rfl) ?_
    refine to_p 18 rfl (by kernel_rfl) rfl (y_move (v := .int _ _) rfl) ?_
    refine to_p 19 rfl (by kernel_rfl) rfl (y_mulI rfl rfl (by omega)) ?_
    refine to_p 20 rfl (by kernel_rfl) rfl (y_addI rfl rfl (by omega)) ?_
    refine to_p 21 rfl (by kernel_rfl) rfl (y_indexAddr (b := g) (o := o) (by rw [hAe]; rfl) rfl (by omega)) ?_
    refine to_y 22 rfl (by kernel_rfl) rfl (y_load rfl rfl (.at_ (hby _ (4 * k + 2) (by omega)) (by omega))) ?_
    refine to_p 23 rfl (by kernel_rfl) rfl (y_u8u32 rfl) ?_
    refine to_p 24 rfl (by kernel_rfl) rfl (y_shl32 (s := 8) rfl rfl) ?_
    refine to_p 25 rfl (by kernel_rfl) rfl (y_add32 rfl rfl) ?_
    refine to_p 26 rfl (by kernel_rfl) rfl (y_move (v := .slice _ _ _) rfl) ?_
    refine to_p 27 rfl (by kernel_rfl) rfl (y_move (v := .int _ _) rfl) ?_
    refine to_p 28 rfl (by kernel_rfl) rfl (y_mulI rfl rfl (by omega)) ?_
    refine to_p 29 rfl (by kernel_rfl) rfl (y_addI rfl rfl (by omega)) ?_
    refine to_p 30 rfl (by kernel_rfl) rfl (y_indexAddr (b := g) (o := o) (by rw [hAe]; rfl) rfl (by omega)) ?_
    refine to_y 31 rfl (by kernel_rfl) rfl (y_load rfl rfl (.at_ (hby _ (4 * k + 3) (by omega)) (by omega))) ?_
    refine to_p 32 rfl (by kernel_rfl) rfl (y_u8u32 rfl) ?_
    refine to_p 33 rfl (by kernel_rfl) rfl (y_add32 rfl rfl) ?_
    refine to_p 34 rfl (by kernel_rfl) rfl (y_indexArr rfl rfl (by omega)) ?_
    refine to_t 35 rfl (by kernel_rfl) (by kernel_rfl) rfl (e_storeAt (c := schCells bs k) rfl rfl rfl inferInstance (by rw [sch_len _ _ (by omega)]; omega) inferInstance ?_)
    rw [show 0 + ((k : Int)).toNat * 1 = k by omega, sch_set bs k _ (by omega) (by rw [if_pos (by omega)]; exact wd_eq bs k (by omega))]
    refine to_nil (by kernel_rfl) (.block_normal (.then_normal ?_))
    refine .sub (F' := [(1, _), (2, _), (4, _), (5, _), (6, _), (7, _)]) (.cons rfl (.cons rfl (.cons rfl (.cons rfl (.cons rfl (.cons rfl .nil)))))) ?_
    refine x_region ?_
    refine tl_y rfl (y_move (v := .int _ _) rfl) ?_
    refine tl_y rfl (y_addI rfl rfl (by omega)) ?_
    refine tl_y rfl (y_assign (v := .int _ _) rfl) ?_
    refine tl_nil (.loop_next (m' := 16 - (k + 1)) (by omega) (F' := [(1, _), (2, _), (4, _), (5, _), (6, _), (7, _)]) (.cons rfl (.cons rfl (.cons rfl (.cons rfl (.cons rfl (.cons rfl .nil)))))) ?_)
    exact ⟨k + 1, rfl, by omega, rfl, rfl, rfl, rfl⟩
  ·
    obtain rfl : k = 16 := by omega
    refine x_exit (.then_exit (.loop_exit (.block_exit (.then_normal ?_))))
    refine .sub (F' := [(2, _), (4, _), (5, _), (6, _)]) (.cons rfl (.cons rfl (.cons rfl (.cons rfl .nil)))) ?_
    refine x_seq (x_seq (x_region ?_))
    refine tl_y rfl (y_assign rfl) ?_
    refine tl_nil (.then_normal ?_)
    refine x_block ?_
    refine x_loop (I := fun m' F D M1 L1 => ∃ (k : Nat), m' = 64 - k ∧ 16 ≤ k ∧ k ≤ 64 ∧ D = [] ∧ M = M1 ∧ L1 = (b4, .cells (schCells bs k).toArray 244 (0, 0)) :: (b3, .cells (kT.map u32v).toArray 244 (0, 0)) :: (b2, .cells (List.toArray [u32v 0, u32v 0, u32v 0, u32v 0, u32v 0, u32v 0, u32v 0, u32v 0]) 230 (0, 0)) :: (b1, .cells (List.toArray st.vals) 230 (0, 0)) :: L ∧ F = [(2, .pointer (some ⟨b1, 0, none⟩)), (4, .pointer (some ⟨b2, 0, none⟩)), (5, .pointer (some ⟨b3, 0, none⟩)), (6, .pointer (some ⟨b4, 0, none⟩)), (8, .int .i64 k)]) (48) (F0 := [(2, _), (4, _), (5, _), (6, _), (8, _)]) ?_ (.cons rfl (.cons rfl (.cons rfl (.cons rfl (.cons rfl .nil))))) ?_  -- slots [2, 4, 5, 6, 8], written [8]
    · exact ⟨16, rfl, by omega, by omega, rfl, rfl, rfl, rfl⟩
    rintro m _ _ M1 L1 ⟨k, rfl, hk16, hk, rfl, rfl, rfl, rfl⟩
    refine x_seq (x_seq (x_region ?_))
    refine tl_y rfl (y_move (v := .int _ _) rfl) ?_
    refine tl_y rfl (y_lss rfl rfl) ?_
    refine tl_nil (.then_normal ?_)
    refine x_cond rfl (fun hc2 => ?_) (fun hc2 => ?_)
    ·
      refine x_skip (.then_normal ?_)
      refine x_seq ?_
      refine x_block ?_
      refine x_seq ?_
      refine x_draw 18 hmix rfl ?_
      refine to_p 0 rfl (by kernel_rfl) rfl (y_move (v := .int _ _) rfl) ?_
      refine to_p 1 rfl (by kernel_rfl) rfl (y_subI rfl rfl (by omega)) ?_
      refine to_p 2 rfl (by kernel_rfl) rfl (y_indexArr rfl rfl (by omega)) ?_
      refine to_y 3 rfl (by kernel_rfl) rfl (y_load rfl rfl (.at_ (.ownAt (i := k - 15) (c := schCells bs k) inferInstance (sch_get bs k (k - 15) (by omega))) (by omega))) ?_
      refine to_p 5 rfl (by kernel_rfl) rfl (y_move (v := .int _ _) rfl) ?_
      refine to_p 6 rfl (by kernel_rfl) rfl (y_subI rfl rfl (by omega)) ?_
      refine to_p 7 rfl (by kernel_rfl) rfl (y_indexArr rfl rfl (by omega)) ?_
      refine to_y 8 rfl (by kernel_rfl) rfl (y_load rfl rfl (.at_ (.ownAt (i := k - 15) (c := schCells bs k) inferInstance (sch_get bs k (k - 15) (by omega))) (by omega))) ?_
      refine to_p 11 rfl (by kernel_rfl) rfl (y_move (v := .int _ _) rfl) ?_
      refine to_p 12 rfl (by kernel_rfl) rfl (y_subI rfl rfl (by omega)) ?_
      refine to_p 13 rfl (by kernel_rfl) rfl (y_indexArr rfl rfl (by omega)) ?_
      refine to_y 14 rfl (by kernel_rfl) rfl (y_load rfl rfl (.at_ (.ownAt (i := k - 15) (c := schCells bs k) inferInstance (sch_get bs k (k - 15) (by omega))) (by omega))) ?_
      refine to_p 15 rfl (by kernel_rfl) rfl (y_shr32 (s := 3) rfl rfl) ?_
      refine to_e 4 rfl (by kernel_rfl) rfl (e_call' rfl (rrot_spec _ 7 (by omega)) ?_)
      rintro _ _ _ _ ⟨rfl, rfl, rfl⟩
      refine ⟨⟨(by first | exact Le.refl _ | assumption), Keeps.mem⟩, ?_⟩
      refine to_e 9 rfl (by kernel_rfl) rfl (e_call' rfl (rrot_spec _ 18 (by omega)) ?_)
      rintro _ _ _ _ ⟨rfl, rfl, rfl⟩
      refine ⟨⟨(by first | exact Le.refl _ | assumption), Keeps.mem⟩, ?_⟩
      refine to_p 10 rfl (by kernel_rfl) rfl (y_xor32 rfl rfl) ?_
      refine to_p 16 rfl (by kernel_rfl) rfl (y_xor32 rfl rfl) ?_
      refine to_p 17 rfl (by kernel_rfl) rfl (y_assign (v := .int _ _) rfl) ?_
      refine to_nil (by kernel_rfl) (.then_normal ?_)
      refine .sub (F' := [(2, _), (4, _), (5, _), (6, _), (8, _), (9, _)]) (.cons rfl (.cons rfl (.cons rfl (.cons rfl (.cons rfl (.cons rfl .nil)))))) ?_
      refine x_seq ?_
      refine x_draw 18 hmix rfl ?_
      refine to_p 0 rfl (by kernel_rfl) rfl (y_move (v := .int _ _) rfl) ?_
      refine to_p 1 rfl (by kernel_rfl) rfl (y_subI rfl rfl (by omega)) ?_
      refine to_p 2 rfl (by kernel_rfl) rfl (y_indexArr rfl rfl (by omega)) ?_
      refine to_y 3 rfl (by kernel_rfl) rfl (y_load rfl rfl (.at_ (.ownAt (i := k - 2) (c := schCells bs k) inferInstance (sch_get bs k (k - 2) (by omega))) (by omega))) ?_
      refine to_p 5 rfl (by kernel_rfl) rfl (y_move (v := .int _ _) rfl) ?_
      refine to_p 6 rfl (by kernel_rfl) rfl (y_subI rfl rfl (by omega)) ?_
      refine to_p 7 rfl (by kernel_rfl) rfl (y_indexArr rfl rfl (by omega)) ?_
      refine to_y 8 rfl (by kernel_rfl) rfl (y_load rfl rfl (.at_ (.ownAt (i := k - 2) (c := schCells bs k) inferInstance (sch_get bs k (k - 2) (by omega))) (by omega))) ?_
      refine to_p 11 rfl (by kernel_rfl) rfl (y_move (v := .int _ _) rfl) ?_
      refine to_p 12 rfl (by kernel_rfl) rfl (y_subI rfl rfl (by omega)) ?_
      refine to_p 13 rfl (by kernel_rfl) rfl (y_indexArr rfl rfl (by omega)) ?_
      refine to_y 14 rfl (by kernel_rfl) rfl (y_load rfl rfl (.at_ (.ownAt (i := k - 2) (c := schCells bs k) inferInstance (sch_get bs k (k - 2) (by omega))) (by omega))) ?_
      refine to_p 15 rfl (by kernel_rfl) rfl (y_shr32 (s := 10) rfl rfl) ?_
      refine to_e 4 rfl (by kernel_rfl) rfl (e_call' rfl (rrot_spec _ 17 (by omega)) ?_)
      rintro _ _ _ _ ⟨rfl, rfl, rfl⟩
      refine ⟨⟨(by first | exact Le.refl _ | assumption), Keeps.mem⟩, ?_⟩
      refine to_e 9 rfl (by kernel_rfl) rfl (e_call' rfl (rrot_spec _ 19 (by omega)) ?_)
      rintro _ _ _ _ ⟨rfl, rfl, rfl⟩
      refine ⟨⟨(by first | exact Le.refl _ | assumption), Keeps.mem⟩, ?_⟩
      refine to_p 10 rfl (by kernel_rfl) rfl (y_xor32 rfl rfl) ?_
      refine to_p 16 rfl (by kernel_rfl) rfl (y_xor32 rfl rfl) ?_
      refine to_p 17 rfl (by kernel_rfl) rfl (y_assign (v := .int _ _) rfl) ?_
      refine to_nil (by kernel_rfl) (.then_normal ?_)
      refine .sub (F' := [(2, _), (4, _), (5, _), (6, _), (8, _), (9, _), (10, _)]) (.cons rfl (.cons rfl (.cons rfl (.cons rfl (.cons rfl (.cons rfl (.cons rfl .nil))))))) ?_
      refine x_draw 15 hmix rfl ?_
      refine to_p 0 rfl (by kernel_rfl) rfl (y_move (v := .int _ _) rfl) ?_
      refine to_p 1 rfl (by kernel_rfl) rfl (y_move (v := .int _ _) rfl) ?_
      refine to_p 2 rfl (by kernel_rfl) rfl (y_move (v := .int _ _) rfl) ?_
      refine to_p 3 rfl (by kernel_rfl) rfl (y_subI rfl rfl (by omega)) ?_
      refine to_p 4 rfl (by kernel_rfl) rfl (y_indexArr rfl rfl (by omega)) ?_
      refine to_y 5 rfl (by kernel_rfl) rfl (y_load rfl rfl (.at_ (.ownAt (i := k - 7) (c := schCells bs k) inferInstance (sch_get bs k (k - 7) (by omega))) (by omega))) ?_
      refine to_p 6 rfl (by kernel_rfl) rfl (y_add32 rfl rfl) ?_
      refine to_p 7 rfl (by kernel_rfl) rfl (y_move (v := .int _ _) rfl) ?_
      refine to_p 8 rfl (by kernel_rfl) rfl (y_add32 rfl rfl) ?_
      refine to_p 9 rfl (by kernel_rfl) rfl (y_move (v := .int _ _) rfl) ?_
      refine to_p 10 rfl (by kernel_rfl) rfl (y_subI rfl rfl (by omega)) ?_
      refine to_p 11 rfl (by kernel_rfl) rfl (y_indexArr rfl rfl (by omega)) ?_
      refine to_y 12 rfl (by kernel_rfl) rfl (y_load rfl rfl (.at_ (.ownAt (i := k - 16) (c := schCells bs k) inferInstance (sch_get bs k (k - 16) (by omega))) (by omega))) ?_
      refine to_p 13 rfl (by kernel_rfl) rfl (y_add32 rfl rfl) ?_
      refine to_p 14 rfl (by kernel_rfl) rfl (y_indexArr rfl rfl (by omega)) ?_
      refine to_t 15 rfl (by kernel_rfl) (by kernel_rfl) rfl (e_storeAt (c := schCells bs k) rfl rfl rfl inferInstance (by rw [sch_len _ _ (by omega)]; omega) inferInstance ?_)
      rw [show 0 + ((k : Int)).toNat * 1 = k by omega, sch_set bs k _ (by omega) (by rw [if_neg (by omega)]; exact nextW_eq _ _)]
      refine to_nil (by kernel_rfl) (.block_normal (.then_normal ?_))
      refine .sub (F' := [(2, _), (4, _), (5, _), (6, _), (8, _)]) (.cons rfl (.cons rfl (.cons rfl (.cons rfl (.cons rfl .nil))))) ?_
      refine x_region ?_
      refine tl_y rfl (y_move (v := .int _ _) rfl) ?_
      refine tl_y rfl (y_addI rfl rfl (by omega)) ?_
      refine tl_y rfl (y_assign (v := .int _ _) rfl) ?_
      refine tl_nil (.loop_next (m' := 64 - (k + 1)) (by omega) (F' := [(2, _), (4, _), (5, _), (6, _), (8, _)]) (.cons rfl (.cons rfl (.cons rfl (.cons rfl (.cons rfl .nil))))) ?_)
      exact ⟨k + 1, rfl, by omega, by omega, rfl, rfl, rfl, rfl⟩
    ·
      obtain rfl : k = 64 := by omega
      rw [show schCells bs 64 = (schd bs 64).map u32v by simp [schCells]]
      refine x_exit (.then_exit (.loop_exit (.block_exit (.then_normal ?_))))
      refine x_seq ?_
      refine x_draw 12 hmix rfl ?_
      refine to_p 0 rfl (by kernel_rfl) rfl (y_indexArrK 0 rfl rfl (by omega)) ?_
      refine to_y 1 rfl (by kernel_rfl) rfl (y_load rfl rfl (.own inferInstance inferInstance)) ?_
      refine to_p 2 rfl (by kernel_rfl) rfl (y_indexArrK 1 rfl rfl (by omega)) ?_
      refine to_y 3 rfl (by kernel_rfl) rfl (y_load rfl rfl (.own inferInstance inferInstance)) ?_
      refine to_p 4 rfl (by kernel_rfl) rfl (y_indexArrK 2 rfl rfl (by omega)) ?_
      refine to_y 5 rfl (by kernel_rfl) rfl (y_load rfl rfl (.own inferInstance inferInstance)) ?_
      refine to_p 6 rfl (by kernel_rfl) rfl (y_indexArrK 3 rfl rfl (by omega)) ?_
      refine to_y 7 rfl (by kernel_rfl) rfl (y_load rfl rfl (.own inferInstance inferInstance)) ?_
      refine to_p 8 rfl (by kernel_rfl) rfl (y_assign (v := .int _ _) rfl) ?_
      refine to_p 9 rfl (by kernel_rfl) rfl (y_assign (v := .int _ _) rfl) ?_
      refine to_p 10 rfl (by kernel_rfl) rfl (y_assign (v := .int _ _) rfl) ?_
      refine to_p 11 rfl (by kernel_rfl) rfl (y_assign (v := .int _ _) rfl) ?_
      refine to_nil (by kernel_rfl) (.then_normal ?_)
      refine .sub (F' := [(2, _), (4, _), (5, _), (6, _), (11, _), (12, _), (13, _), (14, _)]) (.cons rfl (.cons rfl (.cons rfl (.cons rfl (.cons rfl (.cons rfl (.cons rfl (.cons rfl .nil)))))))) ?_
      refine x_seq ?_
      refine x_draw 12 hmix rfl ?_
      refine to_p 0 rfl (by kernel_rfl) rfl (y_indexArrK 4 rfl rfl (by omega)) ?_
      refine to_y 1 rfl (by kernel_rfl) rfl (y_load rfl rfl (.own inferInstance inferInstance)) ?_
      refine to_p 2 rfl (by kernel_rfl) rfl (y_indexArrK 5 rfl rfl (by omega)) ?_
      refine to_y 3 rfl (by kernel_rfl) rfl (y_load rfl rfl (.own inferInstance inferInstance)) ?_
      refine to_p 4 rfl (by kernel_rfl) rfl (y_indexArrK 6 rfl rfl (by omega)) ?_
      refine to_y 5 rfl (by kernel_rfl) rfl (y_load rfl rfl (.own inferInstance inferInstance)) ?_
      refine to_p 6 rfl (by kernel_rfl) rfl (y_indexArrK 7 rfl rfl (by omega)) ?_
      refine to_y 7 rfl (by kernel_rfl) rfl (y_load rfl rfl (.own inferInstance inferInstance)) ?_
      refine to_p 8 rfl (by kernel_rfl) rfl (y_assign (v := .int _ _) rfl) ?_
      refine to_p 9 rfl (by kernel_rfl) rfl (y_assign (v := .int _ _) rfl) ?_
      refine to_p 10 rfl (by kernel_rfl) rfl (y_assign (v := .int _ _) rfl) ?_
      refine to_p 11 rfl (by kernel_rfl) rfl (y_assign (v := .int _ _) rfl) ?_
      refine to_nil (by kernel_rfl) (.then_normal ?_)
      refine .sub (F' := [(2, _), (4, _), (5, _), (6, _), (11, _), (12, _), (13, _), (14, _), (15, _), (16, _), (17, _), (18, _)]) (.cons rfl (.cons rfl (.cons rfl (.cons rfl (.cons rfl (.cons rfl (.cons rfl (.cons rfl (.cons rfl (.cons rfl (.cons rfl (.cons rfl .nil)))))))))))) ?_
      refine x_seq (x_seq (x_region ?_))
      refine tl_y rfl (y_assign rfl) ?_
      refine tl_nil (.then_normal ?_)
      refine x_block ?_
      refine x_loop (I := fun m' F D M1 L1 => ∃ (k : Nat) (s : H8), m' = 64 - k ∧ k ≤ 64 ∧ s = rounds (schd bs 64) st k ∧ D = [] ∧ M = M1 ∧ L1 = (b4, .cells ((schd bs 64).map u32v).toArray 244 (0, 0)) :: (b3, .cells (kT.map u32v).toArray 244 (0, 0)) :: (b2, .cells (List.toArray [u32v 0, u32v 0, u32v 0, u32v 0, u32v 0, u32v 0, u32v 0, u32v 0]) 230 (0, 0)) :: (b1, .cells (List.toArray st.vals) 230 (0, 0)) :: L ∧ F = [(2, .pointer (some ⟨b1, 0, none⟩)), (4, .pointer (some ⟨b2, 0, none⟩)), (5, .pointer (some ⟨b3, 0, none⟩)), (6, .pointer (some ⟨b4, 0, none⟩)), (11, u32v s.a), (12, u32v s.b), (13, u32v s.c), (14, u32v s.d), (15, u32v s.e), (16, u32v s.f), (17, u32v s.g), (18, u32v s.h), (19, .int .i64 k)]) (64) (F0 := [(2, _), (4, _), (5, _), (6, _), (11, _), (12, _), (13, _), (14, _), (15, _), (16, _), (17, _), (18, _), (19, _)]) ?_ (.cons rfl (.cons rfl (.cons rfl (.cons rfl (.cons rfl (.cons rfl (.cons rfl (.cons rfl (.cons rfl (.cons rfl (.cons rfl (.cons rfl (.cons rfl .nil))))))))))))) ?_  -- slots [2, 4, 5, 6, 11, 12, 13, 14, 15, 16, 17, 18, 19], written [11, 12, 13, 14, 15, 16, 17, 18, 19]
      · exact ⟨0, st, rfl, by omega, rfl, rfl, rfl, rfl, rfl⟩
      rintro m _ _ M1 L1 ⟨k, s, rfl, hk, hs, rfl, rfl, rfl, rfl⟩
      refine x_seq (x_seq (x_region ?_))
      refine tl_y rfl (y_move (v := .int _ _) rfl) ?_
      refine tl_y rfl (y_lss rfl rfl) ?_
      refine tl_nil (.then_normal ?_)
      refine x_cond rfl (fun hc3 => ?_) (fun hc3 => ?_)
      ·
        refine x_skip (.then_normal ?_)
        refine x_seq ?_
        refine x_block ?_
        refine x_seq ?_
        refine x_draw 28 hmix rfl ?_
        refine to_p 0 rfl (by kernel_rfl) rfl (y_move (v := .int _ _) rfl) ?_
        refine to_p 1 rfl (by kernel_rfl) rfl (y_move (v := .int _ _) rfl) ?_
        refine to_p 3 rfl (by kernel_rfl) rfl (y_move (v := .int _ _) rfl) ?_
        refine to_p 6 rfl (by kernel_rfl) rfl (y_move (v := .int _ _) rfl) ?_
        refine to_p 10 rfl (by kernel_rfl) rfl (y_move (v := .int _ _) rfl) ?_
        refine to_p 11 rfl (by kernel_rfl) rfl (y_move (v := .int _ _) rfl) ?_
        refine to_p 12 rfl (by kernel_rfl) rfl (y_and32 rfl rfl) ?_
        refine to_p 13 rfl (by kernel_rfl) rfl (y_move (v := .int _ _) rfl) ?_
        refine to_p 14 rfl (by kernel_rfl) rfl (y_xor32 (b := 4294967295) rfl rfl) ?_
        rw [xor_max]
        refine to_p 15 rfl (by kernel_rfl) rfl (y_move (v := .int _ _) rfl) ?_
        refine to_p 16 rfl (by kernel_rfl) rfl (y_and32 rfl rfl) ?_
        refine to_p 17 rfl (by kernel_rfl) rfl (y_xor32 rfl rfl) ?_
        refine to_p 19 rfl (by kernel_rfl) rfl (y_move (v := .int _ _) rfl) ?_
        refine to_p 20 rfl (by kernel_rfl) rfl (y_indexArr rfl rfl (by omega)) ?_
        refine to_y 21 rfl (by kernel_rfl) rfl (y_load rfl rfl (.at_ (.ownAt (i := k) (c := kT.map u32v) inferInstance (get_u32' _ _ (by show k < 64; omega))) (by omega))) ?_
        refine to_p 23 rfl (by kernel_rfl) rfl (y_move (v := .int _ _) rfl) ?_
        refine to_p 24 rfl (by kernel_rfl) rfl (y_indexArr rfl rfl (by omega)) ?_
        refine to_y 25 rfl (by kernel_rfl) rfl (y_load rfl rfl (.at_ (.ownAt (i := k) (c := (schd bs 64).map u32v) inferInstance (get_u32' _ _ (by rw [schd_length]; omega))) (by omega))) ?_
        refine to_e 2 rfl (by kernel_rfl) rfl (e_call' rfl (rrot_spec _ 6 (by omega)) ?_)
        rintro _ _ _ _ ⟨rfl, rfl, rfl⟩
        refine ⟨⟨(by first | exact Le.refl _ | assumption), Keeps.mem⟩, ?_⟩
        refine to_e 4 rfl (by kernel_rfl) rfl (e_call' rfl (rrot_spec _ 11 (by omega)) ?_)
        rintro _ _ _ _ ⟨rfl, rfl, rfl⟩
        refine ⟨⟨(by first | exact Le.refl _ | assumption), Keeps.mem⟩, ?_⟩
        refine to_p 5 rfl (by kernel_rfl) rfl (y_xor32 rfl rfl) ?_
        refine to_e 7 rfl (by kernel_rfl) rfl (e_call' rfl (rrot_spec _ 25 (by omega)) ?_)
        rintro _ _ _ _ ⟨rfl, rfl, rfl⟩
        refine ⟨⟨(by first | exact Le.refl _ | assumption), Keeps.mem⟩, ?_⟩
        refine to_p 8 rfl (by kernel_rfl) rfl (y_xor32 rfl rfl) ?_
        refine to_p 9 rfl (by kernel_rfl) rfl (y_add32 rfl rfl) ?_
        refine to_p 18 rfl (by kernel_rfl) rfl (y_add32 rfl rfl) ?_
        refine to_p 22 rfl (by kernel_rfl) rfl (y_add32 rfl rfl) ?_
        refine to_p 26 rfl (by kernel_rfl) rfl (y_add32 rfl rfl) ?_
        refine to_p 27 rfl (by kernel_rfl) rfl (y_assign (v := .int _ _) rfl) ?_
        refine to_nil (by kernel_rfl) (.then_normal ?_)
        refine .sub (F' := [(2, _), (4, _), (5, _), (6, _), (11, _), (12, _), (13, _), (14, _), (15, _), (16, _), (17, _), (18, _), (19, _), (20, _)]) (.cons rfl (.cons rfl (.cons rfl (.cons rfl (.cons rfl (.cons rfl (.cons rfl (.cons rfl (.cons rfl (.cons rfl (.cons rfl (.cons rfl (.cons rfl (.cons rfl .nil)))))))))))))) ?_
        refine x_seq (x_region ?_)
        refine tl_y rfl (y_move (v := .int _ _) rfl) ?_
        refine tl_e rfl (e_call' rfl (rrot_spec _ 2 (by omega)) ?_)
        rintro _ _ _ _ ⟨rfl, rfl, rfl⟩
        refine tl_y rfl (y_move (v := .int _ _) rfl) ?_
        refine tl_e rfl (e_call' rfl (rrot_spec _ 13 (by omega)) ?_)
        rintro _ _ _ _ ⟨rfl, rfl, rfl⟩
        refine tl_y rfl (y_xor32 rfl rfl) ?_
        refine tl_y rfl (y_move (v := .int _ _) rfl) ?_
        refine tl_e rfl (e_call' rfl (rrot_spec _ 22 (by omega)) ?_)
        rintro _ _ _ _ ⟨rfl, rfl, rfl⟩
        refine tl_y rfl (y_xor32 rfl rfl) ?_
        refine tl_y rfl (y_move (v := .int _ _) rfl) ?_
        refine tl_y rfl (y_move (v := .int _ _) rfl) ?_
        refine tl_y rfl (y_and32 rfl rfl) ?_
        refine tl_y rfl (y_move (v := .int _ _) rfl) ?_
        refine tl_y rfl (y_move (v := .int _ _) rfl) ?_
        refine tl_y rfl (y_and32 rfl rfl) ?_
        refine tl_y rfl (y_xor32 rfl rfl) ?_
        refine tl_y rfl (y_move (v := .int _ _) rfl) ?_
        refine tl_y rfl (y_move (v := .int _ _) rfl) ?_
        refine tl_y rfl (y_and32 rfl rfl) ?_
        refine tl_y rfl (y_xor32 rfl rfl) ?_
        refine tl_y rfl (y_add32 rfl rfl) ?_
        refine tl_y rfl (y_assign (v := .int _ _) rfl) ?_
        refine tl_nil (.then_normal ?_)
        refine .sub (F' := [(2, _), (4, _), (5, _), (6, _), (11, _), (12, _), (13, _), (14, _), (15, _), (16, _), (17, _), (18, _), (19, _), (20, _), (21, _)]) (.cons rfl (.cons rfl (.cons rfl (.cons rfl (.cons rfl (.cons rfl (.cons rfl (.cons rfl (.cons rfl (.cons rfl (.cons rfl (.cons rfl (.cons rfl (.cons rfl (.cons rfl .nil))))))))))))))) ?_
        refine x_seq (x_region ?_)
        refine tl_y rfl (y_move (v := .int _ _) rfl) ?_
        refine tl_y rfl (y_assign (v := .int _ _) rfl) ?_
        refine tl_nil (.then_normal ?_)
        refine x_seq (x_region ?_)
        refine tl_y rfl (y_move (v := .int _ _) rfl) ?_
        refine tl_y rfl (y_assign (v := .int _ _) rfl) ?_
        refine tl_nil (.then_normal ?_)
        refine x_seq (x_region ?_)
        refine tl_y rfl (y_move (v := .int _ _) rfl) ?_
        refine tl_y rfl (y_assign (v := .int _ _) rfl) ?_
        refine tl_nil (.then_normal ?_)
        refine x_seq (x_region ?_)
        refine tl_y rfl (y_move (v := .int _ _) rfl) ?_
        refine tl_y rfl (y_move (v := .int _ _) rfl) ?_
        refine tl_y rfl (y_add32 rfl rfl) ?_
        refine tl_y rfl (y_assign (v := .int _ _) rfl) ?_
        refine tl_nil (.then_normal ?_)
        refine .sub (F' := [(2, _), (4, _), (5, _), (6, _), (11, _), (12, _), (13, _), (14, _), (15, _), (16, _), (17, _), (18, _), (19, _), (20, _), (21, _)]) (.cons rfl (.cons rfl (.cons rfl (.cons rfl (.cons rfl (.cons rfl (.cons rfl (.cons rfl (.cons rfl (.cons rfl (.cons rfl (.cons rfl (.cons rfl (.cons rfl (.cons rfl .nil))))))))))))))) ?_
        refine x_seq (x_region ?_)
        refine tl_y rfl (y_move (v := .int _ _) rfl) ?_
        refine tl_y rfl (y_assign (v := .int _ _) rfl) ?_
        refine tl_nil (.then_normal ?_)
        refine x_seq (x_region ?_)
        refine tl_y rfl (y_move (v := .int _ _) rfl) ?_
        refine tl_y rfl (y_assign (v := .int _ _) rfl) ?_
        refine tl_nil (.then_normal ?_)
        refine x_seq (x_region ?_)
        refine tl_y rfl (y_move (v := .int _ _) rfl) ?_
        refine tl_y rfl (y_assign (v := .int _ _) rfl) ?_
        refine tl_nil (.then_normal ?_)
        refine x_region ?_
        refine tl_y rfl (y_move (v := .int _ _) rfl) ?_
        refine tl_y rfl (y_move (v := .int _ _) rfl) ?_
        refine tl_y rfl (y_add32 rfl rfl) ?_
        refine tl_y rfl (y_assign (v := .int _ _) rfl) ?_
        refine tl_nil (.block_normal (.then_normal ?_))
        refine .sub (F' := [(2, _), (4, _), (5, _), (6, _), (11, _), (12, _), (13, _), (14, _), (15, _), (16, _), (17, _), (18, _), (19, _)]) (.cons rfl (.cons rfl (.cons rfl (.cons rfl (.cons rfl (.cons rfl (.cons rfl (.cons rfl (.cons rfl (.cons rfl (.cons rfl (.cons rfl (.cons rfl .nil))))))))))))) ?_
        refine x_region ?_
        refine tl_y rfl (y_move (v := .int _ _) rfl) ?_
        refine tl_y rfl (y_addI rfl rfl (by omega)) ?_
        refine tl_y rfl (y_assign (v := .int _ _) rfl) ?_
        refine tl_nil (.loop_next (m' := 64 - (k + 1)) (by omega) (F' := [(2, _), (4, _), (5, _), (6, _), (11, _), (12, _), (13, _), (14, _), (15, _), (16, _), (17, _), (18, _), (19, _)]) (.cons rfl (.cons rfl (.cons rfl (.cons rfl (.cons rfl (.cons rfl (.cons rfl (.cons rfl (.cons rfl (.cons rfl (.cons rfl (.cons rfl (.cons rfl .nil))))))))))))) ?_)
        exact ⟨k + 1, rnd s (kT.getD k 0) ((schd bs 64).getD k 0), rfl, by omega, by rw [hs]; rfl, rfl, rfl, rfl, rfl⟩
      ·
        obtain rfl : k = 64 := by omega
        refine x_exit (.then_exit (.loop_exit (.block_exit (.then_normal ?_))))
        refine .sub (F' := [(2, _), (4, _), (11, _), (12, _), (13, _), (14, _), (15, _), (16, _), (17, _), (18, _)]) (.cons rfl (.cons rfl (.cons rfl (.cons rfl (.cons rfl (.cons rfl (.cons rfl (.cons rfl (.cons rfl (.cons rfl .nil)))))))))) ?_
        refine x_seq (x_region ?_)
        refine tl_y rfl (y_indexArrK 0 rfl rfl (by omega)) ?_
        refine tl_y rfl (y_load rfl rfl (.own inferInstance inferInstance)) ?_
        refine tl_y rfl (y_move (v := .int _ _) rfl) ?_
        refine tl_y rfl (y_add32 rfl rfl) ?_
        refine tl_y rfl (y_indexArrK 1 rfl rfl (by omega)) ?_
        refine tl_y rfl (y_load rfl rfl (.own inferInstance inferInstance)) ?_
        refine tl_y rfl (y_move (v := .int _ _) rfl) ?_
        refine tl_y rfl (y_add32 rfl rfl) ?_
        refine tl_y rfl (y_indexArrK 2 rfl rfl (by omega)) ?_
        refine tl_y rfl (y_load rfl rfl (.own inferInstance inferInstance)) ?_
        refine tl_y rfl (y_move (v := .int _ _) rfl) ?_
        refine tl_y rfl (y_add32 rfl rfl) ?_
        refine tl_y rfl (y_indexArrK 3 rfl rfl (by omega)) ?_
        refine tl_y rfl (y_load rfl rfl (.own inferInstance inferInstance)) ?_
        refine tl_y rfl (y_move (v := .int _ _) rfl) ?_
        refine tl_y rfl (y_add32 rfl rfl) ?_
        refine tl_y rfl (y_indexArrK 4 rfl rfl (by omega)) ?_
        refine tl_y rfl (y_load rfl rfl (.own inferInstance inferInstance)) ?_
        refine tl_y rfl (y_move (v := .int _ _) rfl) ?_
        refine tl_y rfl (y_add32 rfl rfl) ?_
        refine tl_y rfl (y_indexArrK 5 rfl rfl (by omega)) ?_
        refine tl_y rfl (y_load rfl rfl (.own inferInstance inferInstance)) ?_
        refine tl_y rfl (y_move (v := .int _ _) rfl) ?_
        refine tl_y rfl (y_add32 rfl rfl) ?_
        refine tl_y rfl (y_indexArrK 6 rfl rfl (by omega)) ?_
        refine tl_y rfl (y_load rfl rfl (.own inferInstance inferInstance)) ?_
        refine tl_y rfl (y_move (v := .int _ _) rfl) ?_
        refine tl_y rfl (y_add32 rfl rfl) ?_
        refine tl_y rfl (y_indexArrK 7 rfl rfl (by omega)) ?_
        refine tl_y rfl (y_load rfl rfl (.own inferInstance inferInstance)) ?_
        refine tl_y rfl (y_move (v := .int _ _) rfl) ?_
        refine tl_y rfl (y_add32 rfl rfl) ?_
        refine tl_y rfl (y_buildArr rfl) ?_
        refine tl_e rfl (e_store rfl rfl (by rfl) (by rfl) inferInstance inferInstance inferInstance ?_)
        refine tl_nil (.then_normal ?_)
        refine .sub (F' := [(4, _)]) (.cons rfl .nil) ?_
        refine x_ret (retRV (L' := L) (rv1 rfl (rc_cellAgg (by rfl) rfl (.own inferInstance inferInstance))) inferInstance (Le.refl _) ⟨rfl, rfl, by rw [hs]; exact plus_eq _ _⟩)
end
end Go.Proofs.YtiimjodbaogjbaaGreatDoor
set_option linter.unusedVariables false
set_option linter.unusedSimpArgs false
set_option linter.constructorNameAsVariable false
namespace Go.Proofs.YtiimjodbaogjbaaGreatDoor
open Go Go.Eng
theorem put4_eq (x : UInt32) : [(shr32 x 24).toUInt8, (shr32 x 16).toUInt8, (shr32 x 8).toUInt8, x.toUInt8] = putB x.toNat 4 := by
  have hx := x.toNat_lt
  have e : ∀ a b : UInt8, a = b ↔ a.toNat = b.toNat := fun a b => UInt8.toNat_inj.symm
  simp only [putB, List.nil_append, List.cons_append, List.cons.injEq, and_true, e, UInt32.toNat_toUInt8, shr32, UInt32.toNat_ofNat', UInt8.toNat_ofNat']
  omega
theorem take8 (v k : Nat) (h : k < 8) : (putB v 8).take (k + 1) = (putB v 8).take k ++ [UInt8.ofNat (v / 256 ^ (7 - k) % 256)] := by
  have hg := putB_get 8 v (7 - k) (by omega)
  rw [show 8 - 1 - (7 - k) = k by omega] at hg
  rw [List.take_add_one, hg]
  rfl
theorem pad_snoc (bs : List UInt8) (k : Nat) : (bs ++ 128 :: List.replicate (k + 1) 0).map bv = (bs ++ 128 :: List.replicate k 0).map bv ++ [Value.int .u8 0] := by
  rw [List.replicate_succ', ← List.cons_append, ← List.append_assoc, List.map_append]; rfl
theorem pad_first (bs : List UInt8) : (bs ++ 128 :: List.replicate 0 0).map bv = bs.map bv ++ [Value.int .u8 128] := by
  rw [List.replicate_zero, List.map_append]; rfl
section
variable {G : World} {M : Mem} {L R : Own}
theorem ROne_spec {A : Option Addr} {n c : Nat} {bs : List UInt8} (hb : RowIn M L 1 A n (bs.map bv)) (hn : n ≤ 1099511627776) :
    Con Tryz.prog 180 #[.slice A n c] G M L (fun r M' L' => L = L' ∧ ∃ A' c', r = .slice A' 32 c' ∧ Bytes M' A' 32 c' (sha bs)) noPanic := by
  have hbl : bs.length = n := by have := hb.len; simpa using this
  refine enter (args := [_]) (fn := Tryz.f180) ⟨Tryz.func180, rfl, by kernel_rfl, by kernel_rfl⟩ 80 rfl ?_
  refine x_seq (x_region ?_)
  refine tl_y rfl (y_assign rfl) ?_
  refine tl_nil (.then_normal ?_)
  refine x_seq (x_region ?_)
  refine tl_e rfl (e_buildSlice0 (fun b1 => ?_))
  refine tl_y rfl (y_move (v := .slice _ _ _) rfl) ?_
  refine tl_e rfl (e_append1 (by decide) rfl rfl OwnRow.made00 (src_in hb) (all_one_bv bs) (by omega) (by omega) (fun A1 c1 E1 hE1 => ?_))
  rw [Nat.zero_add, List.nil_append] at hE1; rw [Nat.zero_add]
  refine tl_e rfl (e_buildSlice rfl (by decide) (fun b2 => ?_))
  refine .to (E1 ++ ((b2, .cells (List.toArray [.int .u8 128]) 5 (0, 0)) :: L)) inferInstance ?_
  refine tl_e rfl (e_append (by decide) rfl rfl hE1 (.own inferInstance rfl) rfl (by omega) (by omega) (fun A2 c2 E2 hE2 => ?_))
  refine tl_y rfl (y_assign (v := .slice _ _ _) rfl) ?_
  refine tl_nil (.then_normal ?_)
  refine .sub (F' := [(0, _), (3, _)]) (.cons rfl (.cons rfl .nil)) ?_
  refine x_seq ?_
  refine x_block ?_
  refine x_loop (I := fun m' F D M1 L1 => ∃ (k : Nat) (A2 : Option Addr) (c2 : Nat) (E2 : Own), m' = (119 - n % 64) % 64 - k ∧ k ≤ (119 - n % 64) % 64 ∧ OwnRow 5 1 A2 (n + 1 + k) c2 ((bs ++ 128 :: List.replicate k 0).map bv) E2 ∧ D = [] ∧ M = M1 ∧ DropTo L1 (E2 ++ L) ∧ F = [(0, .slice A n c), (3, .slice A2 (n + 1 + k) c2)]) ((119 - n % 64) % 64) (F0 := [(0, _), (3, _)]) ?_ (.cons rfl (.cons rfl .nil)) ?_  -- slots [0, 3], written [3]
  · exact ⟨0, A2, c2, E2, rfl, by omega, by rw [pad_first]; exact hE2, rfl, rfl, inferInstance, rfl⟩
  rintro m _ _ M1 L1 ⟨k, A2, c2, E2, rfl, hk, hE2, rfl, rfl, hdr, rfl⟩
  refine x_seq (x_seq (x_region ?_))
  refine tl_y rfl (y_move (v := .slice _ _ _) rfl) ?_
  refine tl_y rfl (y_len rfl) ?_
  refine tl_y rfl (y_remI rfl rfl (by omega)) ?_
  refine tl_y rfl (y_neq rfl rfl) ?_
  refine tl_nil (.then_normal ?_)
  refine x_cond rfl (fun hc1 => ?_) (fun hc1 => ?_)
  ·
    have hkn : k < (119 - n % 64) % 64 := by omega
    refine .dropTo _ hdr ?_
    refine x_skip (.then_normal ?_)
    refine .sub (F' := [(0, _), (3, _)]) (.cons rfl (.cons rfl .nil)) ?_
    refine x_block ?_
    refine x_region ?_
    refine tl_y rfl (y_move (v := .slice _ _ _) rfl) ?_
    refine tl_e rfl (e_buildSlice rfl (by decide) (fun b3 => ?_))
    refine .to (E2 ++ ((b3, .cells (List.toArray [.int .u8 0]) 5 (0, 0)) :: L)) inferInstance ?_
    refine tl_e rfl (e_append (by decide) rfl rfl hE2 (.own inferInstance rfl) rfl (by omega) (by omega) (fun A3 c3 E3 hE3 => ?_))
    refine tl_y rfl (y_assign (v := .slice _ _ _) rfl) ?_
    refine tl_nil (.block_normal (.loop_next (m' := (119 - n % 64) % 64 - (k + 1)) (by omega) (F' := [(0, _), (3, _)]) (.cons rfl (.cons rfl .nil)) ?_))
    exact ⟨k + 1, A3, c3, E3, rfl, by omega, by rw [pad_snoc]; exact hE3, rfl, rfl, inferInstance, rfl⟩
  ·
    obtain rfl : k = (119 - n % 64) % 64 := by omega
    refine .dropTo _ hdr ?_
    generalize hz : List.replicate ((119 - n % 64) % 64) (0 : UInt8) = zs at hE2
    have hzl : zs.length = (119 - n % 64) % 64 := by rw [← hz]; simp
    generalize hm : n + 1 + (119 - n % 64) % 64 = m at hE2
    have hml : (bs ++ 128 :: zs).length = m := by simp [hzl]; omega
    refine x_exit (.then_exit (.loop_exit (.block_exit (.then_normal ?_))))
    refine .sub (F' := [(0, _), (3, _)]) (.cons rfl (.cons rfl .nil)) ?_
    refine x_seq (x_region ?_)
    refine tl_y rfl (y_move (v := .slice _ _ _) rfl) ?_
    refine tl_y rfl (y_len rfl) ?_
    refine tl_y rfl (y_of64 rfl) ?_
    refine tl_y rfl (y_mul64 (b := 8) rfl rfl) ?_
    refine tl_y rfl (y_assign (v := .int _ _) rfl) ?_
    refine tl_nil (.then_normal ?_)
    refine .sub (F' := [(3, _), (4, _)]) (.cons rfl (.cons rfl .nil)) ?_
    refine x_seq (x_seq (x_region ?_))
    refine tl_y rfl (y_assign rfl) ?_
    refine tl_nil (.then_normal ?_)
    refine x_block ?_
    refine x_loop (I := fun m' F D M1 L1 => ∃ (k : Nat) (A3 : Option Addr) (c3 : Nat) (E3 : Own), m' = 8 - k ∧ k ≤ 8 ∧ OwnRow 5 1 A3 (m + k) c3 (((bs ++ 128 :: zs) ++ (putB (UInt64.ofInt n * 8).toNat 8).take k).map bv) E3 ∧ D = [] ∧ M = M1 ∧ DropTo L1 (E3 ++ L) ∧ F = [(3, .slice A3 (m + k) c3), (4, u64v (UInt64.ofInt n * 8)), (5, .int .i64 (7 - (k : Int)))]) (8) (F0 := [(3, _), (4, _), (5, _)]) ?_ (.cons rfl (.cons rfl (.cons rfl .nil))) ?_  -- slots [3, 4, 5], written [3, 5]
    · exact ⟨0, A2, c2, E2, rfl, by omega, by rw [List.take_zero, List.append_nil]; exact hE2, rfl, rfl, inferInstance, rfl⟩
    rintro m _ _ M1 L1 ⟨k, A3, c3, E3, rfl, hk, hE3, rfl, rfl, hdr, rfl⟩
    refine x_seq (x_seq (x_region ?_))
    refine tl_y rfl (y_move (v := .int _ _) rfl) ?_
    refine tl_y rfl (y_geq rfl rfl) ?_
    refine tl_nil (.then_normal ?_)
    refine x_cond rfl (fun hc2 => ?_) (fun hc2 => ?_)
    ·
      have hk8 : k < 8 := by omega
      refine .dropTo _ hdr ?_
      refine x_skip (.then_normal ?_)
      refine x_seq ?_
      refine x_block ?_
      refine x_region ?_
      refine tl_y rfl (y_move (v := .slice _ _ _) rfl) ?_
      refine tl_y rfl (y_move (v := .int _ _) rfl) ?_
      refine tl_y rfl (y_move (v := .int _ _) rfl) ?_
      refine tl_y rfl (y_mulI rfl rfl (by omega)) ?_
      refine tl_y rfl (y_convN64 rfl (by omega)) ?_
      rw [show (8 * (7 - (k : Int))) = ((8 * (7 - k) : Nat) : Int) by omega]
      refine tl_y rfl (y_shr64 (s := 8 * (7 - k)) rfl rfl) ?_
      refine tl_y rfl (y_u64u8 rfl) ?_
      rw [shr_byte]
      refine tl_e rfl (e_buildSlice rfl (by decide) (fun bA => ?_))
      refine .to (E3 ++ ((bA, .cells (List.toArray [u8v (UInt8.ofNat ((UInt64.ofInt n * 8).toNat / 256 ^ (7 - k) % 256))]) 5 (0, 0)) :: L)) inferInstance ?_
      refine tl_e rfl (e_append (by decide) rfl rfl hE3 (.own inferInstance rfl) rfl (by omega) (by omega) (fun A4 c4 E4 hE4 => ?_))
      refine tl_y rfl (y_assign (v := .slice _ _ _) rfl) ?_
      refine tl_nil (.block_normal (.then_normal ?_))
      refine .sub (F' := [(3, _), (4, _), (5, _)]) (.cons rfl (.cons rfl (.cons rfl .nil))) ?_
      refine x_region ?_
      refine tl_y rfl (y_move (v := .int _ _) rfl) ?_
      refine tl_y rfl (y_subI rfl rfl (by omega)) ?_
      refine tl_y rfl (y_assign (v := .int _ _) rfl) ?_
      refine tl_nil (.loop_next (m' := 8 - (k + 1)) (by omega) (F' := [(3, _), (4, _), (5, _)]) (.cons rfl (.cons rfl (.cons rfl .nil))) ?_)
      exact ⟨k + 1, A4, c4, E4, rfl, by omega, by
        rw [take8 _ _ hk8, ← List.append_assoc, List.map_append]
        exact hE4, rfl, rfl, inferInstance, by rw [show (7 - (k : Int)) - 1 = 7 - ((k + 1 : Nat) : Int) by omega]; rfl⟩
    ·
      obtain rfl : k = 8 := by omega
      refine .dropTo _ hdr ?_
      rw [List.take_of_length_le (by rw [putB_length]; exact Nat.le_refl _)] at hE3
      have hpad : (bs ++ 128 :: zs) ++ putB (UInt64.ofInt n * 8).toNat 8 = bs ++ padB bs.length := by
        have hv : (UInt64.ofInt n * 8).toNat = n * 8 % 18446744073709551616 := by
          rw [UInt64.toNat_mul, show (UInt64.ofInt (n : Int)).toNat = n from by rw [ofInt64, UInt64.toNat_ofNat', Nat.mod_eq_of_lt (by omega)]]; rfl
        rw [padB, hbl, hz, hv]; simp
      rw [hpad] at hE3
      refine .pubRow hE3 (fun M1 hM1 hT => ?_)
      have hTl : (bs ++ padB bs.length).length = m + 8 := by have := hT.len; simpa using this
      have h64 : (m + 8) % 64 = 0 := by omega
      generalize hT' : bs ++ padB bs.length = T at hT hTl
      have hbT : Bytes M1 A3 (m + 8) c3 T := hT
      have hTle := hbT.le
      refine x_exit (.then_exit (.loop_exit (.block_exit (.then_normal ?_))))
      refine .sub (F' := [(3, _)]) (.cons rfl .nil) ?_
      refine x_seq (x_region ?_)
      refine tl_y rfl (y_buildArr rfl) ?_
      refine tl_e rfl (e_alloc (fun b5 => ?_))
      refine tl_e rfl (e_store rfl rfl (by rfl) (by rfl) inferInstance inferInstance inferInstance ?_)
      refine tl_nil (.then_normal ?_)
      refine x_seq (x_seq (x_region ?_))
      refine tl_y rfl (y_assign rfl) ?_
      refine tl_nil (.then_normal ?_)
      refine x_block ?_
      refine x_loop (I := fun m' F D M2 L1 => ∃ (k : Nat), m' = (m + 8) / 64 - k ∧ k ≤ (m + 8) / 64 ∧ D = [] ∧ M1 = M2 ∧ L1 = (b5, .cells (List.toArray (blk H8.init T k).vals) 230 (0, 0)) :: L ∧ F = [(3, .slice A3 (m + 8) c3), (6, .pointer (some ⟨b5, 0, none⟩)), (7, .int .i64 ((64 * k : Nat) : Int))]) ((m + 8) / 64) (F0 := [(3, _), (6, _), (7, _)]) ?_ (.cons rfl (.cons rfl (.cons rfl .nil))) ?_  -- slots [3, 6, 7], written [7]
      · exact ⟨0, rfl, by omega, rfl, rfl, rfl, rfl⟩
      rintro m _ _ M2 L1 ⟨k, rfl, hk, rfl, rfl, rfl, rfl⟩
      refine x_seq (x_seq (x_region ?_))
      refine tl_y rfl (y_move (v := .int _ _) rfl) ?_
      refine tl_y rfl (y_move (v := .slice _ _ _) rfl) ?_
      refine tl_y rfl (y_len rfl) ?_
      refine tl_y rfl (y_lss rfl rfl) ?_
      refine tl_nil (.then_normal ?_)
      refine x_cond rfl (fun hc3 => ?_) (fun hc3 => ?_)
      ·
        have hk64 : 64 * k + 64 ≤ m + 8 := by omega
        refine x_skip (.then_normal ?_)
        refine .sub (F' := [(3, _), (6, _), (7, _)]) (.cons rfl (.cons rfl (.cons rfl .nil))) ?_
        refine x_seq ?_
        refine x_block ?_
        refine x_draw 7 hmix rfl ?_
        refine to_y 0 rfl (by kernel_rfl) rfl (y_loadAgg rfl rfl (.own inferInstance inferInstance)) ?_
        refine to_p 1 rfl (by kernel_rfl) rfl (y_move (v := .slice _ _ _) rfl) ?_
        refine to_p 2 rfl (by kernel_rfl) rfl (y_move (v := .int _ _) rfl) ?_
        refine to_p 3 rfl (by kernel_rfl) rfl (y_move (v := .int _ _) rfl) ?_
        refine to_p 4 rfl (by kernel_rfl) rfl (y_addI rfl rfl (by omega)) ?_
        refine to_p 5 rfl (by kernel_rfl) rfl (y_sliceLH rfl rfl rfl (by omega) (by omega)) ?_
        rw [show ((64 * k : Nat) : Int).toNat = 64 * k by omega, show (((64 * k : Nat) : Int) + 64).toNat = 64 * k + 64 by omega]
        refine to_e 6 rfl (by kernel_rfl) rfl (e_call' rfl (RTurn_spec (blk H8.init T k) (hbT.sub (64 * k) (64 * k + 64) (by omega) (by omega)) (by omega)) ?_)
        rintro _ _ _ _ ⟨rfl, rfl, rfl⟩
        rw [show 64 * k + 64 - 64 * k = 64 by omega]
        refine ⟨⟨(by first | exact Le.refl _ | assumption), Keeps.mem⟩, ?_⟩
        refine to_t 7 rfl (by kernel_rfl) (by kernel_rfl) rfl (e_store rfl rfl (by rfl) (by rfl) inferInstance inferInstance inferInstance ?_)
        refine to_nil (by kernel_rfl) (.block_normal (.then_normal ?_))
        refine .sub (F' := [(3, _), (6, _), (7, _)]) (.cons rfl (.cons rfl (.cons rfl .nil))) ?_
        refine x_region ?_
        refine tl_y rfl (y_move (v := .int _ _) rfl) ?_
        refine tl_y rfl (y_addI rfl rfl (by omega)) ?_
        refine tl_y rfl (y_assign (v := .int _ _) rfl) ?_
        refine tl_nil (.loop_next (m' := (m + 8) / 64 - (k + 1)) (by omega) (F' := [(3, _), (6, _), (7, _)]) (.cons rfl (.cons rfl (.cons rfl .nil))) ?_)
        exact ⟨k + 1, rfl, by omega, rfl, rfl, rfl, by rw [show ((64 * k : Nat) : Int) + 64 = ((64 * (k + 1) : Nat) : Int) by omega]⟩
      ·
        obtain rfl : k = (m + 8) / 64 := by omega
        refine x_exit (.then_exit (.loop_exit (.block_exit (.then_normal ?_))))
        refine .sub (F' := [(6, _)]) (.cons rfl .nil) ?_
        refine x_seq (x_region ?_)
        refine tl_y rfl (y_assign rfl) ?_
        refine tl_nil (.then_normal ?_)
        refine x_seq (x_seq (x_region ?_))
        refine tl_y rfl (y_assign rfl) ?_
        refine tl_nil (.then_normal ?_)
        refine x_block ?_
        refine x_loop (I := fun m' F D M2 L1 => ∃ (k : Nat) (A4 : Option Addr) (c4 : Nat) (E4 : Own), m' = 8 - k ∧ k ≤ 8 ∧ OwnRow 5 1 A4 (4 * k) c4 (((((blk H8.init T ((m + 8) / 64)).list.take k).flatMap fun x => putB x.toNat 4)).map bv) E4 ∧ D = [] ∧ M1 = M2 ∧ DropTo L1 (E4 ++ ((b5, .cells (List.toArray (blk H8.init T ((m + 8) / 64)).vals) 230 (0, 0)) :: L)) ∧ F = [(6, .pointer (some ⟨b5, 0, none⟩)), (8, .slice A4 (4 * k) c4), (9, .int .i64 k)]) (8) (F0 := [(6, _), (8, _), (9, _)]) ?_ (.cons rfl (.cons rfl (.cons rfl .nil))) ?_  -- slots [6, 8, 9], written [8, 9]
        · exact ⟨0, none, 0, [], rfl, by omega, .nil, rfl, rfl, by rw [List.nil_append]; infer_instance, rfl⟩
        rintro m _ _ M2 L1 ⟨k, A4, c4, E4, rfl, hk, hE4, rfl, rfl, hdr, rfl⟩
        refine x_seq (x_seq (x_region ?_))
        refine tl_y rfl (y_move (v := .int _ _) rfl) ?_
        refine tl_y rfl (y_lss rfl rfl) ?_
        refine tl_nil (.then_normal ?_)
        refine x_cond rfl (fun hc4 => ?_) (fun hc4 => ?_)
        ·
          have hk8 : k < 8 := by omega
          refine .dropTo _ hdr ?_
          generalize hS : blk H8.init T ((m + 8) / 64) = S at hE4 ⊢
          have hg : (S.list.map u32v)[k]? = some (u32v (S.list.getD k 0)) := get_u32' _ _ (by show k < 8; omega)
          refine x_skip (.then_normal ?_)
          refine x_seq ?_
          refine x_block ?_
          refine x_draw0 23 ([(b5, .cells (List.toArray S.vals) 230 (0, 0))]) Keeps.mem hmix rfl ?_
          refine to_p 0 rfl (by kernel_rfl) rfl (y_move (v := .slice _ _ _) rfl) ?_
          refine to_p 1 rfl (by kernel_rfl) rfl (y_move (v := .int _ _) rfl) ?_
          refine to_p 2 rfl (by kernel_rfl) rfl (y_indexArr rfl rfl (by omega)) ?_
          refine to_y 3 rfl (by kernel_rfl) rfl (y_load rfl rfl (.at_ (.ownAt (i := k) (c := S.list.map u32v) inferInstance hg) (by omega))) ?_
          refine to_p 4 rfl (by kernel_rfl) rfl (y_shr32 (s := 24) rfl rfl) ?_
          refine to_p 5 rfl (by kernel_rfl) rfl (y_u32u8 rfl) ?_
          refine to_p 6 rfl (by kernel_rfl) rfl (y_move (v := .int _ _) rfl) ?_
          refine to_p 7 rfl (by kernel_rfl) rfl (y_indexArr rfl rfl (by omega)) ?_
          refine to_y 8 rfl (by kernel_rfl) rfl (y_load rfl rfl (.at_ (.ownAt (i := k) (c := S.list.map u32v) inferInstance hg) (by omega))) ?_
          refine to_p 9 rfl (by kernel_rfl) rfl (y_shr32 (s := 16) rfl rfl) ?_
          refine to_p 10 rfl (by kernel_rfl) rfl (y_u32u8 rfl) ?_
          refine to_p 11 rfl (by kernel_rfl) rfl (y_move (v := .int _ _) rfl) ?_
          refine to_p 12 rfl (by kernel_rfl) rfl (y_indexArr rfl rfl (by omega)) ?_
          refine to_y 13 rfl (by kernel_rfl) rfl (y_load rfl rfl (.at_ (.ownAt (i := k) (c := S.list.map u32v) inferInstance hg) (by omega))) ?_
          refine to_p 14 rfl (by kernel_rfl) rfl (y_shr32 (s := 8) rfl rfl) ?_
          refine to_p 15 rfl (by kernel_rfl) rfl (y_u32u8 rfl) ?_
          refine to_p 16 rfl (by kernel_rfl) rfl (y_move (v := .int _ _) rfl) ?_
          refine to_p 17 rfl (by kernel_rfl) rfl (y_indexArr rfl rfl (by omega)) ?_
          refine to_y 18 rfl (by kernel_rfl) rfl (y_load rfl rfl (.at_ (.ownAt (i := k) (c := S.list.map u32v) inferInstance hg) (by omega))) ?_
          refine to_p 19 rfl (by kernel_rfl) rfl (y_u32u8 rfl) ?_
          refine to_e 20 rfl (by kernel_rfl) rfl (e_buildSlice rfl (by decide) (fun bA => ?_))
          refine ⟨⟨(by first | exact Le.refl _ | assumption), Keeps.mem⟩, ?_⟩
          refine .to (E4 ++ ((bA, .cells (List.toArray [u8v (shr32 (S.list.getD k 0) 24).toUInt8, u8v (shr32 (S.list.getD k 0) 16).toUInt8, u8v (shr32 (S.list.getD k 0) 8).toUInt8, u8v (S.list.getD k 0).toUInt8]) 5 (0, 0)) :: (b5, .cells (List.toArray S.vals) 230 (0, 0)) :: L)) inferInstance ?_
          refine to_e 21 rfl (by kernel_rfl) rfl (e_append (by decide) rfl rfl hE4 (.own inferInstance rfl) rfl (by omega) (by omega) (fun A6 c6 E6 hE6 => ?_))
          refine ⟨⟨(by first | exact Le.refl _ | assumption), Keeps.mem⟩, ?_⟩
          refine to_p 22 rfl (by kernel_rfl) rfl (y_assign (v := .slice _ _ _) rfl) ?_
          refine to_nil (by kernel_rfl) (.block_normal (.then_normal ?_))
          refine .sub (F' := [(6, _), (8, _), (9, _)]) (.cons rfl (.cons rfl (.cons rfl .nil))) ?_
          refine x_region ?_
          refine tl_y rfl (y_move (v := .int _ _) rfl) ?_
          refine tl_y rfl (y_addI rfl rfl (by omega)) ?_
          refine tl_y rfl (y_assign (v := .int _ _) rfl) ?_
          refine tl_nil (.loop_next (m' := 8 - (k + 1)) (by omega) (F' := [(6, _), (8, _), (9, _)]) (.cons rfl (.cons rfl (.cons rfl .nil))) ?_)
          exact ⟨k + 1, A6, c6, E6, rfl, by omega, by
            rw [take_snoc S.list k 0 (by show k < 8; omega), List.flatMap_append, List.map_append, show 4 * (k + 1) = 4 * k + 4 by omega, show (List.flatMap (fun x : UInt32 => putB x.toNat 4) [S.list.getD k 0]) = putB (S.list.getD k 0).toNat 4 by simp, ← put4_eq]
            exact hE6, rfl, rfl, inferInstance, rfl⟩
        ·
          obtain rfl : k = 8 := by omega
          refine .dropTo _ hdr ?_
          refine x_exit (.then_exit (.loop_exit (.block_exit (.then_normal ?_))))
          refine .sub (F' := [(8, _)]) (.cons rfl .nil) ?_
          refine x_seq (x_region ?_)
          refine tl_y rfl (y_move (v := .slice _ _ _) rfl) ?_
          refine tl_y rfl (y_assign (v := .slice _ _ _) rfl) ?_
          refine tl_nil (.then_normal ?_)
          refine x_ret (.dropTo (E4 ++ L) inferInstance (.pubRow hE4 fun M' hle hr => ret1 rfl rfl (hM1.trans hle) ⟨rfl, A4, c4, rfl, by
            have hsh : sha bs = (((blk H8.init T ((m + 8) / 64)).list.take 8).flatMap fun x => putB x.toNat 4) := by rw [sha, hT', hTl]; rfl
            rw [hsh]; exact hr⟩))
end
end Go.Proofs.YtiimjodbaogjbaaGreatDoor
