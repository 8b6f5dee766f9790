/-
Contracts of functions, each proved by a walk through its code.
-/
import Derived.Test.YtplkoemjffplcaaGreatDoorOctEtc
import Derived.Test.YtplkoemjffplcaaGreatDoorBaseEtc
import Derived.Test.YtplkoemjffplcaaGreatDoorSetsEtc
import Derived.Test.YtplkoemjffplcaaGreatDoorEngWEtc
set_option linter.all false
namespace Go.Proofs.YtplkoemjffplcaaGreatDoor
open Go Go.Eng
theorem putB_cons : ∀ (k v : Nat), putB v (k + 1) = UInt8.ofNat (v / 256 ^ k % 256) :: putB v k
 | 0, v => by simp [putB]
 | k + 1, v => by
  rw [putB, putB_cons k (v / 256), putB, Nat.div_div_eq_div_mul, Nat.pow_succ, Nat.mul_comm 256]
  rfl
section
variable {G : World} {M : Mem} {L R : Own}
theorem RPut_spec (v : UInt64) (n : Nat) (hn : n ≤ 8) :
  Con Tryz.prog 61 #[.int .u64 (v.toNat : Int), .int .i64 (n : Int)] G M L (fun r M' L' => L = L' ∧ ∃ A c, r = .slice A n c ∧ Bytes M' A n c (putB v.toNat n)) noPanic := by
 have hv := v.toNat_lt
 refine zfn Tryz.func61 rfl 28 rfl <| zr <| as0 rfl <| zq <| zr2 <| mvI rfl <| tl_y rfl (y_lss rfl rfl) <| mvB rfl <| tl_set (s := 9) (u := .bool false) rfl (by rw [decide_eq_false]; omega) <| mvI rfl <| tl_y rfl (y_gtr rfl rfl) <| tPf rfl rfl <| zq <| .s3 0 1 12 rfl rfl rfl <| x_false rfl (by rw [decide_eq_false]; omega) <| x_skip <| .then_normal <| zr <| tl_e rfl <| e_buildSlice0 <| fun b1 => asS rfl <| zq <| zr2 <| as0 rfl <| zq <| x_block ?_
 refine x_loop (I := fun m' F D M1 L1 => ∃ (k q : Nat) (A : Option Addr) (c : Nat) (E : Own), m' = n - k ∧ k ≤ n ∧ q = v.toNat / 256 ^ k ∧ q ≤ v.toNat ∧ OwnRow 5 1 A k c ((putB v.toNat k).map bv) E ∧ D = [] ∧ M = M1 ∧ L1 = E ++ L ∧ F = [(0, .int .u64 (q : Int)), (1, .int .i64 n), (5, .slice A k c), (6, .int .i64 k)]) (n) (F0 := [(0, _), (1, _), (5, _), (6, _)]) ?_ (cs4 rfl rfl rfl rfl) ?_
 ·
  exact ⟨0, v.toNat, _, _, _, rfl, by omega, by rw [Nat.pow_zero, Nat.div_one], Nat.le_refl _, OwnRow.made00, rfl, rfl, rfl, rfl⟩
 rintro m _ _ M1 L1 ⟨k, q, A, c, E, rfl, hk, hq, hqv, hE, rfl, rfl, rfl, rfl⟩
 refine zr2 <| mvI rfl <| mvI rfl <| tl_y rfl (y_lss rfl rfl) <| zq <| x_cond rfl (fun hc2 => ?_) (fun hc2 => ?_)
 ·
  have hkn : k < n := by omega
  have hq2 : q / 256 = v.toNat / 256 ^ (k + 1) := by rw [hq, Nat.div_div_eq_div_mul, Nat.pow_succ]
  refine x_skip <| .then_normal <| x_seq <| x_block <| zr <| mvI rfl <| tl_y rfl (y_remI rfl rfl (by omega)) <| tl_y rfl (y_convN8 rfl (by omega)) ?_
  rw [show (q : Int) % 256 = (((UInt8.ofNat (q % 256)).toNat : Nat) : Int) by rw [UInt8.toNat_ofNat']; omega]
  refine tl_e rfl <| e_buildSlice rfl (by decide) <| fun b2 => mvS rfl <| tl_e rfl <| e_append1 (by decide) rfl rfl (OwnRow.made (n := 1) rfl (by omega)) (src_in (hE.in_ iI (by omega))) (all_one_bv _) (by omega) (by omega) <| fun A2 c2 E2 hE2 => ?_
  rw [show 1 + k = k + 1 by omega] at hE2 ⊢
  refine .dropTo (E2 ++ L) iI <| asS rfl <| zq <| .s4 0 1 5 6 rfl rfl rfl rfl <| x_region <| mvI rfl <| tl_y rfl (y_quoN64 rfl rfl (by omega)) <| asI rfl <| tl_nil <| .block_normal <| .then_normal <| x_region <| mvI rfl <| tl_y rfl (y_addI rfl rfl (by omega)) <| asI rfl <| tl_nil <| .loop_next (m' := n - (k + 1)) (by omega) (F' := [(0, _), (1, _), (5, _), (6, _)]) (cs4 rfl rfl rfl rfl) ?_
  exact ⟨k + 1, q / 256, A2, c2, E2, rfl, by omega, hq2, by omega, by rw [putB_cons, ← hq]; exact hE2, rfl, rfl, rfl, rfl⟩
 refine x_exit <| .then_exit <| .loop_exit <| .block_exit <| .then_normal <| .s1 5 rfl <| zr <| mvS rfl <| asS rfl <| zq ?_
 obtain rfl : k = n := by omega
 refine x_ret (.pubRow hE fun M' hle hr => ret1 rfl rfl hle ⟨rfl, _, _, rfl, hr⟩)
end
theorem RowIn.cons {M : Mem} {L : Own} {s n : Nat} {A : Option Addr} {vs : List Value} {p : Nat × Obj} (h : RowIn M L s A n vs) : RowIn M (p :: L) s A n vs := ⟨h.len, fun hn => by
 obtain ⟨b, o, e, hc⟩ := h.addr hn
 exact ⟨b, o, e, fun j v hj w hw => hc j v hj w ⟨hw.ro, fun q hq => hw.own q (List.mem_cons_of_mem _ hq)⟩⟩⟩
section
variable {G : World} {M : Mem} {L : Own}
end
def shR (n w j : Nat) : Nat := shX n w / (2 ^ w) ^ j
theorem shR_succ (n w j : Nat) : ((shR n w j : Nat) : Int) / ((pw2 w : Nat) : Int) = ((shR n w (j + 1) : Nat) : Int) := by
 rw [shR, shR, pw2, Nat.pow_succ (2 ^ w), ← Nat.div_div_eq_div_mul]; simp
theorem shR_zero (n w : Nat) : shR n w 0 = shX n w := by rw [shR, Nat.pow_zero, Nat.div_one]
theorem shR_le (n w j : Nat) : shR n w j ≤ shX n w := Nat.div_le_self _ _
section
variable {G : World} {M : Mem} {L : Own}
theorem RdMay_spec {w : Nat} (hw : isW w) :
  Con Tryz.prog 189 #[.int .i64 (w : Int)] G M L (fun v M' L' => M = M' ∧ L = L' ∧ v = .bool true) noPanic := by
 refine zfn Tryz.func189 rfl 17 rfl <| zr <| as0 rfl <| zq <| zr <| mvI rfl <| tl_y rfl (y_eql rfl rfl) <| mvB rfl <| tl_cases (s := 5) rfl (fun hk1 => ?_) (fun hk1 => ?_)
 ·
  refine sk2 rfl rfl <| tPt rfl rfl <| mvB rfl <| sk2 rfl rfl <| tPt rfl rfl <| mvB rfl <| sk2 rfl rfl <| tPt rfl rfl <| asB rfl <| zq <| .s1 2 rfl <| x_ret (ret1 rfl rfl lR ⟨rfl, rfl, rfl⟩)
 refine mvI rfl <| tl_y rfl (y_eql rfl rfl) <| tPf rfl rfl <| mvB rfl <| tl_cases (s := 9) rfl (fun hk2 => ?_) (fun hk2 => ?_)
 ·
  refine sk2 rfl rfl <| tPt rfl rfl <| mvB rfl <| sk2 rfl rfl <| tPt rfl rfl <| asB rfl <| zq <| .s1 2 rfl <| x_ret (ret1 rfl rfl lR ⟨rfl, rfl, rfl⟩)
 refine mvI rfl <| tl_y rfl (y_eql rfl rfl) <| tPf rfl rfl <| mvB rfl <| tl_cases (s := 13) rfl (fun hk3 => ?_) (fun hk3 => ?_)
 ·
  refine sk2 rfl rfl <| tPt rfl rfl <| asB rfl <| zq <| .s1 2 rfl <| x_ret (ret1 rfl rfl lR ⟨rfl, rfl, rfl⟩)
 refine mvI rfl <| tl_y rfl (y_eql rfl rfl) <| tPf rfl rfl <| asB rfl <| zq <| .s1 2 rfl <| x_ret (ret1 rfl rfl lR ⟨rfl, rfl, by
  rcases hw with rfl | rfl | rfl | rfl
  ·
   exact absurd rfl hk1
  ·
   exact absurd rfl hk2
  ·
   exact absurd rfl hk3
  rfl⟩)
theorem RShape_spec {n w : Nat} (hn : isN n) (hw : isW w) :
  Con Tryz.prog 142 #[.int .i64 (n : Int), .int .i64 (w : Int)] G M L (fun v M' L' => M = M' ∧ L = L' ∧ v = .tuple #[.int .i64 (shU n w : Nat), .int .i64 (shV n w : Nat), .int .i64 (shS n w : Nat)]) noPanic := by
 have hfact := shape_fact hn hw
 have hnb : 24 ≤ n ∧ n ≤ 32 := by rcases hn with rfl | rfl <;> omega
 have hlp : ∀ k, k ≤ shV n w → (0 < shR n w k ↔ k < shV n w) := fun k hk => shape_loop hn hw ⟨k, by omega⟩ hk
 change _ ∧ _ ∧ _ ∧ _ ∧ _ ∧ _ ∧ _ ∧ _ ∧ pw2 w ≤ 256 ∧ 2 ≤ pw2 w at hfact
 obtain ⟨h1, h2, h3, h4, h5, h6, h7, h8, h9, h10⟩ := hfact
 have hu : (8 * (n : Int)) / (w : Int) = ((shU n w : Nat) : Int) := by rw [shU]; simp
 have hx : (((pw2 w : Nat) : Int) - 1) * ((shU n w : Nat) : Int) = ((shX n w : Nat) : Int) := by
  rw [show ((pw2 w : Nat) : Int) - 1 = ((pw2 w - 1 : Nat) : Int) by omega, shX, pw2]; simp
 have hs : ((shV n w : Nat) : Int) * (w : Int) = ((shV n w * w : Nat) : Int) := by simp
 refine zfn Tryz.func142 rfl 51 rfl <| zr <| as0 rfl <| as0 rfl <| as0 rfl <| zq <| zr2 <| mvI rfl <| tl_y rfl (y_lss rfl rfl) <| mvB rfl <| tl_set (s := 14) (u := .bool false) rfl (by rw [decide_eq_false]; omega) <| mvI rfl <| tl_y rfl (y_gtr rfl rfl) <| tPf rfl rfl <| mvB rfl <| tl_set (s := 18) (u := .bool false) rfl (by rw [decide_eq_false]; omega) <| mvI rfl <| zca rfl (RdMay_spec hw) ?_
 rintro _ _ _ _ ⟨rfl, rfl, rfl⟩
 refine tl_y rfl (y_not rfl) <| tPf rfl rfl <| zq <| .s3 0 1 22 rfl rfl rfl <| x_false rfl (rfl) <| x_skip <| .then_normal <| zr <| as0 rfl <| zq <| zr2 <| as0 rfl <| zq <| x_block ?_
 refine x_loop (I := fun m' F D M2 L1 => ∃ k : Nat, m' = w - k ∧ k ≤ w ∧ D = [] ∧ M = M2 ∧ L = L1 ∧ F = [(0, .int .i64 n), (1, .int .i64 w), (7, .int .i64 (pw2 k : Nat)), (8, .int .i64 k)]) (w) (F0 := [(0, _), (1, _), (7, _), (8, _)]) ?_ (cs4 rfl rfl rfl rfl) ?_
 ·
  exact ⟨0, rfl, by omega, rfl, rfl, rfl, rfl⟩
 rintro m _ _ M2 L1 ⟨k, rfl, hk, rfl, rfl, rfl, rfl⟩
 refine zr2 <| mvI rfl <| mvI rfl <| tl_y rfl (y_lss rfl rfl) <| zq <| x_cond rfl (fun hc2 => ?_) (fun hc2 => ?_)
 ·
  have hp := pw2_le hk
  refine x_skip <| .then_normal <| x_seq <| x_block <| x_region <| mvI rfl <| tl_y rfl (y_mulI rfl rfl (by omega)) ?_
  rw [pw2_succ]
  refine asI rfl <| tl_nil <| .block_normal <| .then_normal <| .s4 0 1 7 8 rfl rfl rfl rfl <| x_region <| mvI rfl <| tl_y rfl (y_addI rfl rfl (by omega)) <| asI rfl <| tl_nil <| .loop_next (m' := w - (k + 1)) (by omega) (F' := [(0, _), (1, _), (7, _), (8, _)]) (cs4 rfl rfl rfl rfl) ?_
  exact ⟨k + 1, rfl, by omega, rfl, rfl, rfl, rfl⟩
 obtain rfl : k = w := by omega
 refine x_exit <| .then_exit <| .loop_exit <| .block_exit <| .then_normal <| .s3 0 1 7 rfl rfl rfl <| zr <| mvI rfl <| tl_y rfl (y_mulI rfl rfl (by omega)) <| mvI rfl <| tl_y rfl (y_quoI rfl rfl (by omega)) ?_
 rw [hu]
 refine asI rfl <| zq <| .s3 1 7 9 rfl rfl rfl <| zr <| as0 rfl <| zq <| zr2 <| mvI rfl <| tl_y rfl (y_subI rfl rfl (by omega)) <| mvI rfl <| tl_y rfl (y_mulI rfl rfl (by rw [hx]; omega)) ?_
 rw [hx]
 refine asI rfl <| zq <| .s5 1 7 9 10 11 rfl rfl rfl rfl rfl <| x_block ?_
 refine x_loop (I := fun m' F D M2 L1 => ∃ j : Nat, m' = shV n k - j ∧ j ≤ shV n k ∧ D = [] ∧ M = M2 ∧ L = L1 ∧ F = [(1, .int .i64 k), (7, .int .i64 (pw2 k : Nat)), (9, .int .i64 (shU n k : Nat)), (10, .int .i64 j), (11, .int .i64 (shR n k j : Nat))]) (shV n k) (F0 := [(1, _), (7, _), (9, _), (10, _), (11, _)]) ?_ (cs5 rfl rfl rfl rfl rfl) ?_
 ·
  exact ⟨0, rfl, by omega, rfl, rfl, rfl, by rw [shR_zero]; rfl⟩
 rintro m _ _ M2 L1 ⟨j, rfl, hj, rfl, rfl, rfl, rfl⟩
 refine zr2 <| mvI rfl <| tl_y rfl (y_gtr rfl rfl) <| zq <| x_cond rfl (fun hc3 => ?_) (fun hc3 => ?_)
 ·
  have hjv : j < shV n k := (hlp j hj).1 (by omega)
  have hdl := shR_le n k j
  refine x_skip <| .then_normal <| x_seq <| x_block <| x_region <| mvI rfl <| tl_y rfl (y_addI rfl rfl (by omega)) <| asI rfl <| tl_nil <| .block_normal <| .then_normal <| .s5 1 7 9 10 11 rfl rfl rfl rfl rfl <| x_region <| mvI rfl <| mvI rfl <| tl_y rfl (y_quoI rfl rfl (by omega)) ?_
  rw [shR_succ]
  refine asI rfl <| tl_nil <| .loop_next (m' := shV n k - (j + 1)) (by omega) (F' := [(1, _), (7, _), (9, _), (10, _), (11, _)]) (cs5 rfl rfl rfl rfl rfl) ?_
  exact ⟨j + 1, rfl, by omega, rfl, rfl, rfl, rfl⟩
 have hjv : ¬ j < shV n k := fun h => hc3 (by have := (hlp j hj).2 h; omega)
 obtain rfl : j = shV n k := by omega
 refine x_exit <| .then_exit <| .loop_exit <| .block_exit <| .then_normal <| .s3 1 9 10 rfl rfl rfl <| zr <| mvI rfl <| mvI rfl <| mvI rfl <| mvI rfl <| tl_y rfl (y_mulI rfl rfl (by rw [hs]; omega)) ?_
 rw [hs]
 refine tl_y rfl (y_subI rfl rfl (by omega)) ?_
 rw [show (16 : Int) - ((shV n k * k : Nat) : Int) = ((shS n k : Nat) : Int) by rw [shS]; omega]
 refine asI rfl <| asI rfl <| asI rfl <| zq <| .s3 4 5 6 rfl rfl rfl <| x_ret (ret3 rfl rfl rfl rfl lR ⟨rfl, rfl, rfl⟩)
theorem Rsize_spec (i : Nat) (hi : i ≤ 1000) :
  Con Tryz.prog 141 #[.int .i64 (i : Int)] G M L (fun v M' L' => M = M' ∧ L = L' ∧ v = .tuple #[.int .i64 ((i / 2 : Nat) : Int), .int .i64 ((szN i : Nat) : Int)]) noPanic := by
 refine zfn Tryz.func141 rfl 11 rfl <| zr <| as0 rfl <| as0 rfl <| zq <| zr <| as0 rfl <| zq <| zr2 <| mvI rfl <| tl_y rfl (y_remI rfl rfl (by omega)) <| tl_y rfl (y_eql rfl rfl) <| zq <| .s3 0 4 7 rfl rfl rfl <| x_cond rfl (fun hc1 => ?_) (fun hc1 => ?_)
 ·
  refine x_region <| as0 rfl <| zq <| zr <| mvI rfl <| tl_y rfl (y_quoI rfl rfl (by omega)) <| mvI rfl <| asI rfl <| asI rfl <| zq <| .s2 2 3 rfl rfl <| x_ret (ret2 rfl rfl rfl lR ⟨rfl, rfl, by rw [szN, if_pos (by omega)]; rfl⟩)
 refine x_skip <| .then_normal <| zr <| mvI rfl <| tl_y rfl (y_quoI rfl rfl (by omega)) <| mvI rfl <| asI rfl <| asI rfl <| zq <| .s2 2 3 rfl rfl <| x_ret (ret2 rfl rfl rfl lR ⟨rfl, rfl, by rw [szN, if_neg (by omega)]; rfl⟩)
theorem ROts_spec (code : UInt32) :
  Con Tryz.prog 95 #[.int .u32 (code.toNat : Int)] G M L (fun v M' L' => M = M' ∧ L = L' ∧ v = .tuple #[.agg (List.toArray (otsV code).cells), .int .i64 (otsE code)]) noPanic := by
 have hc := code.toNat_lt
 refine zfn Tryz.func95 rfl 47 rfl <| zr <| tl_e rfl <| e_alloc <| fun b1 => as0 rfl <| zq <| zr2 <| mvI rfl <| tl_y rfl (y_lss rfl rfl) <| mvB rfl <| tl_cases (s := 12) rfl (fun hk1 => ?_) (fun hk1 => ?_)
 ·
  have ho : otsOf code = none := by rw [otsOf, if_neg (by omega)]
  refine sk2 rfl rfl <| tPt rfl rfl <| zq <| .s3 0 2 15 rfl rfl rfl <| x_true rfl rfl <| zr <| tl_y rfl (y_build rfl) <| tl_e rfl <| e_sT rfl rfl <| as0 rfl <| zq <| x_ret (.then_ret (retRV (L' := L) (rv2 rfl (rc_cellAgg (by rfl) rfl (.own iI iI)) (rc_tmp (by rfl))) iI lR ⟨rfl, rfl, by rw [otsV, otsE, ho]; rfl⟩))
 refine mvI rfl <| tl_y rfl (y_gtr rfl rfl) <| tPf rfl rfl <| zq <| .s3 0 2 15 rfl rfl rfl <| x_cond rfl (fun hc1 => ?_) (fun hc1 => ?_)
 ·
  have ho : otsOf code = none := by rw [otsOf, if_neg (by omega)]
  refine zr <| tl_y rfl (y_build rfl) <| tl_e rfl <| e_sT rfl rfl <| as0 rfl <| zq <| x_ret (.then_ret (retRV (L' := L) (rv2 rfl (rc_cellAgg (by rfl) rfl (.own iI iI)) (rc_tmp (by rfl))) iI lR ⟨rfl, rfl, by rw [otsV, otsE, ho]; rfl⟩))
 obtain ⟨i, hi⟩ : ∃ i, i = code.toNat - 1 := ⟨_, rfl⟩
 have hi4 : i % 4 < 4 := Nat.mod_lt _ (by omega)
 have hi16 : i < 16 := by omega
 obtain ⟨s1, s2, s3, s4, s5, s6, s7, s8, s9, s10⟩ := shape_fact (szN_is (i / 4)) (w_is i)
 refine x_skip <| .then_normal <| zr <| mvI rfl <| tl_y rfl (y_subN32 rfl rfl (by omega)) <| tl_y rfl (y_convI rfl (by omega)) ?_
 rw [show (code.toNat : Int) - 1 = (i : Int) by omega]
 refine tl_y rfl (y_quoI rfl rfl (by omega)) ?_
 rw [show (i : Int) / 4 = ((i / 4 : Nat) : Int) by omega]
 refine zca rfl (Rsize_spec (i / 4) (by omega)) ?_
 rintro _ _ _ _ ⟨rfl, rfl, rfl⟩
 refine mvU rfl <| zx rfl <| zx rfl <| asI rfl <| asI rfl <| zq <| .s4 0 2 4 5 rfl rfl rfl rfl <| zr <| tl_e rfl <| e_buildSlice rfl (by decide) <| fun b2 => mvI rfl <| tl_y rfl (y_subN32 rfl rfl (by omega)) <| tl_y rfl (y_remI rfl rfl (by omega)) ?_
 rw [show ((code.toNat : Int) - 1) % 4 = ((i % 4 : Nat) : Int) by omega]
 refine tl_y rfl (y_indexAddr rfl rfl (by omega)) <| tl_y rfl (y_load rfl rfl (.at_ (.ownAt (i := i % 4) (c := [Value.int .i64 1, .int .i64 2, .int .i64 4, .int .i64 8]) iI (widths_get _ hi4)) (by omega))) <| asI rfl <| zq <| .s5 0 2 4 5 6 rfl rfl rfl rfl rfl <| zr <| mvI rfl <| mvI rfl ?_
 refine zca rfl (RShape_spec (szN_is (i / 4)) (w_is i)) ?_
 rintro _ _ _ _ ⟨rfl, rfl, rfl⟩
 refine mvU rfl <| zx rfl <| zx rfl <| zx rfl <| asI rfl <| asI rfl <| asI rfl <| zq <| .s8 0 2 4 5 6 7 8 9 rfl rfl rfl rfl rfl rfl rfl rfl <| zr <| mvI rfl <| mvI rfl <| mvI rfl <| mvI rfl <| mvI rfl <| mvI rfl <| tl_y rfl (y_addI rfl rfl (by omega)) <| mvI rfl <| tl_y rfl (y_build rfl) <| tl_e rfl <| e_sT rfl rfl <| as0 rfl <| zq <| .s2 2 3 rfl rfl <| x_ret (retRV (L' := L) (rv2 rfl (rc_cellAgg (by rfl) rfl (.own iI iI)) (rc_tmp (by rfl))) iI lR ⟨rfl, rfl, by
  rw [otsV, otsE, show otsOf code = some (otsT i) by rw [otsOf, if_pos (by omega), hi]]
  rw [Option.getD_some, otsT]
  show _ = Value.tuple #[.agg #[.int .u32 ((UInt32.ofNat (i + 1)).toNat : Int), _, _, _, _, _], _]
  rw [show (UInt32.ofNat (i + 1)).toNat = code.toNat by rw [UInt32.toNat_ofNat']; omega, show i / 8 = i / 4 / 2 by omega]
  rfl⟩)
end
section
variable {G : World} {M : Mem} {L : Own}
theorem bool_iff {t : Bool} {p : Prop} [Decidable p] (h : t = true ↔ p) : t = decide p := by
 rw [Bool.eq_iff_iff, h]; simp
theorem RPutV_spec (v n : Nat) (hv : v < 18446744073709551616) (hn : n ≤ 8) :
  Con Tryz.prog 61 #[.int .u64 (v : Int), .int .i64 (n : Int)] G M L (fun r M' L' => L = L' ∧ ∃ A c, r = .slice A n c ∧ Bytes M' A n c (putB v n)) noPanic := by
 have h := RPut_spec (G := G) (M := M) (L := L) (UInt64.ofNat v) n hn
 rw [UInt64.toNat_ofNat', Nat.mod_eq_of_lt hv] at h
 exact h
end
def dig (w c k : Nat) : Nat := c / 2 ^ (8 - w * (k + 1)) % 2 ^ w
def dpb (w : Nat) : Nat := 8 / w
def digAt (w : Nat) (bs : List UInt8) (m : Nat) : Nat := dig w (bs.getD (m / dpb w) 0).toNat (m % dpb w)
def digs (w : Nat) (bs : List UInt8) (m : Nat) : List Nat := (List.range m).map (digAt w bs)
def lackN (w : Nat) (bs : List UInt8) (m : Nat) : Nat := ((digs w bs m).map fun d => 2 ^ w - 1 - d).sum
theorem digs_len (w : Nat) (bs : List UInt8) (m : Nat) : (digs w bs m).length = m := by simp [digs]
theorem digs_succ (w : Nat) (bs : List UInt8) (m : Nat) : digs w bs (m + 1) = digs w bs m ++ [digAt w bs m] := by rw [digs, List.range_succ, List.map_append]; rfl
theorem lackN_succ (w : Nat) (bs : List UInt8) (m : Nat) : lackN w bs (m + 1) = lackN w bs m + (2 ^ w - 1 - digAt w bs m) := by
 rw [lackN, digs_succ, List.map_append, List.sum_append]; simp [lackN]
theorem dpb_pos {w : Nat} (h : isW w) : 1 ≤ dpb w ∧ w * dpb w = 8 := by rcases h with rfl | rfl | rfl | rfl <;> decide
theorem digAt_lt (w : Nat) (bs : List UInt8) (m : Nat) : digAt w bs m < 2 ^ w := Nat.mod_lt _ (Nat.two_pow_pos w)
theorem lackN_le (w : Nat) (bs : List UInt8) : ∀ m, lackN w bs m ≤ m * (2 ^ w - 1)
 | 0 => by simp [lackN, digs]
 | m + 1 => by
  have := lackN_le w bs m
  rw [lackN_succ, Nat.succ_mul]
  omega
theorem lack_fits {n w : Nat} (hn : isN n) (hw : isW w) : shX n w * 2 ^ shS n w < 65536 ∧ shX n w = n * dpb w * (2 ^ w - 1) ∧ shV n w ≤ 2 * dpb w ∧ shU n w = n * dpb w := by
 rcases hn with rfl | rfl <;> rcases hw with rfl | rfl | rfl | rfl <;> decide
def lackX (n w : Nat) (bs : List UInt8) : Nat := lackN w bs (n * dpb w) * 2 ^ shS n w
theorem lackX_lt {n w : Nat} (hn : isN n) (hw : isW w) (bs : List UInt8) : lackX n w bs < 65536 := by
 obtain ⟨h1, h2, _⟩ := lack_fits hn hw
 have h3 := lackN_le w bs (n * dpb w)
 rw [← h2] at h3
 exact Nat.lt_of_le_of_lt (Nat.mul_le_mul_right _ h3) h1
def two (x : Nat) : List UInt8 := [UInt8.ofNat (x / 256), UInt8.ofNat (x % 256)]
def allD (n w : Nat) (bs : List UInt8) : List Nat := digs w bs (n * dpb w) ++ (digs w (two (lackX n w bs)) (2 * dpb w)).take (shV n w)
theorem allD_len {n w : Nat} (hn : isN n) (hw : isW w) (bs : List UInt8) : (allD n w bs).length = shU n w + shV n w := by
 obtain ⟨_, _, h3, h4⟩ := lack_fits hn hw
 rw [allD, List.length_append, digs_len, List.length_take, digs_len, Nat.min_eq_left h3, h4]
theorem allD_lt {n w : Nat} (bs : List UInt8) : ∀ d ∈ allD n w bs, d < 2 ^ w := by
 intro d hd
 rcases List.mem_append.1 hd with h | h
 ·
  obtain ⟨m, _, rfl⟩ := List.mem_map.1 h
  exact digAt_lt _ _ _
 obtain ⟨m, _, rfl⟩ := List.mem_map.1 (List.mem_of_mem_take h)
 exact digAt_lt _ _ _
theorem and_one : ∀ x : Fin 256, IntKind.i64.wrap (((BitVec.ofInt IntKind.i64.bits (x.val : Int) &&& BitVec.ofInt IntKind.i64.bits 1).toNat : Nat) : Int) = ((x.val % 2 : Nat) : Int) := by decide +kernel
theorem and_three : ∀ x : Fin 256, IntKind.i64.wrap (((BitVec.ofInt IntKind.i64.bits (x.val : Int) &&& BitVec.ofInt IntKind.i64.bits 3).toNat : Nat) : Int) = ((x.val % 4 : Nat) : Int) := by decide +kernel
theorem and_15 : ∀ x : Fin 256, IntKind.i64.wrap (((BitVec.ofInt IntKind.i64.bits (x.val : Int) &&& BitVec.ofInt IntKind.i64.bits 15).toNat : Nat) : Int) = ((x.val % 16 : Nat) : Int) := by decide +kernel
theorem and_255 : ∀ x : Fin 256, IntKind.i64.wrap (((BitVec.ofInt IntKind.i64.bits (x.val : Int) &&& BitVec.ofInt IntKind.i64.bits 255).toNat : Nat) : Int) = ((x.val % 256 : Nat) : Int) := by decide +kernel
theorem and_w {w x : Nat} (h : isW w) (hx : x < 256) : IntKind.i64.wrap (((BitVec.ofInt IntKind.i64.bits (x : Int) &&& BitVec.ofInt IntKind.i64.bits (((2 ^ w : Nat) : Int) - 1)).toNat : Nat) : Int) = ((x % 2 ^ w : Nat) : Int) := by
 rcases h with rfl | rfl | rfl | rfl
 ·
  exact and_one ⟨x, hx⟩
 ·
  exact and_three ⟨x, hx⟩
 ·
  exact and_15 ⟨x, hx⟩
 exact and_255 ⟨x, hx⟩
section
variable {G : World} {M : Mem} {L : Own}
theorem each_spec {A : Option Addr} {n c : Nat} (w : Int) :
  Con Tryz.prog 276 #[.slice A n c, .int .i64 w] G M L (fun v M' L' => M = M' ∧ ∃ x0 x1, L' = (x0, .cells #[.slice A n c] 22 (0, 0)) :: (x1, .cells #[.int .i64 w] 3 (0, 0)) :: L ∧ v = .func (.func 281) #[] #[.pointer (some ⟨x0, 0, none⟩), .pointer (some ⟨x1, 0, none⟩)]) noPanic := by
 refine zfn Tryz.func276 rfl 6 rfl <| zr <| tl_e rfl <| e_box rfl <| fun b1 => tl_e rfl <| e_box rfl <| fun b2 => as0 rfl <| zq <| zr <| tl_y rfl (y_makeFunc rfl rfl) <| asF rfl <| zq <| .s1 4 rfl <| x_ret (.to ((b1, .cells #[.slice A n c] 22 (0, 0)) :: (b2, .cells #[.int .i64 w] 3 (0, 0)) :: L) iI (ret1 rfl rfl lR ⟨rfl, b1, b2, rfl, rfl⟩))
theorem each1_spec {l x0 x1 : Nat} {A : Option Addr} {n c w : Nat} (hw : isW w) {bs : List UInt8} {X0 : Own} (hb : Bytes M A n c bs) (hn : n ≤ 1000000000000) {Inv : Nat → Mem → Own → Prop} {Dn : Mem → Own → Prop}
  (hy : ∀ m M1 X1, m < n * dpb w → Le M M1 → Inv m M1 X1 → YCon Tryz.prog l [.int .i64 ((digAt w bs m : Nat) : Int)] G M1 X1 (Inv (m + 1)) Dn) (h0 : Inv 0 M X0) :
  Con Tryz.prog 281 #[.func (.yield l) #[] #[], .pointer (some ⟨x0, 0, none⟩), .pointer (some ⟨x1, 0, none⟩)] G M ((x0, .cells #[.slice A n c] 22 (0, 0)) :: (x1, .cells #[.int .i64 (w : Int)] 3 (0, 0)) :: X0)
   (fun v M' L' => ∃ X', L' = (x0, .cells #[.slice A n c] 22 (0, 0)) :: (x1, .cells #[.int .i64 (w : Int)] 3 (0, 0)) :: X' ∧ (Inv (n * dpb w) M' X' ∨ Dn M' X')) noPanic := by
 have hmx := hb.max
 have hle := hb.le
 have hbl := hb.size
 obtain ⟨hd1, hd8⟩ := dpb_pos hw
 have hw8 : 1 ≤ w ∧ w ≤ 8 := by rcases hw with rfl | rfl | rfl | rfl <;> omega
 have hsh := shl1_w hw
 have h2w : 2 ≤ 2 ^ w ∧ 2 ^ w ≤ 256 := pw2_w hw
 refine zfn Tryz.func281 rfl 32 rfl <| zr <| tLd rfl rfl <| tLen rfl <| mv0 rfl <| zq <| x_block ?_
 refine x_loop (I := fun m' F D M1 L1 => ∃ (i : Nat) (X1 : Own), m' = n - i ∧ i ≤ n ∧ Le M M1 ∧ Inv (i * dpb w) M1 X1 ∧ D = [] ∧ L1 = (x0, .cells #[.slice A n c] 22 (0, 0)) :: (x1, .cells #[.int .i64 (w : Int)] 3 (0, 0)) :: X1 ∧ F = [(0, .func (.yield l) #[] #[]), (2, .pointer (some ⟨x1, 0, none⟩)), (7, .slice A n c), (8, .int .i64 (n : Int)), (9, .int .i64 (i : Int))]) (n) (F0 := [(0, _), (2, _), (7, _), (8, _), (9, _)]) ?_ (cs5 rfl rfl rfl rfl rfl) ?_
 ·
  exact ⟨0, X0, rfl, by omega, Le.refl _, by rw [Nat.zero_mul]; exact h0, rfl, rfl, rfl⟩
 rintro m _ _ M1 L1 ⟨i, X1, rfl, hi, hM1, hI, rfl, rfl, rfl⟩
 refine zr <| tl_y rfl (y_lss rfl rfl) <| zq <| x_seq <| x_cond rfl (fun hc1 => ?_) (fun hc1 => ?_)
 ·
  have hin : i < n := by omega
  obtain ⟨g, o, rfl, hcell⟩ := (hb.mono hM1).byte (by omega)
  obtain ⟨cc, hcc⟩ : ∃ cc, cc = bs.getD i 0 := ⟨_, rfl⟩
  have hc8 := cc.toNat_lt
  refine x_skip <| .then_normal <| x_seq <| x_block <| zr <| tl_y rfl (y_indexAddrK i rfl rfl (by omega)) <| tl_y rfl (y_load rfl rfl (.at_ (hcell _ i (by omega)) (by omega))) ?_
  rw [← hcc]
  refine asI rfl <| zq <| zr <| tLd rfl rfl <| tl_y rfl (y_subI rfl rfl (by omega)) <| asI rfl <| zq <| .s7 0 2 5 6 7 8 9 rfl rfl rfl rfl rfl rfl rfl <| x_block ?_
  refine x_loop (I := fun m' F D M2 L2 => ∃ (k : Nat) (X2 : Own), m' = dpb w - k ∧ k ≤ dpb w ∧ Le M M2 ∧ Inv (i * dpb w + k) M2 X2 ∧ D = [] ∧ L2 = (x0, .cells #[.slice (some ⟨g, o, none⟩) n c] 22 (0, 0)) :: (x1, .cells #[.int .i64 (w : Int)] 3 (0, 0)) :: X2 ∧ F = [(0, .func (.yield l) #[] #[]), (2, .pointer (some ⟨x1, 0, none⟩)), (5, .int .u8 (cc.toNat : Int)), (6, .int .i64 (8 - ((w * (k + 1) : Nat) : Int))), (7, .slice (some ⟨g, o, none⟩) n c), (8, .int .i64 (n : Int)), (9, .int .i64 (i : Int))]) (dpb w) (F0 := [(0, _), (2, _), (5, _), (6, _), (7, _), (8, _), (9, _)]) ?_ (cs7 rfl rfl rfl rfl rfl rfl rfl) ?_
  ·
   exact ⟨0, X1, rfl, by omega, hM1, hI, rfl, rfl, by rw [Nat.zero_add, Nat.mul_one]⟩
  rintro m _ _ M2 L2 ⟨k, X2, rfl, hk, hM2, hI2, rfl, rfl, rfl⟩
  have hwk : w * (k + 1) = w * k + w := Nat.mul_succ w k
  have hwk2 : w * (k + 1 + 1) = w * (k + 1) + w := Nat.mul_succ w (k + 1)
  refine zr2 <| mvI rfl <| tl_y rfl (y_geq rfl rfl) <| zq <| x_cond rfl (fun hc2 => ?_) (fun hc2 => ?_)
  ·
   have hkd : k < dpb w := by
    rcases Nat.lt_or_ge k (dpb w) with h | h
    ·
     exact h
    have := Nat.mul_le_mul_left w h
    omega
   have hwk8 : w * (k + 1) ≤ 8 := by
    have := Nat.mul_le_mul_left w (show k + 1 ≤ dpb w from hkd)
    omega
   have hm : i * dpb w + k < n * dpb w := by
    have := Nat.mul_le_mul_right (dpb w) (show i + 1 ≤ n from hin)
    rw [Nat.succ_mul] at this
    omega
   have hdg : digAt w bs (i * dpb w + k) = cc.toNat / 2 ^ (8 - w * (k + 1)) % 2 ^ w := by
    rw [digAt, dig, hcc, Nat.mul_comm i, Nat.mul_add_div (by omega), Nat.div_eq_of_lt hkd, Nat.add_zero, Nat.mul_add_mod, Nat.mod_eq_of_lt hkd]
   have hq : cc.toNat / 2 ^ (8 - w * (k + 1)) < 256 := Nat.lt_of_le_of_lt (Nat.div_le_self _ _) hc8
   have hfd : Int.fdiv (cc.toNat : Int) (2 ^ (min (8 - ((w * (k + 1) : Nat) : Int)).toNat IntKind.i64.bits)) = ((cc.toNat / 2 ^ (8 - w * (k + 1)) : Nat) : Int) := by
    rw [show (8 - ((w * (k + 1) : Nat) : Int)).toNat = 8 - w * (k + 1) by omega, Nat.min_eq_left (by show _ ≤ 64; omega), Int.fdiv_eq_ediv_of_nonneg _ (by exact Int.pow_nonneg (by decide))]
    rw [Int.natCast_ediv, Int.natCast_pow]; first | rfl | done
   refine x_skip <| .then_normal <| x_seq <| x_block <| x_seq <| x_draw0 11 ([(x1, .cells #[.int .i64 (w : Int)] 3 (0, 0))]) Keeps.mem hmix rfl <| pmF 0 rfl rfl <| pmI 1 rfl rfl <| zp 2 rfl rfl (y_convI rfl (by omega)) <| pmI 3 rfl rfl <| zp 4 rfl rfl (y_shr rfl rfl (by omega)) ?_
   rw [hfd]
   refine pLd 5 rfl rfl rfl <| zp 6 rfl rfl (y_shl rfl rfl (by omega)) ?_
   rw [hsh]
   refine zp 7 rfl rfl (y_subI rfl rfl (by omega)) <| zp 8 rfl rfl (y_and rfl rfl) ?_
   rw [and_w hw hq, ← hdg]
   refine ze 9 rfl rfl <| e_yieldB (R := [(x0, .cells #[.slice (some ⟨g, o, none⟩) n c] 22 (0, 0)), (x1, .cells #[.int .i64 (w : Int)] 3 (0, 0))]) (X := X2) rfl rfl (hy (i * dpb w + k) M2 X2 hm hM2 hI2) <| fun b M3 X3 hM3 hbb => ?_
   simp only [List.cons_append, List.nil_append]
   refine kp ?_
   refine zp 10 rfl rfl (y_not rfl) <| zz <| .then_normal <| .s8 0 2 5 6 7 8 9 30 rfl rfl rfl rfl rfl rfl rfl rfl <| x_condb rfl (fun hc3 => ?_) (fun hc3 => ?_)
   ·
    refine x_ret (.block_ret (.then_ret (.loop_ret (.block_ret (.block_ret (.then_ret (.loop_ret (.block_ret (ret0 rfl (hM2.trans hM3) ⟨X3, rfl, by
     rcases hbb with ⟨rfl, _⟩ | ⟨_, hbb⟩
     ·
      simp at hc3
     exact .inr hbb⟩)))))))))
   refine x_skip <| .block_normal <| .then_normal <| x_region <| mvI rfl <| tLd rfl rfl <| tl_y rfl (y_subI rfl rfl (by omega)) ?_
   rw [show (8 - ((w * (k + 1) : Nat) : Int)) - (w : Int) = 8 - ((w * (k + 1 + 1) : Nat) : Int) by omega]
   refine asI rfl <| tl_nil <| .loop_next (m' := dpb w - (k + 1)) (by omega) (F' := [(0, _), (2, _), (5, _), (6, _), (7, _), (8, _), (9, _)]) (cs7 rfl rfl rfl rfl rfl rfl rfl) ?_
   exact ⟨k + 1, X3, rfl, by omega, hM2.trans hM3, by
    rcases hbb with ⟨_, hbb⟩ | ⟨rfl, hbb⟩
    ·
     exact hbb
    simp at hc3, rfl, rfl, rfl⟩
  have hke : k = dpb w := by
   rcases Nat.lt_or_ge k (dpb w) with h | h
   ·
    have := Nat.mul_le_mul_left w (show k + 1 ≤ dpb w from h)
    omega
   omega
  refine x_exit <| .then_exit <| .loop_exit <| .block_exit <| .block_normal <| .then_normal <| .s5 0 2 7 8 9 rfl rfl rfl rfl rfl <| x_region <| tl_y rfl (y_addI rfl rfl (by omega)) <| mvI rfl <| tl_nil <| .loop_next (m' := n - (i + 1)) (by omega) (F' := [(0, _), (2, _), (7, _), (8, _), (9, _)]) (cs5 rfl rfl rfl rfl rfl) ?_
  exact ⟨i + 1, X2, rfl, by omega, hM2, by rw [Nat.succ_mul, ← hke]; rw [← hke] at hI2; exact hI2, rfl, rfl, rfl⟩
 refine x_exit (.then_exit (.loop_exit (.block_exit (end0 rfl hM1 ⟨X1, rfl, .inl (by
  obtain rfl : i = n := by omega
  exact hI)⟩))))
end
def intsL (xs : List Nat) : List Value := xs.map fun (x : Nat) => Value.int .i64 (x : Int)
theorem intsL_one (xs : List Nat) : (intsL xs).all one = true := by simp [intsL, one, Value.oneCell']
theorem intsL_one' (xs : List Nat) (i j : Nat) : (((intsL xs).drop i).take j).all one = true := by
 rw [List.all_eq_true]
 intro v hv
 exact List.all_eq_true.1 (intsL_one xs) v (List.mem_of_mem_drop (List.mem_of_mem_take hv))
theorem allD_vals (n w v : Nat) (bs : List UInt8) (h : v = shV n w) : intsL (digs w bs (n * dpb w)) ++ ((intsL (digs w (two (lackX n w bs)) (2 * dpb w))).drop (0 * 1)).take ((v - 0) * 1) = intsL (allD n w bs) := by
 rw [allD, Nat.zero_mul, List.drop_zero, Nat.sub_zero, Nat.mul_one, h, intsL, intsL, intsL, List.map_append, List.map_take]
theorem dpb_le {w : Nat} (h : isW w) (n : Nat) (hn : n ≤ 1000000000) : n * dpb w ≤ 8000000000 := by
 have h1 : dpb w ≤ 8 := by rcases h with rfl | rfl | rfl | rfl <;> decide
 exact Nat.le_trans (Nat.mul_le_mul hn h1) (by decide)
theorem two_putB {x : Nat} (h : x < 65536) : putB x 2 = two x := by
 have h1 : putB x 2 = [UInt8.ofNat (x / 256 % 256), UInt8.ofNat (x % 256)] := rfl
 rw [h1, two, Nat.mod_eq_of_lt (show x / 256 < 256 by omega)]
section
variable {G : World} {M : Mem} {L : Own}
theorem Of_spec {A : Option Addr} {n c w : Nat} (hw : isW w) {bs : List UInt8} (hb : Bytes M A n c bs) (hn : n ≤ 1000000000) :
  Con Tryz.prog 269 #[.slice A n c, .int .i64 (w : Int)] G M L (fun v M' L' => ∃ A' c' E, v = .slice A' (n * dpb w) c' ∧ OwnRow 3 1 A' (n * dpb w) c' (intsL (digs w bs (n * dpb w))) E ∧ L' = E ++ L) noPanic := by
 obtain ⟨hd1, hd8⟩ := dpb_pos hw
 have hnd := dpb_le hw n hn
 refine enterM (args := [_, _]) (fn := Tryz.f269) ⟨Tryz.func269, rfl, by kernel_rfl, by kernel_rfl⟩ 19 rfl <| zr <| as0 rfl <| zq <| zr2 <| mvI rfl <| zca rfl (dMay_spec _) ?_
 rintro _ M1 _ hM1 ⟨rfl, rfl⟩
 rw [isW_mem hw]
 refine tl_y rfl (y_not rfl) <| zq <| x_false rfl (rfl) <| x_skip <| .then_normal <| .s2 0 1 rfl rfl <| zr <| tl_e rfl <| e_alloc <| fun b1 => zq <| zr2 <| mvS rfl <| mvI rfl <| zca rfl (each_spec _) ?_
 rintro _ _ _ _ ⟨rfl, x0, x1, rfl, rfl⟩
 refine zq <| .s2 5 12 rfl rfl <| x_block <| x_rangeN rfl rfl <| fun l r0 fn tm lps las lbd hps has hbd htm => ?_
 obtain ⟨xs, hxs⟩ : ∃ xs : LoopState → Option Code → Option Addr → Nat → Nat → Own → Own, ∀ st pd A k c E, xs st pd A k c E = lrec l st pd fn tm lps las lbd r0 :: (r0, .deferred (some [])) :: (b1, .cells #[.slice A k c] 68 (0, 0)) :: (E ++ L) := ⟨_, fun _ _ _ _ _ _ => rfl⟩
 refine Con.postD (Con.to ((x0, .cells #[.slice A n c] 22 (0, 0)) :: (x1, .cells #[.int .i64 (w : Int)] 3 (0, 0)) :: xs .ready none none 0 0 []) (by rw [hxs, List.nil_append]; infer_instance) (each1_spec hw (hb.mono hM1) (by omega) (Inv := fun k M2 X2 => ∃ (A6 : Option Addr) (c6 : Nat) (E6 : Own), Le M1 M2 ∧ OwnRow 3 1 A6 k c6 (intsL (digs w bs k)) E6 ∧ X2 = xs .ready none A6 k c6 E6) (Dn := fun _ _ => False) ?_ ⟨none, 0, [], Le.refl _, .nil, rfl⟩)) ?_
 ·
  rintro k M2 X2 hk2 hM2 ⟨A6, c6, E6, hM12, hE6, rfl⟩
  rw [hxs]
  subst hps
  subst has
  subst hbd
  refine ycon_body htm rfl (by kernel_rfl) <| fun R1 => ?_
  simp only [List.cons_append, List.append_assoc]
  refine x_region <| asI rfl <| tl_nil <| .asg (by kernel_rfl) <| x_block <| x_region <| tLd rfl rfl <| mvI rfl <| tl_e rfl <| e_buildSlice rfl (by decide) <| fun b7 => .pub b7 iI <| fun M5 hM5 hb7 => .bringE E6 iI <| tl_e rfl <| e_append (by decide) rfl rfl hE6 (.row (Row.whole (s := 1) hb7 rfl (by omega))) rfl (by omega) (by omega) <| fun A9 c9 E9 hE9 => ?_
  rw [show intsL (digs w bs k) ++ [Value.int .i64 ((digAt w bs k : Nat) : Int)] = intsL (digs w bs (k + 1)) by rw [digs_succ, intsL, intsL, List.map_append]; rfl] at hE9
  refine tl_e rfl <| e_sT rfl rfl <| tl_nil (.block_normal (.on ((r0, .deferred (some [])) :: (b1, .cells #[.slice A9 (k + 1) c9] 68 (0, 0)) :: (E9 ++ (L ++ R1))) iI iI (X := (r0, .deferred (some [])) :: (b1, .cells #[.slice A9 (k + 1) c9] 68 (0, 0)) :: (E9 ++ L)) (by simp) hM5 ⟨A9, c9, E9, hM12.trans hM5, hE9, (hxs _ _ _ _ _ _).symm⟩))
 rintro v M3 L3 hM3 ⟨X', rfl, hX⟩
 rcases hX with ⟨A6, c6, E6, hM13, hE6, rfl⟩ | hX
 ·
  refine ⟨lrec l .ready none fn tm lps las lbd r0 :: (r0, .deferred (some [])) :: (b1, .cells #[.slice A6 (n * dpb w) c6] 68 (0, 0)) :: (E6 ++ L), by rw [hxs]; infer_instance, .ready, none, _, by simp, rfl, ?_⟩
  refine .block_normal <| .then_normal <| .s1 5 rfl <| zr <| tLd rfl rfl <| asS rfl <| zq <| x_ret (.retM1 (r := r0) (L1 := E6 ++ L) iI (rv1 rfl (rc_tmp (by rfl))) iI (hM1.trans hM13) ⟨A6, c6, E6, rfl, hE6, rfl⟩)
 exact hX.elim
theorem Lack_spec {A : Option Addr} {n c w : Nat} (hw : isW w) {bs : List UInt8} (hb : Bytes M A n c bs) (hn : n ≤ 1000000000) :
  Con Tryz.prog 270 #[.slice A n c, .int .i64 (w : Int)] G M L (fun v M' L' => L = L' ∧ v = .int .i64 ((lackN w bs (n * dpb w) : Nat) : Int)) noPanic := by
 obtain ⟨hd1, hd8⟩ := dpb_pos hw
 have hnd := dpb_le hw n hn
 have hsh := shl1_w hw
 have h2w : 2 ≤ 2 ^ w ∧ 2 ^ w ≤ 256 := pw2_w hw
 refine enterM (args := [_, _]) (fn := Tryz.f270) ⟨Tryz.func270, rfl, by kernel_rfl, by kernel_rfl⟩ 22 rfl <| zr <| tl_e rfl <| e_box rfl <| fun b1 => as0 rfl <| zq <| zr2 <| tLd rfl rfl <| zca rfl (dMay_spec _) ?_
 rintro _ M1 _ hM1 ⟨rfl, rfl⟩
 rw [isW_mem hw]
 refine tl_y rfl (y_not rfl) <| zq <| .s3 0 3 9 rfl rfl rfl <| x_false rfl (rfl) <| x_skip <| .then_normal <| zr <| tl_e rfl <| e_alloc <| fun b2 => tl_e rfl <| e_sT rfl rfl <| zq <| zr2 <| mvS rfl <| tLd rfl rfl <| zca rfl (each_spec _) ?_
 rintro _ _ _ _ ⟨rfl, x0, x1, rfl, rfl⟩
 refine zq <| .s3 3 5 12 rfl rfl rfl <| x_block <| x_rangeN rfl rfl <| fun l r0 fn tm lps las lbd hps has hbd htm => ?_
 obtain ⟨xs, hxs⟩ : ∃ xs : LoopState → Option Code → Nat → Own, ∀ st pd k, xs st pd k = lrec l st pd fn tm lps las lbd r0 :: (r0, .deferred (some [])) :: (b2, .cells #[.int .i64 ((lackN w bs k : Nat) : Int)] 3 (0, 0)) :: (b1, .cells #[.int .i64 (w : Int)] 3 (0, 0)) :: L := ⟨_, fun _ _ _ => rfl⟩
 refine Con.postD (Con.to ((x0, .cells #[.slice A n c] 22 (0, 0)) :: (x1, .cells #[.int .i64 (w : Int)] 3 (0, 0)) :: xs .ready none 0) (by rw [hxs, show ((lackN w bs 0 : Nat) : Int) = 0 by simp [lackN, digs]]; infer_instance) (each1_spec hw (hb.mono hM1) (by omega) (Inv := fun k M2 X2 => M1 = M2 ∧ xs .ready none k = X2) (Dn := fun _ _ => False) ?_ ⟨rfl, rfl⟩)) ?_
 ·
  rintro k _ _ hk2 hM2 ⟨rfl, rfl⟩
  rw [hxs]
  have hlk := lackN_le w bs k
  have hlk2 : k * (2 ^ w - 1) ≤ 8000000000 * 255 := Nat.mul_le_mul (by omega) (by omega)
  have hdl := digAt_lt w bs k
  have hls := lackN_succ w bs k
  subst hps
  subst has
  subst hbd
  refine ycon_body htm rfl (by kernel_rfl) <| fun R1 => ?_
  simp only [List.cons_append, List.append_assoc]
  refine x_region <| asI rfl <| .bring l iI <| tl_nil <| .asg (by kernel_rfl) <| x_block <| x_draw 7 hmix rfl <| pLd 0 rfl rfl rfl <| pLd 1 rfl rfl rfl <| zp 2 rfl rfl (y_shl rfl rfl (by omega)) ?_
  rw [hsh]
  refine zp 3 rfl rfl (y_subI rfl rfl (by omega)) <| pmI 4 rfl rfl <| zp 5 rfl rfl (y_subI rfl rfl (by omega)) <| zp 6 rfl rfl (y_addI rfl rfl (by omega)) ?_
  rw [show ((lackN w bs k : Nat) : Int) + (((2 ^ w : Nat) : Int) - 1 - ((digAt w bs k : Nat) : Int)) = ((lackN w bs (k + 1) : Nat) : Int) by omega]
  refine zt 7 rfl rfl <| e_sT rfl rfl <| zz (.block_normal (.on ((r0, .deferred (some [])) :: (b2, .cells #[.int .i64 ((lackN w bs (k + 1) : Nat) : Int)] 3 (0, 0)) :: (b1, .cells #[.int .i64 (w : Int)] 3 (0, 0)) :: (L ++ R1)) iI iI (X := (r0, .deferred (some [])) :: (b2, .cells #[.int .i64 ((lackN w bs (k + 1) : Nat) : Int)] 3 (0, 0)) :: (b1, .cells #[.int .i64 (w : Int)] 3 (0, 0)) :: L) (by simp) lR ⟨rfl, hxs _ _ _⟩))
 rintro v M3 L3 hM3 ⟨X', rfl, hX⟩
 rcases hX with ⟨rfl, rfl⟩ | hX
 ·
  refine ⟨lrec l .ready none fn tm lps las lbd r0 :: (r0, .deferred (some [])) :: (b2, .cells #[.int .i64 ((lackN w bs (n * dpb w) : Nat) : Int)] 3 (0, 0)) :: (b1, .cells #[.int .i64 (w : Int)] 3 (0, 0)) :: L, by rw [hxs]; infer_instance, .ready, none, _, by simp, rfl, ?_⟩
  refine .block_normal <| .then_normal <| .s1 5 rfl <| zr <| tLd rfl rfl <| asI rfl <| zq <| x_ret (.retM1 (r := r0) (L1 := L) iI (rv1 rfl (rc_tmp (by rfl))) iI hM1 ⟨rfl, rfl⟩)
 exact hX.elim
theorem All7_spec {A : Option Addr} {n c w : Nat} (hN : isN n) (hw : isW w) {bs : List UInt8} (hb : Bytes M A n c bs) :
  Con Tryz.prog 244 #[.slice A n c, .int .i64 (w : Int)] G M L (fun v M' L' => L = L' ∧ ∃ A' c', v = .slice A' (shU n w + shV n w) c' ∧ Row M' 1 A' (shU n w + shV n w) c' (intsL (allD n w bs))) noPanic := by
 obtain ⟨h1, h2, h3, h4, h5, h6, h7, h8, h9, h10⟩ := shape_fact hN hw
 obtain ⟨k1, k2, k3, k4⟩ := lack_fits hN hw
 have hnb : n ≤ 32 := by rcases hN with rfl | rfl <;> omega
 have hlx := lackX_lt hN hw bs
 have hll := lackN_le w bs (n * dpb w)
 refine zfn Tryz.func244 rfl 36 rfl <| zr <| as0 rfl <| zq <| zr <| mvS rfl <| tLen rfl <| mvI rfl <| zca rfl (Shape_spec hN hw) ?_
 rintro _ M1 _ hM1 ⟨rfl, rfl⟩
 refine mvU rfl <| zx rfl <| zx rfl <| zx rfl <| asI rfl <| asI rfl <| asI rfl <| zq <| .s5 0 1 5 6 7 rfl rfl rfl rfl rfl <| zr2 <| mvI rfl <| tl_y rfl (y_eql rfl rfl) <| zq <| x_false rfl (decide_eq_false (by omega)) <| x_skip <| .then_normal <| zr <| mvS rfl <| mvI rfl ?_
 refine zca rfl (Lack_spec hw (hb.mono hM1) (by omega)) ?_
 rintro _ M2 _ hM2 ⟨rfl, rfl⟩
 obtain ⟨y, hy⟩ : ∃ y : UInt64, y.toNat = lackN w bs (n * dpb w) := ⟨UInt64.ofNat (lackN w bs (n * dpb w)), by
  rw [UInt64.toNat_ofNat', Nat.mod_eq_of_lt]
  rw [← k2] at hll; omega⟩
 have hyx : (shl64 y (shS n w)).toNat = lackX n w bs := by
  rw [shl64, UInt64.toNat_ofNat', hy, ← lackX, Nat.mod_eq_of_lt (by omega)]
 refine tl_y rfl (y_convE (b := ((y.toNat : Nat) : Int)) rfl (by rw [hy, wrapU64, ← k2] at *; omega)) <| mvI rfl <| tl_y rfl (y_shl64 rfl rfl) <| zca rfl (Put_spec (shl64 y (shS n w)) 2) ?_
 rintro _ M3 _ hM3 ⟨rfl, hp⟩
 rw [if_pos (by omega)] at hp
 obtain ⟨A3, c3, rfl, hA3⟩ := hp
 rw [show (2 : Int).toNat = 2 from rfl, hyx, two_putB hlx] at hA3
 refine mvI rfl <| zca rfl (Of_spec hw (n := 2) hA3 (by omega)) ?_
 rintro _ M4 _ hM4 ⟨A4, c4, E4, rfl, hE4, rfl⟩
 refine .pubRow hE4 <| fun M5 hM5 hr5 => ?_
 have hd := hM1.trans (hM2.trans (hM3.trans (hM4.trans hM5)))
 have hc4 := hr5.le
 refine asS rfl <| zq <| .s4 0 1 6 8 rfl rfl rfl rfl <| x_seq ?_
 have he : Le M5 M5 := Le.refl _
 refine x_draw 7 hmix rfl <| pmS 0 rfl rfl <| pmI 1 rfl rfl <| pmS 3 rfl rfl <| pmI 4 rfl rfl <| pmI 5 rfl rfl <| zp 6 rfl rfl (y_slice3 rfl rfl rfl (by omega) (by omega)) ?_
 refine ze 2 rfl rfl <| e_call' rfl (Of_spec hw (hb.mono hd) (by omega)) ?_
 rintro _ M6 _ hM6 ⟨A6, c6, E6, rfl, hE6, rfl⟩
 refine kp ?_
 refine zt 7 rfl rfl <| e_append (by decide) rfl rfl hE6 (.row (Row.slice (l := 0) (h := shV n w) (m := shV n w) (hr5.mono hM6) (by omega) (by omega) (by omega) (by omega))) (intsL_one' _ _ _) (by omega) (by omega) <| fun A9 c9 E9 hE9 => ?_
 rw [allD_vals n w _ bs rfl] at hE9
 refine .pubRow hE9 <| fun M7 hM7 hr7 => paS 8 rfl rfl <| zz <| .then_normal <| .s1 4 rfl <| x_ret (ret1 rfl rfl (hd.trans (hM6.trans hM7)) ⟨rfl, A9, c9, by rw [k4]; rfl, by rw [k4]; exact hr7⟩)
end
def okO (o : OtsV) : Prop := otsE o.code = 0 ∧ otsV o.code = o
instance {o : OtsV} : Decidable (okO o) := inferInstanceAs (Decidable (_ ∧ _))
def okY (o : OtsV) (nl sl : Nat) : Prop := okO o ∧ nl = 16 ∧ (sl : Int) = o.n
instance {o : OtsV} {nl sl : Nat} : Decidable (okY o nl sl) := inferInstanceAs (Decidable (_ ∧ _))
structure OF (o : OtsV) (n w p : Nat) : Prop where
 ok : okO o
 c : okC o.kind o.n
 hn : o.n = (n : Int)
 hw : o.w = (w : Int)
 hp : o.p = (p : Int)
 isn : isN n
 isw : isW w
 up : p = shU n w + shV n w
 p1 : 26 ≤ p
 p2 : p ≤ 265
theorem okO_facts {o : OtsV} (h : okO o) : ∃ n w p, OF o n w p := by
 obtain ⟨k, hk, e1, e2, _⟩ := otsE_some h.1
 have h2 := h.2
 rw [e2] at h2
 obtain ⟨h3, h4, h5, w, hw, hw2⟩ := otsT_facts hk
 rw [h2] at h3 h4 h5
 refine ⟨szN (k / 4), 2 ^ (k % 4), shU (szN (k / 4)) (2 ^ (k % 4)) + shV (szN (k / 4)) (2 ^ (k % 4)), h, h3, by rw [← h2]; rfl, by rw [← h2]; rfl, by rw [← h2]; rfl, szN_is _, w_is _, rfl, ?_, ?_⟩
 ·
  have : o.p = ((shU (szN (k / 4)) (2 ^ (k % 4)) + shV (szN (k / 4)) (2 ^ (k % 4)) : Nat) : Int) := by rw [← h2]; rfl
  omega
 have : o.p = ((shU (szN (k / 4)) (2 ^ (k % 4)) + shV (szN (k / 4)) (2 ^ (k % 4)) : Nat) : Int) := by rw [← h2]; rfl
 omega
theorem OF.n32 {o : OtsV} {n w p : Nat} (h : OF o n w p) : 24 ≤ n ∧ n ≤ 32 := by rcases h.isn with rfl | rfl <;> omega
theorem OF.w2 {o : OtsV} {n w p : Nat} (h : OF o n w p) : 2 ≤ pw2 w ∧ pw2 w ≤ 256 := pw2_w h.isw
def hidB (o : OtsV) (name sec : List UInt8) (q d : Nat) : List UInt8 := cSum o.kind o.n (name ++ (putB q 4 ++ (putB d 2 ++ (255 :: sec))))
def topN (o : OtsV) : Int := ((pw2 o.w.toNat : Nat) : Int) - 1
def catR (rows : Nat → List UInt8) (k : Nat) : List UInt8 := ((List.range k).map rows).flatten
theorem catR_zero (rows : Nat → List UInt8) : catR rows 0 = [] := rfl
theorem catR_succ (rows : Nat → List UInt8) (k : Nat) : catR rows (k + 1) = catR rows k ++ rows k := by
 rw [catR, List.range_succ, List.map_append, List.flatten_append]; simp [catR]
theorem catR_le {rows : Nat → List UInt8} (h : ∀ i, (rows i).length ≤ 32) : ∀ k, (catR rows k).length ≤ k * 32
 | 0 => by rw [catR_zero]; exact Nat.zero_le _
 | k + 1 => by
  rw [catR_succ, List.length_append]
  have := catR_le h k
  have := h k
  omega
theorem catR_len {rows : Nat → List UInt8} {n : Nat} (k : Nat) (h : ∀ i, i < k → (rows i).length = n) : (catR rows k).length = k * n := by
 induction k with
 | zero => rw [catR_zero]; simp
 | succ k ih =>
  rw [catR_succ, List.length_append, ih (fun i hi => h i (by omega)), h k (by omega), Nat.succ_mul]
theorem catR_congr {r1 r2 : Nat → List UInt8} (k : Nat) (h : ∀ i, i < k → r1 i = r2 i) : catR r1 k = catR r2 k := by
 induction k with
 | zero => rfl
 | succ k ih => rw [catR_succ, catR_succ, ih (fun i hi => h i (by omega)), h k (by omega)]
theorem catR_row {rows : Nat → List UInt8} {n k : Nat} (h : ∀ i, i < k → (rows i).length = n) {i : Nat} (hi : i < k) : ((catR rows k).drop (i * n)).take n = rows i := by
 induction k with
 | zero => omega
 | succ k ih =>
  have hl := catR_len (rows := rows) (n := n) k (fun j hj => h j (by omega))
  rw [catR_succ]
  by_cases hik : i = k
  ·
   subst hik
   rw [← hl, List.drop_left, List.take_of_length_le (by rw [h i (by omega)]; exact Nat.le_refl _)]
  have hlt : i < k := by omega
  have h1 : i * n + n ≤ k * n := by
   have := Nat.mul_le_mul_right n (show i + 1 ≤ k from hlt)
   rwa [Nat.succ_mul] at this
  rw [List.drop_append_of_le_length (by omega), List.take_append_of_le_length (by rw [List.length_drop]; omega)]
  exact ih (fun j hj => h j (by omega)) hlt
theorem csumC_le (kind n : Int) (h : okC kind n) (text : List UInt8) : (csum kind n text).length ≤ 32 := by
 rw [csum_length h _ (sha_length _)]
 rcases h.2 with h | h <;> rw [h] <;> decide
theorem hidB_le (o : OtsV) (name sec : List UInt8) (q d : Nat) : (hidB o name sec q d).length ≤ 32 := by
 unfold hidB cSum
 split
 ·
  rename_i h; exact csumC_le _ _ h _
 simp
theorem hidB_len {o : OtsV} {n w p : Nat} (h : OF o n w p) (name sec : List UInt8) (q d : Nat) : (hidB o name sec q d).length = n := by
 rw [hidB, cSum, if_pos h.c, csum_length h.c _ (sha_length _), h.hn, Int.toNat_natCast]
theorem cPartO_le (kind n : Int) (name : List UInt8) (q d : Nat) (text : List UInt8) : (cPart kind n name q d text).length ≤ 32 := by
 unfold cPart
 split
 ·
  unfold cSum
  split
  ·
   rename_i h; exact csumC_le _ _ h _
  simp
 simp
theorem cPartO_len {o : OtsV} {n w p : Nat} (h : OF o n w p) {name : List UInt8} (hn : name.length = 16) (q d : Nat) (text : List UInt8) : (cPart o.kind o.n name q d text).length = n := by
 rw [cPart, if_pos hn, cSum, if_pos h.c, csum_length h.c _ (sha_length _), h.hn, Int.toNat_natCast]
theorem cUp_le (o : OtsV) (name : List UInt8) (q : Nat) (i f t : Int) (x : List UInt8) (hx : x.length ≤ 32) : (cUp o name q i f t x).length ≤ 32 := by
 unfold cUp
 split
 ·
  rename_i h
  have hc := (okR_facts h.1).1
  have := upC_length hc sha_length name q i.toNat f.toNat (x := x) (h.1.2.2.2.2.2) (t - f).toNat
  have hx2 := h.1.2.2.2.2.2
  omega
 simp
def keyR (o : OtsV) (name sec : List UInt8) (q i : Nat) : List UInt8 := cUp o name q (i : Int) 0 (topN o) (hidB o name sec q i)
def keyB (o : OtsV) (name sec : List UInt8) (q : Nat) : List UInt8 := cPart o.kind o.n name q 32896 (catR (keyR o name sec q) o.p.toNat)
def digO (o : OtsV) (name : List UInt8) (q : Nat) (salt text : List UInt8) : List Nat := allD o.n.toNat o.w.toNat (cPart o.kind o.n name q 33153 (salt ++ text))
def saltB (o : OtsV) (name sec : List UInt8) (q : Nat) : List UInt8 := hidB o name sec q 65533
def sigR (o : OtsV) (name sec : List UInt8) (q : Nat) (d : List Nat) (i : Nat) : List UInt8 := cUp o name q (i : Int) 0 ((d.getD i 0 : Nat) : Int) (hidB o name sec q i)
def sigB (o : OtsV) (name sec : List UInt8) (q : Nat) (text : List UInt8) : List UInt8 := putB o.code.toNat 4 ++ (saltB o name sec q ++ catR (sigR o name sec q (digO o name q (saltB o name sec q) text)) o.p.toNat)
def staR (o : OtsV) (name : List UInt8) (q : Nat) (d : List Nat) (y : List UInt8) (i : Nat) : List UInt8 := cUp o name q (i : Int) ((d.getD i 0 : Nat) : Int) (topN o) ((y.drop (i * o.n.toNat)).take o.n.toNat)
def staB (o : OtsV) (name : List UInt8) (q : Nat) (text sig : List UInt8) : List UInt8 :=
 cPart o.kind o.n name q 32896 (catR (staR o name q (digO o name q ((sig.drop 4).take o.n.toNat) text) (sig.drop (4 + o.n.toNat))) o.p.toNat)
def sizeN (o : OtsV) : Nat := 4 + o.n.toNat * (o.p.toNat + 1)
theorem keyR_le (o : OtsV) (name sec : List UInt8) (q i : Nat) : (keyR o name sec q i).length ≤ 32 := cUp_le _ _ _ _ _ _ _ (hidB_le _ _ _ _ _)
theorem sigR_le (o : OtsV) (name sec : List UInt8) (q : Nat) (d : List Nat) (i : Nat) : (sigR o name sec q d i).length ≤ 32 := cUp_le _ _ _ _ _ _ _ (hidB_le _ _ _ _ _)
theorem staR_le {o : OtsV} {n w p : Nat} (h : OF o n w p) (name : List UInt8) (q : Nat) (d : List Nat) (y : List UInt8) (i : Nat) : (staR o name q d y i).length ≤ 32 := by
 refine cUp_le _ _ _ _ _ _ _ ?_
 have := h.n32
 rw [List.length_take, h.hn, Int.toNat_natCast]; omega
structure ChG (M : Mem) : Prop where
 sha : ShaG M
 kec : KecG M
 set : SetG M
theorem ChG.mono {M M' : Mem} (h : ChG M) (hle : Le M M') : ChG M' := ⟨h.sha.mono hle, h.kec.mono hle, h.set.mono hle⟩
section
variable {G : World} {M : Mem} {L : Own}
end
abbrev seedC (NA : Option Addr) (nl nc : Nat) (SA : Option Addr) (sl sc : Nat) : List Value := [.slice NA nl nc, .slice SA sl sc]
section
variable {G : World} {M : Mem} {L : Own} {NA SA : Option Addr} {nl nc sl sc : Nat} {name sec : List UInt8}
theorem oMay_spec (hs : SetG M) (o : OtsV) :
  Con Tryz.prog 100 #[.agg (List.toArray o.cells), .agg (List.toArray (seedC NA nl nc SA sl sc))] G M L (fun v M' L' => L = L' ∧ v = .bool (decide (okY o nl sl))) noPanic := by
 refine zfn Tryz.func100 rfl 34 rfl <| zr <| tl_e rfl <| e_box rfl <| fun b1 => tl_e rfl <| e_box rfl <| fun b2 => as0 rfl <| zq <| zr <| tFa rfl <| tLd rfl rfl <| zca rfl (Ots_spec hs o.code) ?_
 rintro _ M1 _ hM1 ⟨rfl, rfl⟩
 refine mvU rfl <| zx rfl <| zx rfl <| tl_e rfl <| e_alloc <| fun b3 => tl_e rfl <| e_sT rfl rfl <| asI rfl <| zq <| .s4 2 3 5 6 rfl rfl rfl rfl <| x_join (I := fun F D M2 L2 => ∃ b : Bool, (b = true ↔ okY o nl sl) ∧ D = [] ∧ M1 = M2 ∧ DropTo L2 L ∧ F = [(4, .bool b)]) ?_ (fun Jq2 => ?_)
 ·
  rintro _ _ _ L2 ⟨b, hb, rfl, rfl, hdr, rfl⟩
  refine x_ret (.dropTo L hdr (ret1 rfl rfl hM1 ⟨rfl, by rw [bool_iff hb]⟩))
 refine x_region <| mvI rfl <| tl_y rfl (y_eql rfl rfl) <| mvB rfl <| tl_cases (s := 15) rfl (fun hk1 => ?_) (fun hk1 => ?_)
 ·
  refine tLg rfl rfl <| tLg rfl rfl <| tl_y rfl (y_eqlS rfl rfl eqs103) <| tPt rfl rfl <| mvB rfl <| tl_cases (s := 20) rfl (fun hk2 => ?_) (fun hk2 => ?_)
  ·
   refine tFa rfl <| tLd rfl rfl <| tLen rfl <| tl_y rfl (y_eql rfl rfl) <| tPt rfl rfl <| mvB rfl <| tl_cases (s := 26) rfl (fun hk3 => ?_) (fun hk3 => ?_)
   ·
    refine tFa rfl <| tLd rfl rfl <| tLen rfl <| tFa rfl <| tLd rfl rfl <| tl_y rfl (y_eql rfl rfl) <| tPt rfl rfl <| asB rfl <| zq <| .sub (F' := [(4, _)]) (.cons rfl .nil) <| Jq2 _ _ _ _ ?_
    exact ⟨_, by
     constructor
     ·
      intro ht
      first | (cases ht; done) | (simp at ht; exact ⟨⟨hk1, ots_eq hk2⟩, by omega, by omega⟩)
     rintro ⟨⟨a1, a2⟩, a3, a4⟩
     first | exact absurd a1 hk1 | exact absurd (eq_ots a2) hk2 | (simp; omega) | omega, rfl, rfl, iI, rfl⟩
   refine sk6 rfl rfl rfl rfl rfl rfl <| tPf rfl rfl <| asB rfl <| zq <| .sub (F' := [(4, _)]) (.cons rfl .nil) <| Jq2 _ _ _ _ ?_
   exact ⟨_, by
    constructor
    ·
     intro ht
     first | (cases ht; done) | (simp at ht; exact ⟨⟨hk1, ots_eq hk2⟩, by omega, by omega⟩)
    rintro ⟨⟨a1, a2⟩, a3, a4⟩
    first | exact absurd a1 hk1 | exact absurd (eq_ots a2) hk2 | (simp; omega) | omega, rfl, rfl, iI, rfl⟩
  refine sk4 rfl rfl rfl rfl <| tPf rfl rfl <| mvB rfl <| sk6 rfl rfl rfl rfl rfl rfl <| tPf rfl rfl <| asB rfl <| zq <| .sub (F' := [(4, _)]) (.cons rfl .nil) <| Jq2 _ _ _ _ ?_
  exact ⟨_, by
   constructor
   ·
    intro ht
    first | (cases ht; done) | (simp at ht; exact ⟨⟨hk1, ots_eq hk2⟩, by omega, by omega⟩)
   rintro ⟨⟨a1, a2⟩, a3, a4⟩
   first | exact absurd a1 hk1 | exact absurd (eq_ots a2) hk2 | (simp; omega) | omega, rfl, rfl, iI, rfl⟩
 refine sk3 rfl rfl rfl <| tPf rfl rfl <| mvB rfl <| sk4 rfl rfl rfl rfl <| tPf rfl rfl <| mvB rfl <| sk6 rfl rfl rfl rfl rfl rfl <| tPf rfl rfl <| asB rfl <| zq <| .sub (F' := [(4, _)]) (.cons rfl .nil) <| Jq2 _ _ _ _ ?_
 exact ⟨_, by
  constructor
  ·
   intro ht
   first | (cases ht; done) | (simp at ht; exact ⟨⟨hk1, ots_eq hk2⟩, by omega, by omega⟩)
  rintro ⟨⟨a1, a2⟩, a3, a4⟩
  first | exact absurd a1 hk1 | exact absurd (eq_ots a2) hk2 | (simp; omega) | omega, rfl, rfl, iI, rfl⟩
theorem otop_spec (o : OtsV) {n w p : Nat} (ho : OF o n w p) :
  Con Tryz.prog 222 #[.agg (List.toArray o.cells)] G M L (fun v M' L' => M = M' ∧ L = L' ∧ v = .int .i64 (topN o)) noPanic := by
 have hsh := shl1_w ho.isw
 have hw2 := ho.w2
 have ht : topN o = ((2 ^ w : Nat) : Int) - 1 := by rw [topN, ho.hw, Int.toNat_natCast, pw2]
 rw [pw2] at hw2
 refine zfn Tryz.func222 rfl 7 rfl <| zr <| tl_e rfl <| e_box rfl <| fun b1 => as0 rfl <| zq <| zr <| tFa rfl <| tl_y rfl (y_load (v := .int .i64 (w : Int)) rfl rfl (by rw [← ho.hw]; exact .own iI iI)) <| tl_y rfl (y_shl rfl rfl (by omega)) ?_
 rw [hsh]
 refine tl_y rfl (y_subI rfl rfl (by omega)) <| asI rfl <| zq <| .s1 2 rfl <| x_ret (.dropTo L iI (ret1 rfl rfl lR ⟨rfl, rfl, by rw [ht]⟩))
theorem ohid_spec (hg : ChG M) (o : OtsV) (hname : Bytes M NA nl nc name) (hsec : Bytes M SA sl sc sec) (hnl : nl ≤ 1000000) (hsl : sl ≤ 1000000) (q : UInt32) (d : Nat) (hd : d ≤ 65535) :
  Con Tryz.prog 192 #[.agg (List.toArray o.cells), .agg (List.toArray (seedC NA nl nc SA sl sc)), .int .u32 (q.toNat : Int), .int .u16 (d : Int)] G M L (fun v M' L' => L = L' ∧ ∃ A m c, v = .slice A m c ∧ Bytes M' A m c (hidB o name sec q.toNat d)) noPanic := by
 have hn1 := hname.size
 have hn2 := hsec.size
 have hq := q.toNat_lt
 refine zfn Tryz.func192 rfl 26 rfl <| zr <| tl_e rfl <| e_box rfl <| fun b1 => tl_e rfl <| e_box rfl <| fun b2 => as0 rfl <| zq <| x_seq ?_
 have he : Le M M := Le.refl _
 refine x_draw 18 hmix rfl <| pFa 0 rfl rfl <| pLd 1 rfl rfl rfl <| pFa 2 rfl rfl <| pLd 3 rfl rfl rfl <| pFa 4 rfl rfl <| pLd 5 rfl rfl rfl <| pmI 6 rfl rfl <| zp 7 rfl rfl (y_convN64 rfl (by omega)) <| pmI 9 rfl rfl ?_
 refine zp 10 rfl rfl (y_convN64 rfl (by omega)) <| pFa 13 rfl rfl <| pLd 14 rfl rfl rfl <| to_two 8 12 (by kernel_rfl) ?_ ?_
 ·
  refine two_e 8 rfl rfl <| e_call' rfl (PutV_spec q.toNat 4 (by omega) (by omega)) ?_
  rintro _ M2 _ hM2 ⟨rfl, A2, c2, rfl, hA2⟩
  replace he := he.trans hM2
  refine kp ?_
  refine to_two 11 12 (by kernel_rfl) ?_ ?_
  ·
   refine two_e 11 rfl rfl <| e_call' rfl (PutV_spec d 2 (by omega) (by omega)) ?_
   rintro _ M3 _ hM3 ⟨rfl, A3, c3, rfl, hA3⟩
   replace he := he.trans hM3
   refine kp ?_
   refine ze 12 rfl rfl <| e_buildSlice rfl (by decide) <| fun b7 => ⟨⟨he, Keeps.mem⟩, ?_⟩
   refine .pub b7 iI <| fun M4 hM4 hb7 => ?_
   replace he := he.trans hM4
   refine ze 15 rfl rfl <| e_buildSlice rfl (by decide) <| fun b8 => ⟨⟨he, Keeps.mem⟩, ?_⟩
   refine .pub b8 iI <| fun M5 hM5 hb8 => ?_
   replace he := he.trans hM5
   have hA4 : Bytes M4 (some ⟨b7, 0, none⟩) 1 1 [255] := Row.whole hb7 rfl (by omega)
   have hA2' : Bytes M5 A2 4 c2 (putB q.toNat 4) := hA2.mono (by first | exact hM3.trans (hM4.trans hM5) | exact hM4.trans (hM3.trans hM5) | exact hM3.trans hM5)
   have hA3' : Bytes M5 A3 2 c3 (putB d 2) := hA3.mono (by first | exact hM4.trans hM5 | exact hM5 | exact hM2.trans (hM4.trans hM5) | exact hM2.trans hM5)
   have hA4' : Bytes M5 (some ⟨b7, 0, none⟩) 1 1 [255] := hA4.mono (by first | exact hM5 | exact hM3.trans hM5 | exact hM2.trans (hM3.trans hM5))
   have hfl : [name, putB q.toNat 4, putB d 2, [255], sec].flatten = name ++ (putB q.toNat 4 ++ (putB d 2 ++ (255 :: sec))) := by simp
   have hfll : (name ++ (putB q.toNat 4 ++ (putB d 2 ++ (255 :: sec)))).length = nl + 7 + sl := by rw [List.length_append, List.length_append, List.length_append, putB_length, putB_length, List.length_cons]; omega
   refine ze 16 rfl rfl <| e_call' rfl (Sum_spec (hg.sha.mono he) (hg.kec.mono he) o.kind o.n (Row.whole hb8 rfl (by omega)) (.cons (hname.mono he) (.cons hA2' (.cons hA3' (.cons hA4' (.cons (hsec.mono he) .nil))))) (by rw [hfl, hfll]; omega)) ?_
   rintro _ M6 _ hM6 ⟨rfl, A6, m6, c6, rfl, hA6⟩
   rw [hfl] at hA6
   replace he := he.trans hM6
   refine ⟨⟨he, Keeps.mem⟩, ?_⟩
   refine paS 17 rfl rfl <| zz <| .then_normal <| .s1 8 rfl <| x_ret (.dropTo L iI (ret1 rfl rfl he ⟨rfl, _, _, _, rfl, hA6⟩))
  refine two_e 12 rfl rfl <| e_buildSlice rfl (by decide) <| fun b7 => ⟨⟨he, Keeps.mem⟩, ?_⟩
  refine .pub b7 iI <| fun M4 hM4 hb7 => ?_
  replace he := he.trans hM4
  refine ze 11 rfl rfl <| e_call' rfl (PutV_spec d 2 (by omega) (by omega)) ?_
  rintro _ M3 _ hM3 ⟨rfl, A3, c3, rfl, hA3⟩
  replace he := he.trans hM3
  refine kp ?_
  refine ze 15 rfl rfl <| e_buildSlice rfl (by decide) <| fun b8 => ⟨⟨he, Keeps.mem⟩, ?_⟩
  refine .pub b8 iI <| fun M5 hM5 hb8 => ?_
  replace he := he.trans hM5
  have hA4 : Bytes M4 (some ⟨b7, 0, none⟩) 1 1 [255] := Row.whole hb7 rfl (by omega)
  have hA2' : Bytes M5 A2 4 c2 (putB q.toNat 4) := hA2.mono (by first | exact hM3.trans (hM4.trans hM5) | exact hM4.trans (hM3.trans hM5) | exact hM3.trans hM5)
  have hA3' : Bytes M5 A3 2 c3 (putB d 2) := hA3.mono (by first | exact hM4.trans hM5 | exact hM5 | exact hM2.trans (hM4.trans hM5) | exact hM2.trans hM5)
  have hA4' : Bytes M5 (some ⟨b7, 0, none⟩) 1 1 [255] := hA4.mono (by first | exact hM5 | exact hM3.trans hM5 | exact hM2.trans (hM3.trans hM5))
  have hfl : [name, putB q.toNat 4, putB d 2, [255], sec].flatten = name ++ (putB q.toNat 4 ++ (putB d 2 ++ (255 :: sec))) := by simp
  have hfll : (name ++ (putB q.toNat 4 ++ (putB d 2 ++ (255 :: sec)))).length = nl + 7 + sl := by rw [List.length_append, List.length_append, List.length_append, putB_length, putB_length, List.length_cons]; omega
  refine ze 16 rfl rfl <| e_call' rfl (Sum_spec (hg.sha.mono he) (hg.kec.mono he) o.kind o.n (Row.whole hb8 rfl (by omega)) (.cons (hname.mono he) (.cons hA2' (.cons hA3' (.cons hA4' (.cons (hsec.mono he) .nil))))) (by rw [hfl, hfll]; omega)) ?_
  rintro _ M6 _ hM6 ⟨rfl, A6, m6, c6, rfl, hA6⟩
  rw [hfl] at hA6
  replace he := he.trans hM6
  refine ⟨⟨he, Keeps.mem⟩, ?_⟩
  refine paS 17 rfl rfl <| zz <| .then_normal <| .s1 8 rfl <| x_ret (.dropTo L iI (ret1 rfl rfl he ⟨rfl, _, _, _, rfl, hA6⟩))
 refine two_e 12 rfl rfl <| e_buildSlice rfl (by decide) <| fun b7 => ⟨⟨he, Keeps.mem⟩, ?_⟩
 refine .pub b7 iI <| fun M4 hM4 hb7 => ?_
 replace he := he.trans hM4
 refine ze 8 rfl rfl <| e_call' rfl (PutV_spec q.toNat 4 (by omega) (by omega)) ?_
 rintro _ M2 _ hM2 ⟨rfl, A2, c2, rfl, hA2⟩
 replace he := he.trans hM2
 refine kp ?_
 refine ze 11 rfl rfl <| e_call' rfl (PutV_spec d 2 (by omega) (by omega)) ?_
 rintro _ M3 _ hM3 ⟨rfl, A3, c3, rfl, hA3⟩
 replace he := he.trans hM3
 refine kp ?_
 refine ze 15 rfl rfl <| e_buildSlice rfl (by decide) <| fun b8 => ⟨⟨he, Keeps.mem⟩, ?_⟩
 refine .pub b8 iI <| fun M5 hM5 hb8 => ?_
 replace he := he.trans hM5
 have hA4 : Bytes M4 (some ⟨b7, 0, none⟩) 1 1 [255] := Row.whole hb7 rfl (by omega)
 have hA2' : Bytes M5 A2 4 c2 (putB q.toNat 4) := hA2.mono (by first | exact hM3.trans (hM4.trans hM5) | exact hM4.trans (hM3.trans hM5) | exact hM3.trans hM5)
 have hA3' : Bytes M5 A3 2 c3 (putB d 2) := hA3.mono (by first | exact hM4.trans hM5 | exact hM5 | exact hM2.trans (hM4.trans hM5) | exact hM2.trans hM5)
 have hA4' : Bytes M5 (some ⟨b7, 0, none⟩) 1 1 [255] := hA4.mono (by first | exact hM5 | exact hM3.trans hM5 | exact hM2.trans (hM3.trans hM5))
 have hfl : [name, putB q.toNat 4, putB d 2, [255], sec].flatten = name ++ (putB q.toNat 4 ++ (putB d 2 ++ (255 :: sec))) := by simp
 have hfll : (name ++ (putB q.toNat 4 ++ (putB d 2 ++ (255 :: sec)))).length = nl + 7 + sl := by rw [List.length_append, List.length_append, List.length_append, putB_length, putB_length, List.length_cons]; omega
 refine ze 16 rfl rfl <| e_call' rfl (Sum_spec (hg.sha.mono he) (hg.kec.mono he) o.kind o.n (Row.whole hb8 rfl (by omega)) (.cons (hname.mono he) (.cons hA2' (.cons hA3' (.cons hA4' (.cons (hsec.mono he) .nil))))) (by rw [hfl, hfll]; omega)) ?_
 rintro _ M6 _ hM6 ⟨rfl, A6, m6, c6, rfl, hA6⟩
 rw [hfl] at hA6
 replace he := he.trans hM6
 refine ⟨⟨he, Keeps.mem⟩, ?_⟩
 refine paS 17 rfl rfl <| zz <| .then_normal <| .s1 8 rfl <| x_ret (.dropTo L iI (ret1 rfl rfl he ⟨rfl, _, _, _, rfl, hA6⟩))
end
section
variable {G : World} {M : Mem} {L : Own} {NA SA : Option Addr} {nl nc sl sc : Nat} {name sec : List UInt8}
theorem oSecret_spec (hg : ChG M) (o : OtsV) (hname : Bytes M NA nl nc name) (hsec : Bytes M SA sl sc sec) (q : UInt32) (d : Nat) (hd : d ≤ 65535) :
  Con Tryz.prog 147 #[.agg (List.toArray o.cells), .agg (List.toArray (seedC NA nl nc SA sl sc)), .int .u32 (q.toNat : Int), .int .u16 (d : Int)] G M L (fun v M' L' => L = L' ∧ ∃ A m c, v = .slice A m c ∧ Bytes M' A m c (if okY o nl sl then hidB o name sec q.toNat d else [])) noPanic := by
 refine zfn Tryz.func147 rfl 18 rfl <| zr <| tl_e rfl <| e_box rfl <| fun b1 => tl_e rfl <| e_box rfl <| fun b2 => as0 rfl <| zq <| zr2 <| tLg rfl rfl <| tLg rfl rfl <| zca rfl (oMay_spec hg.set o) ?_
 rintro _ M1 _ hM1 ⟨rfl, rfl⟩
 refine tl_y rfl (y_notd rfl) <| zq <| .s5 2 3 4 5 12 rfl rfl rfl rfl rfl <| x_cond rfl (fun hc1 => ?_) (fun hc1 => ?_)
 ·
  refine zr <| as0 rfl <| zq <| .s1 8 rfl <| x_ret (.then_ret (.dropTo L iI (ret1 rfl rfl hM1 ⟨rfl, _, _, _, rfl, by rw [if_neg hc1]; exact Row.nil _ _⟩)))
 have hok : okY o nl sl := Classical.not_not.1 hc1
 obtain ⟨n, w, p, ho⟩ := okO_facts hok.1
 have hn32 := ho.n32
 have hn := ho.hn
 have hsl := hok.2.2
 have hnl := hok.2.1
 refine x_skip <| .then_normal <| zr <| tLg rfl rfl <| tLg rfl rfl <| mvI rfl <| mvI rfl <| zca rfl (ohid_spec (hg.mono hM1) o (hname.mono hM1) (hsec.mono hM1) (by omega) (by omega) q d hd) ?_
 rintro _ M2 _ hM2 ⟨rfl, A2, m2, c2, rfl, hA2⟩
 refine asS rfl <| zq <| .s1 8 rfl <| x_ret (.dropTo L iI (ret1 rfl rfl (hM1.trans hM2) ⟨rfl, _, _, _, rfl, by rw [if_pos hok]; exact hA2⟩))
theorem oall_spec (o : OtsV) {p : Nat} (hp : o.p = (p : Int)) (hp5 : p ≤ 1000) {fid : FuncId} {cap : List Value} {rows : Nat → List UInt8} (hl : ∀ i, (rows i).length ≤ 32)
  (hdo : ∀ (i : Nat) (M1 : Mem) (X : Own), i < p → Le M M1 → (∀ e ∈ L, e ∈ X) → Con Tryz.prog fid (([] : List Value) ++ [Value.int .i64 (i : Int)] ++ cap).toArray G M1 X (fun v M' L' => X = L' ∧ ∃ A m c, v = .slice A m c ∧ Bytes M' A m c (rows i)) noPanic) :
  Con Tryz.prog 199 #[.agg (List.toArray o.cells), .func (.func fid) #[] cap.toArray] G M L (fun v M' L' => L = L' ∧ ∃ A m c, v = .slice A m c ∧ Bytes M' A m c (catR rows p)) noPanic := by
 refine zfn Tryz.func199 rfl 19 rfl <| zr <| tl_e rfl <| e_box rfl <| fun b1 => as0 rfl <| zq <| zr <| as0 rfl <| zq <| zr2 <| tFa rfl <| tl_y rfl (y_load (v := .int .i64 (p : Int)) rfl rfl (by rw [← hp]; exact .own iI iI)) <| mv0 rfl <| zq <| .s4 1 5 8 9 rfl rfl rfl rfl <| x_block ?_
 refine x_loop (I := fun m' F D M1 L1 => ∃ (i : Nat) (A : Option Addr) (m c : Nat) (E : Own), m' = p - i ∧ i ≤ p ∧ Le M M1 ∧ m = (catR rows i).length ∧ OwnRow 5 1 A m c ((catR rows i).map bv) E ∧ D = [] ∧ L1 = E ++ ((b1, .cells (List.toArray o.cells) 103 (0, 0)) :: L) ∧ F = [(1, .func (.func fid) #[] cap.toArray), (5, .slice A m c), (8, .int .i64 (p : Int)), (9, .int .i64 (i : Int))]) (p) (F0 := [(1, _), (5, _), (8, _), (9, _)]) ?_ (cs4 rfl rfl rfl rfl) ?_
 ·
  exact ⟨0, none, 0, 0, [], rfl, by omega, Le.refl _, rfl, .nil, rfl, rfl, rfl⟩
 rintro m _ _ M1 _ ⟨i, A, m, c, E, rfl, hi, hM1, hm, hE, rfl, rfl, rfl⟩
 refine zr <| tl_y rfl (y_lss rfl rfl) <| zq <| x_seq <| x_cond rfl (fun hc1 => ?_) (fun hc1 => ?_)
 ·
  have hip : i < p := by omega
  have hle := catR_le hl i
  have hli := hl i
  refine x_skip <| .then_normal <| x_seq <| x_block <| zr <| mvI rfl <| asI rfl <| zq <| x_region <| mvS rfl <| mvF rfl <| mvI rfl <| tl_e rfl <| e_callv rfl rfl (hdo i M1 _ hip hM1 Keeps.mem) (fun _ _ _ _ h => h.elim) ?_
  rintro _ M2 _ hM2 ⟨rfl, A2, m2, c2, rfl, hA2⟩
  have hm2 := hA2.size
  refine tl_e rfl <| e_append (by decide) rfl rfl hE (.row hA2) (all_one_bv _) (by omega) (by omega) <| fun A7 c7 E7 hE7 => ?_
  rw [← List.map_append, ← catR_succ] at hE7
  refine asS rfl <| tl_nil <| .block_normal <| .then_normal <| .s4 1 5 8 9 rfl rfl rfl rfl <| x_region <| tl_y rfl (y_addI rfl rfl (by omega)) <| mvI rfl <| tl_nil <| .loop_next (m' := p - (i + 1)) (by omega) (F' := [(1, _), (5, _), (8, _), (9, _)]) (cs4 rfl rfl rfl rfl) ?_
  exact ⟨i + 1, A7, m + m2, c7, E7, rfl, by omega, hM1.trans hM2, by rw [catR_succ, List.length_append]; omega, hE7, rfl, rfl, rfl⟩
 obtain rfl : i = p := by omega
 refine .pubRow hE <| fun M4 hM4 hrow => x_exit <| .then_exit <| .loop_exit <| .block_exit <| .then_normal <| .s1 5 rfl <| zr <| mvS rfl <| asS rfl <| zq <| x_ret (.dropTo L iI (ret1 rfl rfl (hM1.trans hM4) ⟨rfl, _, _, _, rfl, hrow⟩))
theorem oKey1_spec (hg : ChG M) (o : OtsV) {n w p : Nat} (ho : OF o n w p) (hname : Bytes M NA nl nc name) (hsec : Bytes M SA sl sc sec) (hnl : nl ≤ 1000000) (hsl : sl ≤ 1000000) (q : UInt32) (i : Nat) (hi : i ≤ 65535) {bo bs bq : Nat}
  [i1 : Has L bo (.cells (List.toArray o.cells) 103 (0, 0))] [i2 : Has L bs (.cells (List.toArray (seedC NA nl nc SA sl sc)) 33 (0, 0))] [i3 : Has L bq (.cells #[.int .u32 (q.toNat : Int)] 61 (0, 0))] :
  Con Tryz.prog 243 #[.int .i64 (i : Int), .pointer (some ⟨bo, 0, none⟩), .pointer (some ⟨bs, 0, none⟩), .pointer (some ⟨bq, 0, none⟩)] G M L (fun v M' L' => L = L' ∧ ∃ A m c, v = .slice A m c ∧ Bytes M' A m c (keyR o name sec q.toNat i)) noPanic := by
 refine zfn Tryz.func243 rfl 20 rfl <| zr <| as0 rfl <| zq <| x_seq ?_
 have he : Le M M := Le.refl _
 refine x_draw 15 hmix rfl <| zy 0 rfl rfl (y_lg rfl rfl) <| pFa 1 rfl rfl <| pLd 2 rfl rfl rfl <| pLd 3 rfl rfl rfl <| pmI 4 rfl rfl <| zy 5 rfl rfl (y_lg rfl rfl) <| zy 7 rfl rfl (y_lg rfl rfl) <| zy 8 rfl rfl (y_lg rfl rfl) <| pLd 9 rfl rfl rfl ?_
 refine pmI 10 rfl rfl <| zp 11 rfl rfl (y_convE (b := (i : Int)) rfl (by rw [wrapU16]; omega)) <| ze 6 rfl rfl <| e_call' rfl (otop_spec o ho) ?_
 rintro _ _ _ _ ⟨rfl, rfl, rfl⟩
 refine kp ?_
 refine ze 12 rfl rfl <| e_call' rfl (ohid_spec hg o hname hsec hnl hsl q i hi) ?_
 rintro _ M2 _ hM2 ⟨rfl, A2, m2, c2, rfl, hA2⟩
 replace he := he.trans hM2
 refine kp ?_
 refine ze 13 rfl rfl <| e_call' rfl (Up_spec' (hg.mono he).sha (hg.mono he).kec (hg.mono he).set o (hname.mono he) hA2 q i 0 (topN o)) ?_
 rintro _ M3 _ hM3 ⟨rfl, A3, m3, c3, rfl, hA3⟩
 replace he := he.trans hM3
 refine kp ?_
 refine paS 14 rfl rfl <| zz <| .then_normal <| .s1 5 rfl <| x_ret (ret1 rfl rfl he ⟨rfl, _, _, _, rfl, hA3⟩)
theorem oKey_spec (hg : ChG M) (o : OtsV) (hname : Bytes M NA nl nc name) (hsec : Bytes M SA sl sc sec) (q : UInt32) :
  Con Tryz.prog 197 #[.agg (List.toArray o.cells), .agg (List.toArray (seedC NA nl nc SA sl sc)), .int .u32 (q.toNat : Int)] G M L (fun v M' L' => L = L' ∧ ∃ A m c, v = .slice A m c ∧ Bytes M' A m c (if okY o nl sl then keyB o name sec q.toNat else [])) noPanic := by
 refine zfn Tryz.func197 rfl 25 rfl <| zr <| tl_e rfl <| e_box rfl <| fun b1 => tl_e rfl <| e_box rfl <| fun b2 => tl_e rfl <| e_box rfl <| fun b3 => as0 rfl <| zq <| .s3 3 4 5 rfl rfl rfl <| zr2 <| tLg rfl rfl <| tLg rfl rfl <| zca rfl (oMay_spec hg.set o) ?_
 rintro _ M1 _ hM1 ⟨rfl, rfl⟩
 refine tl_y rfl (y_notd rfl) <| zq <| x_cond rfl (fun hc1 => ?_) (fun hc1 => ?_)
 ·
  refine zr <| as0 rfl <| zq <| .s1 6 rfl <| x_ret (.then_ret (.dropTo L iI (ret1 rfl rfl hM1 ⟨rfl, _, _, _, rfl, by rw [if_neg hc1]; exact Row.nil _ _⟩)))
 have hok : okY o nl sl := Classical.not_not.1 hc1
 obtain ⟨n, w, p, ho⟩ := okO_facts hok.1
 have hn32 := ho.n32
 have hn := ho.hn
 have hsl := hok.2.2
 have hnl := hok.2.1
 have hp2 := ho.p2
 refine x_skip <| .then_normal <| .s3 3 4 5 rfl rfl rfl <| zr <| tLg rfl rfl <| tl_y rfl (y_makeFunc rfl rfl) <| tl_e rfl (e_call' rfl (oall_spec o ho.hp (by omega) (rows := keyR o name sec q.toNat) (keyR_le o name sec q.toNat) (fun i M2 X hi hM2 hX => by
  haveI i1 : Has X b1 (.cells (List.toArray o.cells) 103 (0, 0)) := ⟨hX _ (Has.mem)⟩
  haveI i2 : Has X b2 (.cells (List.toArray (seedC NA nl nc SA sl sc)) 33 (0, 0)) := ⟨hX _ (Has.mem)⟩
  haveI i3 : Has X b3 (.cells #[.int .u32 (q.toNat : Int)] 61 (0, 0)) := ⟨hX _ (Has.mem)⟩
  exact oKey1_spec ((hg.mono hM1).mono hM2) o ho ((hname.mono hM1).mono hM2) ((hsec.mono hM1).mono hM2) (by omega) (by omega) q i (by omega))) ?_)
 rintro _ M2 _ hM2 ⟨rfl, A2, m2, c2, rfl, hA2⟩
 have hd := hM1.trans hM2
 have hm2 := hA2.size
 have hle := catR_le (keyR_le o name sec q.toNat) p
 refine asS rfl <| zq <| zr <| tFa rfl <| tLd rfl rfl <| tFa rfl <| tLd rfl rfl <| tFa rfl <| tLd rfl rfl <| tLd rfl rfl <| mvS rfl <| tl_e rfl <| e_buildSlice rfl (by decide) <| fun b7 => .pub b7 iI <| fun M3 hM3 hb7 => ?_
 replace hd := hd.trans hM3
 refine zca rfl (Part_spec (hg.mono hd).sha (hg.mono hd).kec o.kind o.n (hname.mono hd) q 32896 (by omega) (Row.whole hb7 rfl (by omega)) (.cons (hA2.mono hM3) .nil) (by simp only [List.flatten_cons, List.flatten_nil, List.length_append, List.length_nil]; omega)) ?_
 rintro _ M4 _ hM4 ⟨rfl, A4, m4, c4, rfl, hA4⟩
 rw [show [catR (keyR o name sec q.toNat) p].flatten = catR (keyR o name sec q.toNat) p by simp] at hA4
 refine asS rfl <| zq <| .s1 6 rfl <| x_ret (.dropTo L iI (ret1 rfl rfl (hd.trans hM4) ⟨rfl, _, _, _, rfl, by rw [if_pos hok, keyB, ho.hp, Int.toNat_natCast]; exact hA4⟩))
end
end Go.Proofs.YtplkoemjffplcaaGreatDoor
