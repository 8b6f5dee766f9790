/-
Contracts of functions, each proved by a walk through its code.
-/
import Derived.Test.YtplkoemjffplcaaGreatDoorShakeEtc
import Derived.Test.YtplkoemjffplcaaGreatDoorEngWEtc
import Derived.Test.YtplkoemjffplcaaGreatDoorTypes1Etc
set_option linter.all false
namespace Go.Proofs.YtplkoemjffplcaaGreatDoor
open Go Go.Eng
section
variable {G : World} {M : Mem} {L : Own}
theorem rl_a : ∀ n : Fin 32, 0 < n.val → (UInt64.ofInt (-(n.val : Int)) &&& 31).toNat = 32 - n.val ∧ (32 - (UInt64.ofInt (-(n.val : Int)) &&& 31)).toNat = n.val := by decide +kernel
theorem rotl_spec (x : UInt32) (n : Nat) (hn : 0 < n ∧ n < 32) :
  Con Tryz.prog 285 #[.int .u32 (x.toNat : Int), .int .i64 (-(n : Int))] G M L (fun r M' L' => M = M' ∧ L = L' ∧ r = .int .u32 ((rotr x n).toNat : Int)) noPanic := by
 obtain ⟨h1, h2⟩ := rl_a ⟨n, hn.2⟩ hn.1
 refine zfn Tryz.func285 rfl 17 rfl <| zr <| as0 rfl <| zq <| zr <| mvI rfl <| tl_y rfl (y_of64 rfl) <| tl_y rfl (y_and64 (b := 31) rfl rfl) <| asI rfl <| zq <| .s2 0 5 rfl rfl <| zr <| mvI rfl <| mvI rfl <| tl_y rfl (y_shl32 rfl rfl) <| mvI rfl <| mvI rfl <| tl_y rfl (y_sub64 (a := 32) rfl rfl) <| tl_y rfl (y_shr32 rfl rfl) <| tl_y rfl (y_or32 rfl rfl) <| asI rfl <| zq <| .s1 4 rfl <| x_ret (ret1 rfl rfl lR ⟨rfl, rfl, by
  have e1 : (UInt64.ofInt (-(n : Int)) &&& 31).toNat = 32 - n := h1
  have e2 : (32 - (UInt64.ofInt (-(n : Int)) &&& 31)).toNat = n := h2
  rw [e1, e2]; rfl⟩)
theorem rot_spec (x : UInt32) (n : Nat) (hn : 0 < n ∧ n < 32) :
  Con Tryz.prog 280 #[.int .u32 (x.toNat : Int), .int .i64 (n : Int)] G M L (fun r M' L' => M = M' ∧ L = L' ∧ r = .int .u32 ((rotr x n).toNat : Int)) noPanic := by
 refine zfn Tryz.func280 rfl 9 rfl <| zr <| as0 rfl <| zq <| zr <| mvI rfl <| mvI rfl <| tl_y rfl (y_neg rfl) ?_
 rw [show IntKind.i64.wrap (0 - (n : Int)) = -(n : Int) by rw [IntWalk.i64_in _ (by omega)]; omega]
 refine zca rfl (rotl_spec x n hn) ?_
 rintro _ _ _ _ ⟨rfl, rfl, rfl⟩
 refine asI rfl <| zq <| .s1 4 rfl <| x_ret (ret1 rfl rfl lR ⟨rfl, rfl, rfl⟩)
abbrev schCells (bs : List UInt8) (k : Nat) : List Value := (schd bs k).map u32v ++ List.replicate (64 - k) (u32v 0)
theorem sch_get (bs : List UInt8) (k i : Nat) (h : i < k) : (schCells bs k)[i]? = some (u32v ((schd bs k).getD i 0)) := get_u32 _ _ _ (by rw [schd_length]; exact h)
theorem sch_set (bs : List UInt8) (k : Nat) (v : UInt32) (h : k < 64) (hv : v = if k < 16 then wd bs k else nextW (schd bs k) k) : (schCells bs k).set k (u32v v) = schCells bs (k + 1) := by
 have h1 := set_u32 (schd bs k) 64 v (by rw [schd_length]; exact h)
 rw [schd_length] at h1
 rw [h1, hv]
 rfl
theorem sch_len (bs : List UInt8) (k : Nat) (h : k ≤ 64) : (schCells bs k).length = 64 := by simp [schd_length]; omega
theorem spread_spec {bs : List UInt8} (hl : bs.length = 64) :
  Con Tryz.prog 279 #[.agg (bs.map bv).toArray] G M L (fun r M' L' => L = L' ∧ r = .agg ((schd bs 64).map u32v).toArray) noPanic := by
 refine zfn Tryz.func279 rfl 67 rfl <| zr <| tl_e rfl <| e_box rfl <| fun b1 => .pub b1 iI <| fun M1 hM1 hb1 => ?_
 have hblk : Bytes M1 (some ⟨b1, 0, none⟩) 64 64 bs := Row.whole hb1 (by simp [hl]) (by omega)
 refine tl_e rfl <| e_alloc <| fun b2 => zq <| zr <| tl_e rfl <| e_alloc <| fun b3 => zq <| zr2 <| mv0 rfl <| zq <| x_block ?_
 refine x_loop (I := fun m' F D M2 L1 => ∃ k : Nat, m' = 64 - k ∧ k ≤ 64 ∧ D = [] ∧ M1 = M2 ∧ L1 = (b3, .cells (schCells bs k).toArray 354 (0, 0)) :: (b2, .cells (List.replicate 64 (u32v 0)).toArray 354 (0, 0)) :: L ∧ F = [(1, .pointer (some ⟨b1, 0, none⟩)), (2, .pointer (some ⟨b2, 0, none⟩)), (3, .pointer (some ⟨b3, 0, none⟩)), (9, .int .i64 k)]) (64) (F0 := [(1, _), (2, _), (3, _), (9, _)]) ?_ (cs4 rfl rfl rfl rfl) ?_
 ·
  exact ⟨0, rfl, by omega, rfl, rfl, rfl, rfl⟩
 rintro m _ _ M2 L1 ⟨k, rfl, hk, rfl, rfl, rfl, rfl⟩
 refine zr <| tl_y rfl (y_lss rfl rfl) <| zq <| x_seq <| x_cond rfl (fun hc1 => ?_) (fun hc1 => ?_)
 ·
  refine x_skip <| .then_normal <| x_seq <| x_block <| zr <| mvI rfl <| asI rfl <| zq <| zr2 <| mvI rfl <| tl_y rfl (y_lss rfl rfl) <| zq <| x_cond rfl (fun hc2 => ?_) (fun hc2 => ?_)
  ·
   refine zr <| mvI rfl <| tl_y rfl (y_mulI rfl rfl (by omega)) <| mvI rfl <| tl_y rfl (y_addI rfl rfl (by omega)) <| tl_y rfl (y_mulI rfl rfl (by omega)) <| tl_y rfl (y_sliceArrLH rfl rfl rfl (by omega) (by omega)) ?_
   rw [show ((k : Int) * 4).toNat = 4 * k by omega, show (((k : Int) + 1) * 4).toNat = 4 * (k + 1) by omega]
   refine zca rfl (Get_spec (hblk.sub (4 * k) (4 * (k + 1)) (by omega) (by omega))) ?_
   rintro _ _ _ _ ⟨rfl, rfl, rfl⟩
   rw [if_pos (by omega), show 4 * (k + 1) - 4 * k = 4 by omega]
   refine mvU rfl <| zx rfl <| zx rfl <| asI rfl <| asB rfl <| zq <| .s6 1 2 3 4 5 9 rfl rfl rfl rfl rfl rfl <| zr <| mvI rfl <| mvI rfl <| tl_y rfl (y_of32 rfl) <| tl_y rfl (y_indexArr rfl rfl (by omega)) <| tl_e rfl <| e_storeAt (c := schCells bs k) rfl rfl rfl iI (by rw [sch_len _ _ hk]; omega) iI ?_
   rw [show 0 + ((k : Int)).toNat * 1 = k by omega, sch_set bs k _ (by omega) (by rw [if_pos (by omega), ofInt32]; rfl)]
   refine zq <| .s5 1 2 3 4 9 rfl rfl rfl rfl rfl <| x_exit <| .then_exit <| .block_exit <| .then_normal <| x_region <| tl_y rfl (y_addI rfl rfl (by omega)) <| mvI rfl <| tl_nil <| .loop_next (m' := 64 - (k + 1)) (by omega) (F' := [(1, _), (2, _), (3, _), (9, _)]) (cs4 rfl rfl rfl rfl) ?_
   exact ⟨k + 1, rfl, by omega, rfl, rfl, rfl, rfl⟩
  refine x_skip <| .then_normal <| .s5 1 2 3 4 9 rfl rfl rfl rfl rfl <| x_seq <| x_draw 10 hmix rfl <| pmI 0 rfl rfl <| zp 1 rfl rfl (y_subI rfl rfl (by omega)) <| zp 2 rfl rfl (y_indexArr rfl rfl (by omega)) <| zy 3 rfl rfl (y_load rfl rfl (.at_ (.ownAt (i := k - 15) (c := schCells bs k) iI (sch_get bs k (k - 15) (by omega))) (by omega))) <| pmI 4 rfl rfl <| zp 5 rfl rfl (y_subI rfl rfl (by omega)) ?_
  refine zp 6 rfl rfl (y_indexArr rfl rfl (by omega)) <| zy 7 rfl rfl (y_load rfl rfl (.at_ (.ownAt (i := k - 2) (c := schCells bs k) iI (sch_get bs k (k - 2) (by omega))) (by omega))) <| paI 8 rfl rfl <| paI 9 rfl rfl <| zz <| .then_normal <| .s7 1 2 3 4 7 8 9 rfl rfl rfl rfl rfl rfl rfl <| x_draw 29 hmix rfl <| pmI 0 rfl rfl <| pmI 1 rfl rfl ?_
  refine zp 2 rfl rfl (y_subI rfl rfl (by omega)) <| zp 3 rfl rfl (y_indexArr rfl rfl (by omega)) <| zy 4 rfl rfl (y_load rfl rfl (.at_ (.ownAt (i := k - 16) (c := schCells bs k) iI (sch_get bs k (k - 16) (by omega))) (by omega))) <| pmI 5 rfl rfl <| pmI 7 rfl rfl <| pmI 10 rfl rfl <| zp 11 rfl rfl (y_shr32 (s := 3) rfl rfl) <| pmI 14 rfl rfl ?_
  refine zp 15 rfl rfl (y_subI rfl rfl (by omega)) <| zp 16 rfl rfl (y_indexArr rfl rfl (by omega)) <| zy 17 rfl rfl (y_load rfl rfl (.at_ (.ownAt (i := k - 7) (c := schCells bs k) iI (sch_get bs k (k - 7) (by omega))) (by omega))) <| pmI 19 rfl rfl <| pmI 21 rfl rfl <| pmI 24 rfl rfl <| zp 25 rfl rfl (y_shr32 (s := 10) rfl rfl) ?_
  refine ze 6 rfl rfl <| e_call' rfl (rot_spec _ 7 (by omega)) ?_
  rintro _ _ _ _ ⟨rfl, rfl, rfl⟩
  refine kp ?_
  refine ze 8 rfl rfl <| e_call' rfl (rot_spec _ 18 (by omega)) ?_
  rintro _ _ _ _ ⟨rfl, rfl, rfl⟩
  refine kp ?_
  refine zp 9 rfl rfl (y_xor32 rfl rfl) <| zp 12 rfl rfl (y_xor32 rfl rfl) <| zp 13 rfl rfl (y_add32 rfl rfl) <| zp 18 rfl rfl (y_add32 rfl rfl) <| ze 20 rfl rfl <| e_call' rfl (rot_spec _ 17 (by omega)) ?_
  rintro _ _ _ _ ⟨rfl, rfl, rfl⟩
  refine kp ?_
  refine ze 22 rfl rfl <| e_call' rfl (rot_spec _ 19 (by omega)) ?_
  rintro _ _ _ _ ⟨rfl, rfl, rfl⟩
  refine kp ?_
  refine zp 23 rfl rfl (y_xor32 rfl rfl) <| zp 26 rfl rfl (y_xor32 rfl rfl) <| zp 27 rfl rfl (y_add32 rfl rfl) <| zp 28 rfl rfl (y_indexArr rfl rfl (by omega)) <| zt 29 rfl rfl <| e_storeAt (c := schCells bs k) rfl rfl rfl iI (by rw [sch_len _ _ hk]; omega) iI ?_
  rw [show 0 + ((k : Int)).toNat * 1 = k by omega, sch_set bs k _ (by omega) (by rw [if_neg (by omega)]; rfl)]
  refine zz <| .block_normal <| .then_normal <| .s4 1 2 3 9 rfl rfl rfl rfl <| x_region <| tl_y rfl (y_addI rfl rfl (by omega)) <| mvI rfl <| tl_nil <| .loop_next (m' := 64 - (k + 1)) (by omega) (F' := [(1, _), (2, _), (3, _), (9, _)]) (cs4 rfl rfl rfl rfl) ?_
  exact ⟨k + 1, rfl, by omega, rfl, rfl, rfl, rfl⟩
 obtain rfl : k = 64 := by omega
 rw [show schCells bs 64 = (schd bs 64).map u32v by simp [schCells]]
 refine x_exit <| .then_exit <| .loop_exit <| .block_exit <| .then_normal <| zr <| tl_y rfl (y_loadAgg rfl rfl (.whole iI (by simp [schd_length]))) <| tl_e rfl <| e_store rfl rfl (by simp [schd_length]) (u32_one _) iI (.whole (by simp [schd_length])) iI <| zq <| .s1 2 rfl <| x_ret (retRV (L' := L) (rv1 rfl (rc_cellAgg (by rfl) rfl (.whole iI (by simp [schd_length])))) iI hM1 ⟨rfl, rfl⟩)
structure ShaG (M : Mem) : Prop where
 k : ∃ c T fr, M 6 = some (.cells c T fr) ∧ ∀ j, j < 64 → c[j]? = some (u32v (kT.getD j 0))
 first : ∃ T fr, M 5 = some (.cells H8.init.vals.toArray T fr)
theorem ShaG.mono {M M' : Mem} (h : ShaG M) (hle : Le M M') : ShaG M' := ⟨let ⟨c, T, fr, a, b⟩ := h.k; ⟨c, T, fr, hle _ _ a, b⟩, let ⟨T, fr, a⟩ := h.first; ⟨T, fr, hle _ _ a⟩⟩
theorem Turn_spec (hg : ShaG M) (st : H8) {bs : List UInt8} (hl : bs.length = 64) :
  Con Tryz.prog 275 #[.agg (List.toArray st.vals), .agg (bs.map bv).toArray] G M L (fun r M' L' => L = L' ∧ r = .agg (List.toArray (turn st bs).vals)) noPanic := by
 refine zfn Tryz.func275 rfl 110 rfl <| zr <| tl_e rfl <| e_box rfl <| fun b1 => tl_e rfl <| e_box rfl <| fun b2 => tl_e rfl <| e_alloc <| fun b3 => zq <| zr <| tLg rfl rfl <| tl_e rfl <| e_alloc <| fun b4 => tl_e rfl <| e_sT rfl rfl <| zq <| zr2 <| tl_y rfl (y_loadAgg rfl rfl (.whole iI (by simp [hl]))) <| zca rfl (spread_spec hl) ?_
 rintro _ M1 _ hM1 ⟨rfl, rfl⟩
 obtain ⟨kc, kt, kf, hk1, hk2⟩ := (hg.mono hM1).k
 refine mv0 rfl <| zq <| .s5 2 4 5 19 20 rfl rfl rfl rfl rfl <| x_block ?_
 refine x_loop (I := fun m' F D M2 L1 => ∃ (k : Nat) (s : H8), m' = 64 - k ∧ k ≤ 64 ∧ s = rounds (schd bs 64) st k ∧ D = [] ∧ M1 = M2 ∧ L1 = (b4, .cells (List.toArray s.vals) 344 (0, 0)) :: (b3, .cells #[u32v 0, u32v 0, u32v 0, u32v 0, u32v 0, u32v 0, u32v 0, u32v 0] 344 (0, 0)) :: (b2, .cells (bs.map bv).toArray 347 (0, 0)) :: (b1, .cells (List.toArray st.vals) 344 (0, 0)) :: L ∧ F = [(2, .pointer (some ⟨b1, 0, none⟩)), (4, .pointer (some ⟨b3, 0, none⟩)), (5, .pointer (some ⟨b4, 0, none⟩)), (19, .agg ((schd bs 64).map u32v).toArray), (20, .int .i64 k)]) (64) (F0 := [(2, _), (4, _), (5, _), (19, _), (20, _)]) ?_ (cs5 rfl rfl rfl rfl rfl) ?_
 ·
  exact ⟨0, st, rfl, by omega, rfl, rfl, rfl, rfl, rfl⟩
 rintro m _ _ M2 L1 ⟨k, s, rfl, hk, hs, rfl, rfl, rfl, rfl⟩
 refine zr <| tl_y rfl (y_lss rfl rfl) <| zq <| x_seq <| x_cond rfl (fun hc1 => ?_) (fun hc1 => ?_)
 ·
  refine x_skip <| .then_normal <| x_seq <| x_block <| zr <| mvI rfl <| tl_y rfl (y_index rfl rfl (by omega) rfl (by rw [List.getElem?_toArray]; show ((schd bs 64).map u32v)[(k : Int).toNat * 1]? = _; rw [show (k : Int).toNat * 1 = k by omega]; exact get_u32' _ _ (by rw [schd_length]; omega))) ?_
  refine asI rfl <| asI rfl <| zq <| x_seq <| x_draw 18 hmix rfl <| zp 0 rfl rfl (y_indexArrK 0 rfl rfl (by omega)) <| pLd 1 rfl rfl rfl <| zp 2 rfl rfl (y_indexArrK 1 rfl rfl (by omega)) <| pLd 3 rfl rfl rfl <| zp 4 rfl rfl (y_indexArrK 2 rfl rfl (by omega)) ?_
  refine pLd 5 rfl rfl rfl <| zp 6 rfl rfl (y_indexArrK 4 rfl rfl (by omega)) <| pLd 7 rfl rfl rfl <| zp 8 rfl rfl (y_indexArrK 5 rfl rfl (by omega)) <| pLd 9 rfl rfl rfl <| zp 10 rfl rfl (y_indexArrK 6 rfl rfl (by omega)) <| pLd 11 rfl rfl rfl <| paI 12 rfl rfl <| paI 13 rfl rfl <| paI 14 rfl rfl ?_
  refine paI 15 rfl rfl <| paI 16 rfl rfl <| paI 17 rfl rfl <| zz <| .then_normal <| .sub (F' := [(2, _), (4, _), (5, _), (6, _), (7, _), (8, _), (9, _), (10, _), (11, _), (12, _), (13, _), (19, _), (20, _)]) (.cons rfl (.cons rfl (.cons rfl (.cons rfl (.cons rfl (.cons rfl (.cons rfl (.cons rfl (.cons rfl (.cons rfl (.cons rfl (.cons rfl (.cons rfl .nil))))))))))))) ?_
  refine x_seq <| x_draw 27 hmix rfl <| zp 0 rfl rfl (y_indexArrK 7 rfl rfl (by omega)) <| pLd 1 rfl rfl rfl <| pmI 2 rfl rfl <| pmI 4 rfl rfl <| pmI 7 rfl rfl <| pmI 11 rfl rfl <| pmI 12 rfl rfl <| zp 13 rfl rfl (y_and32 rfl rfl) ?_
  refine pmI 14 rfl rfl <| zp 15 rfl rfl (y_com32 rfl) <| pmI 16 rfl rfl <| zp 17 rfl rfl (y_and32 rfl rfl) <| zp 18 rfl rfl (y_xor32 rfl rfl) <| pmI 20 rfl rfl <| zp 21 rfl rfl (y_indexArr rfl rfl (by omega)) <| zy 22 rfl rfl (y_load rfl rfl (.at_ (.ro hk1 (hk2 k (by omega))) (by omega))) <| pmI 24 rfl rfl ?_
  refine ze 3 rfl rfl <| e_call' rfl (rot_spec _ 6 (by omega)) ?_
  rintro _ _ _ _ ⟨rfl, rfl, rfl⟩
  refine kp ?_
  refine ze 5 rfl rfl <| e_call' rfl (rot_spec _ 11 (by omega)) ?_
  rintro _ _ _ _ ⟨rfl, rfl, rfl⟩
  refine kp ?_
  refine zp 6 rfl rfl (y_xor32 rfl rfl) <| ze 8 rfl rfl <| e_call' rfl (rot_spec _ 25 (by omega)) ?_
  rintro _ _ _ _ ⟨rfl, rfl, rfl⟩
  refine kp ?_
  refine zp 9 rfl rfl (y_xor32 rfl rfl) <| zp 10 rfl rfl (y_add32 rfl rfl) <| zp 19 rfl rfl (y_add32 rfl rfl) <| zp 23 rfl rfl (y_add32 rfl rfl) <| zp 25 rfl rfl (y_add32 rfl rfl) <| paI 26 rfl rfl <| zz <| .then_normal <| .sub (F' := [(2, _), (4, _), (5, _), (8, _), (9, _), (10, _), (11, _), (12, _), (13, _), (14, _), (19, _), (20, _)]) (cs12 rfl rfl rfl rfl rfl rfl rfl rfl rfl rfl rfl rfl) ?_
  refine zr <| mvI rfl <| zca rfl (rot_spec _ 2 (by omega)) ?_
  rintro _ _ _ _ ⟨rfl, rfl, rfl⟩
  refine mvI rfl <| zca rfl (rot_spec _ 13 (by omega)) ?_
  rintro _ _ _ _ ⟨rfl, rfl, rfl⟩
  refine tl_y rfl (y_xor32 rfl rfl) <| mvI rfl <| zca rfl (rot_spec _ 22 (by omega)) ?_
  rintro _ _ _ _ ⟨rfl, rfl, rfl⟩
  refine tl_y rfl (y_xor32 rfl rfl) <| mvI rfl <| mvI rfl <| tl_y rfl (y_and32 rfl rfl) <| mvI rfl <| mvI rfl <| tl_y rfl (y_and32 rfl rfl) <| tl_y rfl (y_xor32 rfl rfl) <| mvI rfl <| mvI rfl <| tl_y rfl (y_and32 rfl rfl) <| tl_y rfl (y_xor32 rfl rfl) <| tl_y rfl (y_add32 rfl rfl) <| asI rfl <| zq <| .sub (F' := [(2, _), (4, _), (5, _), (8, _), (9, _), (10, _), (11, _), (12, _), (13, _), (14, _), (15, _), (19, _), (20, _)]) (.cons rfl (.cons rfl (.cons rfl (.cons rfl (.cons rfl (.cons rfl (.cons rfl (.cons rfl (.cons rfl (.cons rfl (.cons rfl (.cons rfl (.cons rfl .nil))))))))))))) <| x_region <| mvI rfl <| mvI rfl <| tl_y rfl (y_add32 rfl rfl) <| mvI rfl <| mvI rfl <| mvI rfl <| tl_y rfl (y_indexArrK 3 rfl rfl (by omega)) <| tLd rfl rfl <| mvI rfl <| tl_y rfl (y_add32 rfl rfl) <| mvI rfl <| mvI rfl <| mvI rfl <| tl_y rfl (y_buildArr rfl) <| tl_e rfl <| e_sT rfl rfl <| tl_nil <| .block_normal <| .then_normal <| .s5 2 4 5 19 20 rfl rfl rfl rfl rfl <| x_region <| tl_y rfl (y_addI rfl rfl (by omega)) <| mvI rfl <| tl_nil <| .loop_next (m' := 64 - (k + 1)) (by omega) (F' := [(2, _), (4, _), (5, _), (19, _), (20, _)]) (cs5 rfl rfl rfl rfl rfl) ?_
  exact ⟨k + 1, rnd s (kT.getD k 0) ((schd bs 64).getD k 0), rfl, by omega, by rw [hs]; rfl, rfl, rfl, rfl, rfl⟩
 obtain rfl : k = 64 := by omega
 refine x_exit <| .then_exit <| .loop_exit <| .block_exit <| .then_normal <| zr2 <| mv0 rfl <| zq <| x_block ?_
 refine x_loop (I := fun m' F D M2 L1 => ∃ (i : Nat), m' = 8 - i ∧ i ≤ 8 ∧ D = [] ∧ M1 = M2 ∧ L1 = (b4, .cells ((addTo s.list st.list i).map u32v).toArray 344 (0, 0)) :: (b3, .cells #[u32v 0, u32v 0, u32v 0, u32v 0, u32v 0, u32v 0, u32v 0, u32v 0] 344 (0, 0)) :: (b2, .cells (bs.map bv).toArray 347 (0, 0)) :: (b1, .cells (st.list.map u32v).toArray 344 (0, 0)) :: L ∧ F = [(2, .pointer (some ⟨b1, 0, none⟩)), (4, .pointer (some ⟨b3, 0, none⟩)), (5, .pointer (some ⟨b4, 0, none⟩)), (97, .int .i64 i)]) (8) (F0 := [(2, _), (4, _), (5, _), (97, _)]) ?_ (cs4 rfl rfl rfl rfl) ?_
 ·
  exact ⟨0, rfl, by omega, rfl, rfl, rfl, rfl⟩
 rintro m _ _ M2 L1 ⟨i, rfl, hi, rfl, rfl, rfl, rfl⟩
 refine zr <| tl_y rfl (y_lss rfl rfl) <| zq <| x_seq <| x_cond rfl (fun hc2 => ?_) (fun hc2 => ?_)
 ·
  refine x_skip <| .then_normal <| x_seq <| x_block <| zr <| mvI rfl <| asI rfl <| zq <| x_draw 8 hmix rfl <| pmI 0 rfl rfl <| zp 1 rfl rfl (y_indexArr rfl rfl (by omega)) ?_
  refine zy 2 rfl rfl (y_load rfl rfl (.at_ (.ownAt (i := i) (c := (addTo s.list st.list i).map u32v) iI (get_u32' _ _ (by rw [addTo_length]; show i < 8; omega))) (by omega))) <| pmI 3 rfl rfl <| zp 4 rfl rfl (y_indexArr rfl rfl (by omega)) <| zy 5 rfl rfl (y_load rfl rfl (.at_ (.ownAt (i := i) (c := st.list.map u32v) iI (get_u32' _ _ (by show i < 8; omega))) (by omega))) <| zp 6 rfl rfl (y_add32 rfl rfl) ?_
  refine zp 7 rfl rfl (y_indexArr rfl rfl (by omega)) <| zt 8 rfl rfl <| e_storeAt (c := (addTo s.list st.list i).map u32v) rfl rfl rfl iI (by rw [List.length_map, addTo_length]; show _ < 8; omega) iI ?_
  rw [show 0 + ((i : Int)).toNat * 1 = i by omega, show (u32v ((addTo s.list st.list i).getD i 0 + st.list.getD i 0)) = u32v ((addTo s.list st.list i).getD i 0 + st.list.getD i 0) from rfl, ← List.map_set]
  refine zz <| .block_normal <| .then_normal <| .s4 2 4 5 97 rfl rfl rfl rfl <| x_region <| tl_y rfl (y_addI rfl rfl (by omega)) <| mvI rfl <| tl_nil <| .loop_next (m' := 8 - (i + 1)) (by omega) (F' := [(2, _), (4, _), (5, _), (97, _)]) (cs4 rfl rfl rfl rfl) ?_
  exact ⟨i + 1, rfl, by omega, rfl, rfl, rfl, rfl⟩
 obtain rfl : i = 8 := by omega
 rw [addTo_all]
 change T _ _ _ _ _ _ _ _ ((b4, .cells (List.toArray (plusH s st).vals) 344 (0, 0)) :: _)
 refine x_exit <| .then_exit <| .loop_exit <| .block_exit <| .then_normal <| zr <| tLg rfl rfl <| tl_e rfl <| e_sT rfl rfl <| zq <| .s1 4 rfl <| x_ret (retRV (L' := L) (rv1 rfl (rc_cellAgg (by rfl) rfl (.own iI iI))) iI hM1 ⟨rfl, by rw [hs]; rfl⟩)
abbrev hcells (s : H8) (A : Option Addr) (n c : Nat) (x : UInt64) : List Value := [u32v s.a, u32v s.b, u32v s.c, u32v s.d, u32v s.e, u32v s.f, u32v s.g, u32v s.h, .slice A n c, u64v x]
abbrev hL (p : Nat) (s : H8) (A : Option Addr) (n c : Nat) (x : UInt64) : Nat × Obj := (p, .cells (List.toArray (hcells s A n c x)) 346 (0, 0))
theorem sNew_spec (hg : ShaG M) :
  Con Tryz.prog 262 #[] G M L (fun r M' L' => M = M' ∧ ∃ p, r = .pointer (some ⟨p, 0, none⟩) ∧ L' = hL p H8.init none 0 0 0 :: L) noPanic := by
 obtain ⟨kt, kf, hk1⟩ := hg.first
 refine zfn Tryz.func262 rfl 4 rfl <| zr <| as0 rfl <| zq <| zr <| tl_y rfl (y_loadAgg rfl rfl (.wholeRo hk1 rfl)) <| tl_y rfl (y_build rfl) <| tl_e rfl <| e_box rfl <| fun b1 => asP rfl <| zq <| x_ret (ret1 rfl rfl lR ⟨rfl, _, rfl, rfl⟩)
theorem sWrite_spec (hg : ShaG M) {p : Nat} {s : H8} {x : UInt64} {A : Option Addr} {n c : Nat} {bs : List UInt8} (h : Bytes M A n c bs) (hn : n ≤ 1099511627776) :
  Con Tryz.prog 263 #[.pointer (some ⟨p, 0, none⟩), .slice A n c] G M (hL p s none 0 0 x :: L) (fun r M' L' => ∃ A' c', L' = hL p (blk s bs (n / 64)) A' (n - 64 * (n / 64)) c' (x + UInt64.ofInt n) :: L ∧ Bytes M' A' (n - 64 * (n / 64)) c' (bs.drop (64 * (n / 64)))) noPanic := by
 have hbl := h.size
 refine zfn Tryz.func263 rfl 53 rfl <| zr <| mvP rfl <| zc rfl <| tFa rfl <| tLd rfl rfl <| mvS rfl <| tLen rfl <| tl_y rfl (y_of64 rfl) <| tl_y rfl (y_add64 rfl rfl) <| zc rfl <| tFa rfl <| tl_e rfl <| e_sT rfl rfl <| zq <| .s2 0 1 rfl rfl <| zr <| mvP rfl <| mvP rfl <| zc rfl <| tFa rfl <| tLd rfl rfl <| mvS rfl <| tl_e rfl <| e_append (E := []) (by decide) rfl rfl OwnRow.nil (.row h) (all_one_bv _) (by omega) (by omega) <| fun A2 cap2 E2 hE2 => ?_
 rw [Nat.zero_add, List.nil_append] at hE2
 rw [Nat.zero_add]
 refine .pubRow hE2 <| fun M1 hM1 hA2 => zc rfl <| tFa rfl <| tl_e rfl <| e_sT rfl rfl <| zq <| .s1 0 rfl <| x_block ?_
 refine x_loop (I := fun m' F D M2 L1 => ∃ (k : Nat) (A3 : Option Addr) (c3 : Nat), m' = n / 64 - k ∧ k ≤ n / 64 ∧ Bytes M2 A3 (n - 64 * k) c3 (bs.drop (64 * k)) ∧ D = [] ∧ Le M1 M2 ∧ L1 = hL p (blk s bs k) A3 (n - 64 * k) c3 (x + UInt64.ofInt n) :: L ∧ F = [(0, .pointer (some ⟨p, 0, none⟩))]) (n / 64) (F0 := [(0, _)]) ?_ (.cons rfl .nil) ?_
 ·
  exact ⟨0, A2, cap2, rfl, by omega, by simpa using hA2, rfl, Le.refl _, rfl, rfl⟩
 rintro m _ _ M2 L1 ⟨k, A3, c3, rfl, hk, hA3, rfl, hM2, rfl, rfl⟩
 refine zr2 <| mvP rfl <| zc rfl <| tFa rfl <| tLd rfl rfl <| tLen rfl <| tl_y rfl (y_geq rfl rfl) <| zq <| .s2 0 29 rfl rfl <| x_cond rfl (fun hc1 => ?_) (fun hc1 => ?_)
 ·
  have hkn : 64 * (k + 1) ≤ n := by omega
  have hA3l := hA3.le
  have htk : ((bs.drop (64 * k)).take 64).length = 64 := by rw [List.length_take, List.length_drop]; omega
  refine x_skip <| .then_normal <| x_block <| zr <| tl_e rfl <| e_alloc <| fun b1 => zq <| x_seq <| x_draw 5 hmix rfl <| zp 0 rfl rfl (y_sliceArr rfl) <| pmP 1 rfl rfl <| zp 2 rfl rfl (y_nilCheck rfl) ?_
  refine pFa 3 rfl rfl <| pLd 4 rfl rfl rfl <| zt 5 rfl rfl <| e_copy (b := b1) (o := 0) (c := List.replicate 64 (.int .u8 0)) (cs := ((bs.drop (64 * k)).take 64).map bv) rfl rfl (by rw [List.length_map, htk]; omega) (fun _ => rfl) (by rw [List.length_map, htk, List.map_take]; exact (Src.row hA3).take (by omega)) iI (by rw [List.length_map, htk]; simp) (all_one_bv _) iI ?_
  rw [copy_whole (by rw [List.length_map, htk]; simp)]
  refine zz <| .then_normal <| .s2 0 4 rfl rfl <| x_draw 15 hmix rfl <| pmP 0 rfl rfl <| pmP 1 rfl rfl <| pmP 2 rfl rfl <| zp 3 rfl rfl (y_nilCheck rfl) <| pFa 4 rfl rfl <| zy 5 rfl rfl (y_lg rfl rfl) <| zy 6 rfl rfl (y_loadAgg rfl rfl (.whole iI (by rw [List.length_map, htk]))) ?_
  refine pmP 8 rfl rfl <| zp 9 rfl rfl (y_nilCheck rfl) <| pFa 10 rfl rfl <| pLd 11 rfl rfl rfl <| zp 12 rfl rfl (y_sliceL rfl rfl (by omega)) ?_
  refine ze 7 rfl rfl <| e_call' rfl (Turn_spec (hg.mono (hM1.trans hM2)) (blk s bs k) htk) ?_
  rintro _ M3 _ hM3 ⟨rfl, rfl⟩
  refine kp ?_
  refine zp 13 rfl rfl (y_nilCheck rfl) <| pFa 14 rfl rfl <| zt 15 rfl rfl <| e_sT rfl rfl <| zp 16 rfl rfl (y_nilCheck rfl) <| pFa 17 rfl rfl <| zt 18 rfl rfl <| e_sT rfl rfl <| .dropTo (hL p (turn (blk s bs k) ((bs.drop (64 * k)).take 64)) (sl A3 (Int.toNat 64) c3 1) (n - 64 * k - Int.toNat 64) (c3 - Int.toNat 64) (x + UInt64.ofInt n) :: L) iI ?_
  refine zz <| .block_normal <| .loop_next (m' := n / 64 - (k + 1)) (by omega) (F' := [(0, _)]) (.cons rfl .nil) ?_
  exact ⟨k + 1, _, _, rfl, by omega, by
   have h1 := Bytes.drop (hA3.mono hM3) 64 (by omega)
   rw [List.drop_drop] at h1
   rw [show 64 * (k + 1) = 64 * k + 64 by omega, ← Nat.sub_sub]
   exact h1, rfl, hM2.trans hM3, by rw [show 64 * (k + 1) = 64 * k + 64 by omega, ← Nat.sub_sub]; rfl, rfl⟩
 refine x_exit (.then_exit (.loop_exit (.block_exit (end0 rfl (hM1.trans hM2) (by
  obtain rfl : k = n / 64 := by omega
  exact ⟨_, _, rfl, hA3⟩)))))
theorem sSum_spec (hg : ShaG M) {p : Nat} {s : H8} {x : UInt64} {A : Option Addr} {n c : Nat} {bs : List UInt8} (h : Bytes M A n c bs) (hn : n < 64) :
  Con Tryz.prog 264 #[.pointer (some ⟨p, 0, none⟩)] G M (hL p s A n c x :: L) (fun r M' L' => L' = L ∧ ∃ A' c', r = .slice A' 32 c' ∧ Bytes M' A' 32 c' (sumH (blk s (bs ++ 128 :: (List.replicate ((119 - n) % 64) 0 ++ putB (x.toNat * 8 % 18446744073709551616) 8)) ((n + 9 + (119 - n) % 64) / 64)))) noPanic := by
 have hbl := h.size
 refine zfn Tryz.func264 rfl 56 rfl ?_
 have hz : ∀ j, ((bs ++ 128 :: List.replicate j 0 : List UInt8).map bv) ++ [Value.int .u8 0] = (bs ++ 128 :: List.replicate (j + 1) 0 : List UInt8).map bv := fun j => by rw [List.replicate_succ']; simp [bv]
 refine zr <| as0 rfl <| zq <| zr <| mvP rfl <| zc rfl <| tFa rfl <| tLg rfl rfl <| tl_y rfl (y_build rfl) <| tl_e rfl <| e_box rfl <| fun b1 => .eqL (L' := hL b1 s none 0 0 0 :: hL p s A n c x :: L) rfl <| asP rfl <| zq <| .s2 0 3 rfl rfl <| zr <| tl_e rfl <| e_buildSlice0 <| fun b2 => mvP rfl <| zc rfl <| tFa rfl <| tLd rfl rfl <| tl_e rfl <| e_append1 (by decide) rfl rfl OwnRow.made00 (.row h) (all_one_bv _) (by omega) (by omega) <| fun A2 cap2 E2 hE2 => ?_
 rw [Nat.zero_add, List.nil_append] at hE2
 rw [Nat.zero_add]
 refine asS rfl <| zq <| .s3 0 3 4 rfl rfl rfl <| zr <| mvS rfl <| tl_e rfl <| e_buildSlice rfl (by decide) <| fun b3 => .bringE E2 iI <| tl_e rfl <| e_append (E := E2) (by decide) rfl rfl hE2 (.own iI rfl) rfl (by omega) (by omega) <| fun A3 cap3 E3 hE3 => ?_
 rw [show bs.map bv ++ [Value.int .u8 128] = (bs ++ 128 :: List.replicate 0 0).map bv by simp [bv]] at hE3
 refine asS rfl <| zq <| x_seq <| x_block <| .dropTo (E3 ++ hL b1 s none 0 0 0 :: hL p s A n c x :: L) iI ?_
 refine x_loop (I := fun m' F D M1 L1 => ∃ (j : Nat) (A4 : Option Addr) (c4 : Nat) (E4 : Own), m' = (119 - n) % 64 - j ∧ j ≤ (119 - n) % 64 ∧ M = M1 ∧ D = [] ∧ OwnRow 5 1 A4 (n + 1 + j) c4 ((bs ++ 128 :: List.replicate j 0).map bv) E4 ∧ L1 = E4 ++ hL b1 s none 0 0 0 :: hL p s A n c x :: L ∧ F = [(0, .pointer (some ⟨p, 0, none⟩)), (3, .pointer (some ⟨b1, 0, none⟩)), (4, .slice A4 (n + 1 + j) c4)]) ((119 - n) % 64) (F0 := [(0, _), (3, _), (4, _)]) ?_ (cs3 rfl rfl rfl) ?_
 ·
  exact ⟨0, A3, cap3, E3, rfl, by omega, rfl, rfl, hE3, rfl, rfl⟩
 rintro m _ _ M1 L1 ⟨j, A4, c4, E4, rfl, hj, rfl, rfl, hE4, rfl, rfl⟩
 refine zr2 <| mvS rfl <| tLen rfl <| tl_y rfl (y_remI rfl rfl (by omega)) <| tl_y rfl (y_neq rfl rfl) <| zq <| x_cond rfl (fun hc1 => ?_) (fun hc1 => ?_)
 ·
  refine x_skip <| .then_normal <| .s3 0 3 4 rfl rfl rfl <| x_block <| x_region <| mvS rfl <| tl_e rfl <| e_buildSlice rfl (by decide) <| fun b4 => .bringE E4 iI <| tl_e rfl <| e_append (E := E4) (by decide) rfl rfl hE4 (.own iI rfl) rfl (by omega) (by omega) <| fun A5 cap5 E5 hE5 => ?_
  rw [hz] at hE5
  refine asS rfl <| .dropTo (E5 ++ hL b1 s none 0 0 0 :: hL p s A n c x :: L) iI <| tl_nil <| .block_normal <| .loop_next (m' := (119 - n) % 64 - (j + 1)) (by omega) (F' := [(0, _), (3, _), (4, _)]) (cs3 rfl rfl rfl) ?_
  exact ⟨j + 1, A5, cap5, E5, rfl, by omega, rfl, rfl, hE5, rfl, rfl⟩
 obtain rfl : j = (119 - n) % 64 := by omega
 refine .pubRow hE4 <| fun M2 hM2 hA4 => x_exit <| .then_exit <| .loop_exit <| .block_exit <| .then_normal <| .s3 0 3 4 rfl rfl rfl <| zr <| mvP rfl <| mvS rfl <| mvP rfl <| zc rfl <| tFa rfl <| tLd rfl rfl <| tl_y rfl (y_mul64 (b := 8) rfl rfl) <| zca rfl (PutN_spec (x * 8) 8 (by omega)) ?_
 rintro _ M3 L3 hM3 ⟨rfl, A6, c6, rfl, hA6⟩
 refine tl_e rfl <| e_buildSlice rfl (by decide) <| fun b5 => .pub b5 iI <| fun M4 hM4 hb5 => ?_
 have hA4' := hA4.mono (hM3.trans hM4)
 have hA6' := hA6.mono hM4
 have hx8 : (x * 8).toNat = x.toNat * 8 % 18446744073709551616 := by rw [UInt64.toNat_mul]; rfl
 rw [hx8] at hA6'
 have hfl : [bs ++ 128 :: List.replicate ((119 - n) % 64) 0, putB (x.toNat * 8 % 18446744073709551616) 8].flatten = bs ++ 128 :: (List.replicate ((119 - n) % 64) 0 ++ putB (x.toNat * 8 % 18446744073709551616) 8) := by simp
 have hfll : (bs ++ 128 :: (List.replicate ((119 - n) % 64) 0 ++ putB (x.toNat * 8 % 18446744073709551616) 8)).length = n + 9 + (119 - n) % 64 := by
  rw [List.length_append, List.length_cons, List.length_append, List.length_replicate, putB_length]; omega
 refine zca rfl (Cat_spec (Row.whole hb5 rfl (by omega)) (.cons hA4' (.cons hA6' .nil)) (by rw [hfl, hfll]; omega)) ?_
 rintro _ M5 L5 hM5 ⟨rfl, A7, c7, rfl, hA7⟩
 rw [hfl, hfll] at hA7
 rw [hfl, hfll]
 have hm := hM2.trans (hM3.trans (hM4.trans hM5))
 refine zca rfl (sWrite_spec (hg.mono hm) hA7 (by omega)) ?_
 rintro _ M6 L6 hM6 ⟨A8, c8, rfl, hA8⟩
 generalize hst : blk s _ _ = st
 refine zq <| .s1 3 rfl <| zr <| as0 rfl <| zq <| zr2 <| mvP rfl <| zc rfl <| tFa rfl <| tLg rfl rfl <| mv0 rfl <| zq <| .s3 5 44 45 rfl rfl rfl <| x_block <| .dropTo L iI ?_
 refine x_loop (I := fun m' F D M7 L7 => ∃ (k : Nat) (A9 : Option Addr) (c9 : Nat), m' = 8 - k ∧ k ≤ 8 ∧ Le M6 M7 ∧ D = [] ∧ Bytes M7 A9 (4 * k) c9 ((st.list.take k).flatMap fun x => putB x.toNat 4) ∧ L = L7 ∧ F = [(5, .slice A9 (4 * k) c9), (44, .agg (st.list.map u32v).toArray), (45, .int .i64 k)]) (8) (F0 := [(5, _), (44, _), (45, _)]) ?_ (cs3 rfl rfl rfl) ?_
 ·
  exact ⟨0, none, 0, rfl, by omega, Le.refl _, rfl, Row.nil _ _, rfl, rfl⟩
 rintro m _ _ M7 L7 ⟨k, A9, c9, rfl, hk, hM7, rfl, hA9, rfl, rfl⟩
 refine zr <| tl_y rfl (y_lss rfl rfl) <| zq <| x_seq <| x_cond rfl (fun hc2 => ?_) (fun hc2 => ?_)
 ·
  refine x_skip <| .then_normal <| x_seq <| x_block <| zr <| tl_y rfl (y_index rfl rfl (by omega) rfl (by rw [List.getElem?_toArray]; show (st.list.map u32v)[(k : Int).toNat * 1]? = _; rw [show (k : Int).toNat * 1 = k by omega]; exact get_u32' _ _ (by show k < 8; omega))) ?_
  refine asI rfl <| zq <| x_region <| mvS rfl <| mvI rfl <| tl_y rfl (y_u32u64 rfl) <| zca rfl (PutN_spec (st.list.getD k 0).toUInt64 4 (by omega)) ?_
  rintro _ M8 L8 hM8 ⟨rfl, A10, c10, rfl, hA10⟩
  refine tl_e rfl <| e_buildSlice rfl (by decide) <| fun b6 => .pub b6 iI <| fun M9 hM9 hb6 => ?_
  have hfl2 : [(st.list.take k).flatMap fun x => putB x.toNat 4, putB (st.list.getD k 0).toUInt64.toNat 4].flatten = (st.list.take (k + 1)).flatMap fun x => putB x.toNat 4 := by
   rw [take_snoc st.list k 0 (by show k < 8; omega)]; simp
  have hfl3 : ((st.list.take (k + 1)).flatMap fun x => putB x.toNat 4).length = 4 * (k + 1) := by
   rw [← hfl2, List.flatten_cons, List.flatten_cons, List.flatten_nil, List.append_nil, List.length_append, hA9.size, putB_length]; omega
  refine zca rfl (Cat_spec (Row.whole hb6 rfl (by omega)) (.cons (hA9.mono (hM8.trans hM9)) (.cons (hA10.mono hM9) .nil)) (by rw [hfl2, hfl3]; omega)) ?_
  rintro _ M10 L10 hM10 ⟨rfl, A11, c11, rfl, hA11⟩
  rw [hfl2, hfl3] at hA11
  rw [hfl2, hfl3]
  refine asS rfl <| tl_nil <| .block_normal <| .then_normal <| .s3 5 44 45 rfl rfl rfl <| x_region <| tl_y rfl (y_addI rfl rfl (by omega)) <| mvI rfl <| tl_nil <| .loop_next (m' := 8 - (k + 1)) (by omega) (F' := [(5, _), (44, _), (45, _)]) (cs3 rfl rfl rfl) ?_
  exact ⟨k + 1, A11, c11, rfl, by omega, hM7.trans (hM8.trans (hM9.trans hM10)), rfl, hA11, rfl, rfl⟩
 refine x_exit <| .then_exit <| .loop_exit <| .block_exit <| .then_normal <| zr <| mvS rfl <| asS rfl <| zq <| .s1 2 rfl <| x_ret (ret1 rfl rfl (hm.trans (hM6.trans hM7)) (by
  obtain rfl : k = 8 := by omega
  exact ⟨rfl, _, _, rfl, hA9⟩))
theorem One_spec (hg : ShaG M) {A : Option Addr} {n c : Nat} {bs : List UInt8} (h : Bytes M A n c bs) (hn : n ≤ 1099511627776) :
  Con Tryz.prog 232 #[.slice A n c] G M L (fun r M' L' => L' = L ∧ ∃ A' c', r = .slice A' 32 c' ∧ Bytes M' A' 32 c' (sha bs)) noPanic := by
 have hbl := h.size
 refine zfn Tryz.func232 rfl 10 rfl <| zr <| as0 rfl <| zq <| zr <| zca rfl (sNew_spec hg) ?_
 rintro _ M1 L1 hM1 ⟨rfl, p, rfl, rfl⟩
 refine asP rfl <| zq <| zr <| mvP rfl <| mvS rfl <| zca rfl (sWrite_spec hg h hn) ?_
 rintro _ M2 L2 hM2 ⟨A2, c2, rfl, hA2⟩
 refine zq <| .s1 3 rfl <| zr <| mvP rfl <| zca rfl (sSum_spec (hg.mono hM2) hA2 (by omega)) ?_
 rintro _ M3 L3 hM3 ⟨rfl, A3, c3, rfl, hA3⟩
 refine asS rfl <| zq <| x_ret (ret1 rfl rfl (hM2.trans hM3) ⟨rfl, A3, c3, rfl, by
  rw [sha_parts bs, hbl]
  rw [show n - 64 * (n / 64) + 9 + (119 - (n - 64 * (n / 64))) % 64 = n % 64 + 9 + (119 - n % 64) % 64 by omega, show (119 - (n - 64 * (n / 64))) % 64 = (119 - n % 64) % 64 by omega, ofInt64] at hA3
  rw [show ((0 : UInt64) + UInt64.ofNat n).toNat * 8 % 18446744073709551616 = n * 8 % 18446744073709551616 by rw [UInt64.toNat_add, UInt64.toNat_ofNat']; simp] at hA3
  exact hA3⟩)
end
structure OtsV where
 code : UInt32
 kind : Int
 n : Int
 w : Int
 p : Int
 shift : Int
deriving DecidableEq
structure TreeV where
 code : UInt32
 kind : Int
 n : Int
 h : Int
deriving DecidableEq
abbrev OtsV.cells (o : OtsV) : List Value := [.int .u32 (o.code.toNat : Int), .int .i64 o.kind, .int .i64 o.n, .int .i64 o.w, .int .i64 o.p, .int .i64 o.shift]
abbrev TreeV.cells (t : TreeV) : List Value := [.int .u32 (t.code.toNat : Int), .int .i64 t.kind, .int .i64 t.n, .int .i64 t.h]
def ots0 : OtsV := ⟨0, 0, 0, 0, 0, 0⟩
def tree0 : TreeV := ⟨0, 0, 0, 0⟩
def t8 (i : Nat) : Nat := if i = 0 then 0 else Nat.log2 i + 1
def lenT (x : Nat) : Nat := if 256 ≤ x then 8 + t8 (x / 256) else t8 x
def shU (n w : Nat) : Nat := 8 * n / w
def shX (n w : Nat) : Nat := (2 ^ w - 1) * shU n w
def shV (n w : Nat) : Nat := (lenT (shX n w) + w - 1) / w
def shS (n w : Nat) : Nat := 16 - shV n w * w
def isW (w : Nat) : Prop := w = 1 ∨ w = 2 ∨ w = 4 ∨ w = 8
def isN (n : Nat) : Prop := n = 24 ∨ n = 32
theorem shape_fact {n w : Nat} (hn : isN n) (hw : isW w) : (1 ≤ w ∧ w ≤ 8) ∧ shX n w < 65536 ∧ shV n w * w ≤ 16 ∧ shU n w ≤ 256 ∧ 1 ≤ shU n w ∧ shV n w ≤ 9 ∧ 1 ≤ shV n w ∧ lenT (shX n w) ≤ 16 ∧ 2 ^ w ≤ 256 ∧ 2 ≤ 2 ^ w := by
 rcases hn with rfl | rfl <;> rcases hw with rfl | rfl | rfl | rfl <;> decide
theorem all256 {p : Nat → Prop} (h : ∀ i : Fin 256, p i.val) (x : Nat) (hx : x < 256) : p x := h ⟨x, hx⟩
theorem t8_le (i : Nat) (h : i < 256) : t8 i ≤ 8 := all256 (p := fun i => t8 i ≤ 8) (by decide +kernel) i h
def pw2 (k : Nat) : Nat := 2 ^ k
theorem pw2_le {j k : Nat} (h : j ≤ k) : pw2 j ≤ pw2 k := Nat.pow_le_pow_right (by omega) h
theorem pw2_w {w : Nat} (h : isW w) : 2 ≤ pw2 w ∧ pw2 w ≤ 256 := by rcases h with rfl | rfl | rfl | rfl <;> decide
theorem shl1_w {w : Nat} (h : isW w) : IntKind.i64.wrap (1 * 2 ^ (min ((w : Nat) : Int).toNat IntKind.i64.bits)) = ((2 ^ w : Nat) : Int) := by
 rcases h with rfl | rfl | rfl | rfl <;> rfl
def szN (i : Nat) : Nat := if i % 2 = 1 then 24 else 32
def otsT (i : Nat) : OtsV := ⟨UInt32.ofNat (i + 1), ((i / 8 : Nat) : Int), ((szN (i / 4) : Nat) : Int), ((2 ^ (i % 4) : Nat) : Int), ((shU (szN (i / 4)) (2 ^ (i % 4)) + shV (szN (i / 4)) (2 ^ (i % 4)) : Nat) : Int), ((shS (szN (i / 4)) (2 ^ (i % 4)) : Nat) : Int)⟩
theorem szN_is (i : Nat) : isN (szN i) := by unfold szN; split; exact .inl rfl; exact .inr rfl
theorem w_is (i : Nat) : isW (2 ^ (i % 4)) := by
 rcases (by omega : i % 4 = 0 ∨ i % 4 = 1 ∨ i % 4 = 2 ∨ i % 4 = 3) with h | h | h | h <;> rw [h]
 ·
  exact .inl rfl
 ·
  exact .inr (.inl rfl)
 ·
  exact .inr (.inr (.inl rfl))
 exact .inr (.inr (.inr rfl))
def otsOf (c : UInt32) : Option OtsV := if 1 ≤ c.toNat ∧ c.toNat ≤ 16 then some (otsT (c.toNat - 1)) else none
def otsV (c : UInt32) : OtsV := (otsOf c).getD ots0
def otsE (c : UInt32) : Int := if (otsOf c).isSome then 0 else 4
def treeT (c : UInt32) (i each : Nat) : TreeV := ⟨c, ((i / each / 2 : Nat) : Int), ((szN (i / each) : Nat) : Int), ((if each = 5 then 5 * (1 + i % 5) else 1 + i % 4 : Nat) : Int)⟩
def treeOf (c : UInt32) : Option TreeV :=
 if 5 ≤ c.toNat ∧ c.toNat ≤ 24 then some (treeT c (c.toNat - 5) 5)
 else if 4026531841 ≤ c.toNat ∧ c.toNat ≤ 4026531856 then some (treeT c (c.toNat - 4026531841) 4) else none
def treeV (c : UInt32) : TreeV := (treeOf c).getD tree0
def treeE (c : UInt32) : Int := if (treeOf c).isSome then 0 else 4
def okC (kind n : Int) : Prop := (kind = 0 ∨ kind = 1) ∧ (n = 24 ∨ n = 32)
instance {kind n : Int} : Decidable (okC kind n) := inferInstanceAs (Decidable (_ ∧ _))
def okR (o : OtsV) (nl : Nat) (i : Int) (xl : Nat) : Prop := otsE o.code = 0 ∧ otsV o.code = o ∧ nl = 16 ∧ 0 ≤ i ∧ i < o.p ∧ (xl : Int) = o.n
instance {o : OtsV} {nl : Nat} {i : Int} {xl : Nat} : Decidable (okR o nl i xl) := inferInstanceAs (Decidable (_ ∧ _))
theorem otsE_some {c : UInt32} (h : otsE c = 0) : ∃ k, k < 16 ∧ otsOf c = some (otsT k) ∧ otsV c = otsT k ∧ c.toNat = k + 1 := by
 unfold otsE at h
 unfold otsV
 by_cases hc : 1 ≤ c.toNat ∧ c.toNat ≤ 16
 ·
  have e : otsOf c = some (otsT (c.toNat - 1)) := by rw [otsOf, if_pos hc]
  exact ⟨c.toNat - 1, by omega, e, by rw [e]; rfl, by omega⟩
 rw [show otsOf c = none by rw [otsOf, if_neg hc]] at h
 exact absurd h (by decide)
theorem otsT_facts {k : Nat} (h : k < 16) : okC (otsT k).kind (otsT k).n ∧ 26 ≤ (otsT k).p ∧ (otsT k).p ≤ 265 ∧ ∃ w, isW w ∧ (otsT k).w = ((w : Nat) : Int) := by
 have hs := szN_is (k / 4)
 have hw := w_is k
 have hf := shape_fact hs hw
 have : ∀ j : Fin 16, okC (otsT j.val).kind (otsT j.val).n ∧ 26 ≤ (otsT j.val).p ∧ (otsT j.val).p ≤ 265 := by decide +kernel
 obtain ⟨h1, h2, h3⟩ := this ⟨k, h⟩
 exact ⟨h1, h2, h3, 2 ^ (k % 4), hw, rfl⟩
theorem okR_facts {o : OtsV} {nl : Nat} {i : Int} {xl : Nat} (h : okR o nl i xl) : okC o.kind o.n ∧ o.p ≤ 265 ∧ ∃ w, isW w ∧ o.w = ((w : Nat) : Int) := by
 obtain ⟨h1, h2, _⟩ := h
 obtain ⟨k, hk, e1, e2, _⟩ := otsE_some h1
 rw [← h2, e2]
 exact ⟨(otsT_facts hk).1, (otsT_facts hk).2.2.1, (otsT_facts hk).2.2.2⟩
theorem ots_eq {a b : OtsV} (h : (a.code.toNat : Int) = b.code.toNat ∧ a.kind = b.kind ∧ a.n = b.n ∧ a.w = b.w ∧ a.p = b.p ∧ a.shift = b.shift ∧ True) : a = b := by
 obtain ⟨h1, h2, h3, h4, h5, h6, _⟩ := h
 cases a; cases b
 simp only [OtsV.mk.injEq]
 exact ⟨UInt32.toNat_inj.1 (Int.ofNat_inj.1 h1), h2, h3, h4, h5, h6⟩
theorem eq_ots {a b : OtsV} (h : a = b) : (a.code.toNat : Int) = b.code.toNat ∧ a.kind = b.kind ∧ a.n = b.n ∧ a.w = b.w ∧ a.p = b.p ∧ a.shift = b.shift ∧ True := by
 subst h; exact ⟨rfl, rfl, rfl, rfl, rfl, rfl, trivial⟩
section
variable {G : World} {M : Mem} {L : Own}
theorem shr8N (x : Nat) : Int.fdiv (x : Int) (2 ^ (min (Int.toNat 8) IntKind.u64.bits)) = ((x / 256 : Nat) : Int) := by
 show Int.fdiv (x : Int) 256 = _
 rw [Int.fdiv_eq_ediv_of_nonneg _ (by decide)]; omega
theorem len64_spec (x : Nat) (hx : x < 65536) :
  Con Tryz.prog 212 #[.int .u64 (x : Int)] G M L (fun v M' L' => M = M' ∧ L = L' ∧ v = .int .i64 (lenT x : Nat)) noPanic := by
 refine zfn Tryz.func212 rfl 25 rfl <| zr <| as0 rfl <| zq <| zr2 <| mvI rfl <| tl_y rfl (y_geq rfl rfl) <| zq <| x_false rfl (by rw [decide_eq_false]; omega) <| x_skip <| .then_normal <| zr2 <| mvI rfl <| tl_y rfl (y_geq rfl rfl) <| zq <| x_false rfl (by rw [decide_eq_false]; omega) <| x_skip <| .then_normal <| .s2 0 2 rfl rfl <| zr2 <| mvI rfl <| tl_y rfl (y_geq rfl rfl) <| zq <| x_cond rfl (fun hc3 => ?_) (fun hc3 => ?_)
 ·
  have ht := t8_le (x / 256) (by omega)
  refine zr <| mvI rfl <| tl_y rfl (y_shr rfl rfl (by omega)) ?_
  rw [shr8N]
  refine asI rfl <| zq <| .s2 0 2 rfl rfl <| x_region <| mvI rfl <| tl_y rfl (y_addI rfl rfl (by omega)) <| asI rfl <| zq <| zr <| mvI rfl <| mvI rfl <| tl_y rfl (y_convN8 rfl (by omega)) <| tl_y rfl (y_indexStr rfl rfl (by omega) (by rw [Int.toNat_natCast]; exact all256 (p := fun i => _ = some (UInt8.ofNat (t8 i))) (by decide +kernel) (x / 256) (by omega))) ?_
  rw [show (UInt8.ofNat (t8 (x / 256))).toNat = t8 (x / 256) by rw [UInt8.toNat_ofNat']; omega]
  refine tl_y rfl (y_convI rfl (by omega)) <| tl_y rfl (y_addI rfl rfl (by omega)) <| asI rfl <| zq <| .s1 2 rfl <| x_ret (ret1 rfl rfl lR ⟨rfl, rfl, by
   rw [lenT, if_pos (by omega)]; rfl⟩)
 have ht := t8_le x (by omega)
 refine x_skip <| .then_normal <| zr <| mvI rfl <| mvI rfl <| tl_y rfl (y_convN8 rfl (by omega)) <| tl_y rfl (y_indexStr rfl rfl (by omega) (by rw [Int.toNat_natCast]; exact all256 (p := fun i => _ = some (UInt8.ofNat (t8 i))) (by decide +kernel) x (by omega))) ?_
 rw [show (UInt8.ofNat (t8 x)).toNat = t8 x by rw [UInt8.toNat_ofNat']; omega]
 refine tl_y rfl (y_convI rfl (by omega)) <| tl_y rfl (y_addI rfl rfl (by omega)) <| asI rfl <| zq <| .s1 2 rfl <| x_ret (ret1 rfl rfl lR ⟨rfl, rfl, by
  rw [lenT, if_neg (by omega)]; congr 1; omega⟩)
theorem len_spec (x : Nat) (hx : x < 65536) :
  Con Tryz.prog 160 #[.int .u64 (x : Int)] G M L (fun v M' L' => M = M' ∧ L = L' ∧ v = .int .i64 (lenT x : Nat)) noPanic := by
 refine zfn Tryz.func160 rfl 8 rfl <| zr <| as0 rfl <| zq <| x_seq <| x_false rfl rfl <| x_skip <| .then_normal <| zr <| mvI rfl <| zca rfl (len64_spec x hx) ?_
 rintro _ _ _ _ ⟨rfl, rfl, rfl⟩
 refine asI rfl <| zq <| x_ret (ret1 rfl rfl lR ⟨rfl, rfl, rfl⟩)
theorem widths_spec :
  Con Tryz.prog 239 #[] G M L (fun v M' L' => M = M' ∧ L = L' ∧ v = .agg #[.int .i64 1, .int .i64 2, .int .i64 4, .int .i64 8]) noPanic := by
 refine zfn Tryz.func239 rfl 2 rfl <| zr <| tl_e rfl <| e_alloc <| fun b1 => zq <| zr <| tl_y rfl (y_buildArr rfl) <| tl_e rfl <| e_sT rfl rfl <| zq <| x_ret (retRV (L' := L) (rv1 rfl (rc_cellAgg (by rfl) rfl (.own iI iI))) iI lR ⟨rfl, rfl, rfl⟩)
theorem dMay_spec (w : Int) :
  Con Tryz.prog 191 #[.int .i64 w] G M L (fun v M' L' => L = L' ∧ v = .bool (decide (w ∈ [1, 2, 4, 8]))) noPanic := by
 refine zfn Tryz.func191 rfl 8 rfl <| zr <| as0 rfl <| zq <| zr <| zca rfl widths_spec ?_
 rintro _ _ _ _ ⟨rfl, rfl, rfl⟩
 refine tl_e rfl <| e_alloc <| fun b1 => tl_e rfl <| e_sT rfl rfl <| zq <| zr <| tl_y rfl (y_sliceArr rfl) <| mvI rfl <| .pub b1 iI <| fun M1 hM1 hb1 => ?_
 have hrow : Ints M1 (some ⟨b1, 0, none⟩) 4 4 [1, 2, 4, 8] := Row.whole hb1 rfl (by omega)
 refine zca rfl (containsInts_spec hrow w) ?_
 rintro _ _ _ _ ⟨rfl, rfl, rfl⟩
 refine asB rfl <| zq <| .s1 2 rfl <| x_ret (ret1 rfl rfl hM1 ⟨rfl, rfl⟩)
theorem isW_mem {w : Nat} (h : isW w) : decide (((w : Nat) : Int) ∈ ([1, 2, 4, 8] : List Int)) = true := by rcases h with rfl | rfl | rfl | rfl <;> rfl
theorem Shape_spec {n w : Nat} (hn : isN n) (hw : isW w) :
  Con Tryz.prog 146 #[.int .i64 (n : Int), .int .i64 (w : Int)] G M L (fun v M' L' => L = L' ∧ v = .tuple #[.int .i64 (shU n w : Nat), .int .i64 (shV n w : Nat), .int .i64 (shS n w : Nat)]) noPanic := by
 obtain ⟨h1, h2, h3, h4, h5, h6, h7, h8, h9, h10⟩ := shape_fact hn hw
 have hnb : 24 ≤ n ∧ n ≤ 32 := by rcases hn with rfl | rfl <;> omega
 have hu : (8 * (n : Int)) / (w : Int) = ((shU n w : Nat) : Int) := by rw [shU]; simp
 have hx : (((2 ^ w : Nat) : Int) - 1) * ((shU n w : Nat) : Int) = ((shX n w : Nat) : Int) := by
  rw [shX, show ((2 ^ w : Nat) : Int) - 1 = ((2 ^ w - 1 : Nat) : Int) by omega]; simp
 have hv : (((lenT (shX n w) : Nat) : Int) + (w : Int) - 1) / (w : Int) = ((shV n w : Nat) : Int) := by
  rw [shV, show ((lenT (shX n w) : Nat) : Int) + (w : Int) - 1 = ((lenT (shX n w) + w - 1 : Nat) : Int) by omega]; simp
 have hs : ((shV n w : Nat) : Int) * (w : Int) = ((shV n w * w : Nat) : Int) := by simp
 refine zfn Tryz.func146 rfl 42 rfl <| zr <| as0 rfl <| as0 rfl <| as0 rfl <| zq <| zr2 <| mvI rfl <| tl_y rfl (y_lss rfl rfl) <| mvB rfl <| tl_set (s := 11) (u := .bool false) rfl (by rw [decide_eq_false]; omega) <| mvI rfl <| tl_y rfl (y_gtr rfl rfl) <| tPf rfl rfl <| mvB rfl <| tl_set (s := 15) (u := .bool false) rfl (by rw [decide_eq_false]; omega) <| mvI rfl <| zca rfl (dMay_spec _) ?_
 rintro _ M1 _ hM1 ⟨rfl, rfl⟩
 rw [isW_mem hw]
 refine tl_y rfl (y_not rfl) <| tPf rfl rfl <| zq <| .s3 0 1 19 rfl rfl rfl <| x_false rfl (rfl) <| x_skip <| .then_normal <| zr <| mvI rfl <| tl_y rfl (y_mulI rfl rfl (by omega)) <| mvI rfl <| tl_y rfl (y_quoI rfl rfl (by omega)) ?_
 rw [hu]
 refine asI rfl <| zq <| .s2 1 7 rfl rfl <| zr <| mvI rfl <| tl_y rfl (y_shl rfl rfl (by omega)) ?_
 rw [shl1_w hw]
 refine tl_y rfl (y_subI rfl rfl (by omega)) <| mvI rfl <| tl_y rfl (y_mulI rfl rfl (by rw [hx]; omega)) ?_
 rw [hx]
 refine tl_y rfl (y_convN64 rfl (by omega)) ?_
 refine zca rfl (len_spec (shX n w) h2) ?_
 rintro _ _ _ _ ⟨rfl, rfl, rfl⟩
 refine mvI rfl <| tl_y rfl (y_addI rfl rfl (by omega)) <| tl_y rfl (y_subI rfl rfl (by omega)) <| mvI rfl <| tl_y rfl (y_quoI rfl rfl (by omega)) ?_
 rw [hv]
 refine asI rfl <| zq <| .s3 1 7 8 rfl rfl rfl <| zr <| mvI rfl <| mvI rfl <| mvI rfl <| mvI rfl <| tl_y rfl (y_mulI rfl rfl (by rw [hs]; omega)) ?_
 rw [hs]
 refine tl_y rfl (y_subI rfl rfl (by omega)) ?_
 rw [show (16 : Int) - ((shV n w * w : Nat) : Int) = ((shS n w : Nat) : Int) by rw [shS]; omega]
 refine asI rfl <| asI rfl <| asI rfl <| zq <| .s3 4 5 6 rfl rfl rfl <| x_ret (ret3 rfl rfl rfl rfl hM1 ⟨rfl, rfl⟩)
structure SetG (M : Mem) : Prop where
 sums : ∃ T fr, M 3 = some (.cells #[.int .i64 0, .int .i64 32, .int .i64 0, .int .i64 24, .int .i64 1, .int .i64 32, .int .i64 1, .int .i64 24] T fr)
 widths : ∃ T fr, M 0 = some (.cells #[.int .i64 1, .int .i64 2, .int .i64 4, .int .i64 8] T fr)
theorem SetG.mono {M M' : Mem} (h : SetG M) (hle : Le M M') : SetG M' := ⟨let ⟨T, fr, a⟩ := h.sums; ⟨T, fr, hle _ _ a⟩, let ⟨T, fr, a⟩ := h.widths; ⟨T, fr, hle _ _ a⟩⟩
structure SetT (M : Mem) : Prop where
 sums : ∃ T fr, M 3 = some (.cells #[.int .i64 0, .int .i64 32, .int .i64 0, .int .i64 24, .int .i64 1, .int .i64 32, .int .i64 1, .int .i64 24] T fr)
 heights : ∃ T fr, M 2 = some (.cells #[.int .i64 5, .int .i64 10, .int .i64 15, .int .i64 20, .int .i64 25] T fr)
 own : ∃ T fr, M 1 = some (.cells #[.int .i64 1, .int .i64 2, .int .i64 3, .int .i64 4] T fr)
theorem SetT.mono {M M' : Mem} (h : SetT M) (hle : Le M M') : SetT M' :=
 ⟨let ⟨T, fr, a⟩ := h.sums; ⟨T, fr, hle _ _ a⟩, let ⟨T, fr, a⟩ := h.heights; ⟨T, fr, hle _ _ a⟩, let ⟨T, fr, a⟩ := h.own; ⟨T, fr, hle _ _ a⟩⟩
def unkv : Value := .iface 273 (.agg #[])
def unks : List PanicEntry := [{ v := unkv, recovered := false }]
theorem sums_at (j : Nat) (h : j < 4) : CutAt [Value.int .i64 0, .int .i64 32, .int .i64 0, .int .i64 24, .int .i64 1, .int .i64 32, .int .i64 1, .int .i64 24] (j * 2) 2 [.int .i64 ((j / 2 : Nat) : Int), .int .i64 ((szN j : Nat) : Int)] := by
 refine ⟨fun i v hi => ?_, rfl⟩
 rcases (by omega : j = 0 ∨ j = 1 ∨ j = 2 ∨ j = 3) with rfl | rfl | rfl | rfl <;> (match i, hi with | 0, hi => exact hi | 1, hi => exact hi | i + 2, hi => simp at hi)
theorem CellsN.ro {M : Mem} {L : Own} {b i n : Nat} {c vs : List Value} {T : TypeId} {fr : Nat × Nat} (hM : M b = some (.cells c.toArray T fr)) (hg : CutAt c i n vs) : CellsN M L ⟨b, i, none⟩ n vs := by
 refine ⟨fun w hw j v hj => ?_, hg.len⟩
 have := hg.cut j v hj
 have h2 := hw.ro _ _ hM
 simp [World.cell?, h2, this, add_plain]
theorem setsAt_spec (hs0 : ∃ T fr, M 3 = some (.cells #[.int .i64 0, .int .i64 32, .int .i64 0, .int .i64 24, .int .i64 1, .int .i64 32, .int .i64 1, .int .i64 24] T fr)) (code first : UInt32) (each : Nat) (he : 4 ≤ each ∧ each ≤ 5) :
  Con Tryz.prog 145 #[.int .u32 (code.toNat : Int), .int .u32 (first.toNat : Int), .int .i64 (each : Int)] G M L
   (fun v M' L' => M = M' ∧ L' = L ∧ first.toNat ≤ code.toNat ∧ code.toNat - first.toNat < each * 4 ∧ v = .tuple #[.agg #[.int .i64 (((code.toNat - first.toNat) / each / 2 : Nat) : Int), .int .i64 ((szN ((code.toNat - first.toNat) / each) : Nat) : Int)], .int .i64 (((code.toNat - first.toNat) % each : Nat) : Int)])
   (fun ch M' L' => M = M' ∧ L' = L ∧ ¬ (first.toNat ≤ code.toNat ∧ code.toNat - first.toNat < each * 4) ∧ ch = unks) := by
 have hc := code.toNat_lt
 have hf := first.toNat_lt
 obtain ⟨st, sf, hs⟩ := hs0
 refine zfn Tryz.func145 rfl 32 rfl <| zr <| tl_e rfl <| e_alloc <| fun b1 => as0 rfl <| zq <| zr <| mvI rfl <| tl_y rfl (y_convI rfl (by omega)) <| mvI rfl <| tl_y rfl (y_convI rfl (by omega)) <| tl_y rfl (y_subI rfl rfl (by omega)) <| asI rfl <| zq <| .s3 2 6 8 rfl rfl rfl <| zr2 <| mvI rfl <| tl_y rfl (y_lss rfl rfl) <| mvB rfl <| tl_cases (s := 16) rfl (fun hk1 => ?_) (fun hk1 => ?_)
 ·
  refine sk4 rfl rfl rfl rfl <| tPt rfl rfl <| zq <| .s4 2 6 8 21 rfl rfl rfl rfl <| x_true rfl rfl <| x_region <| tl_y rfl (y_build rfl) <| tl_y rfl (y_makeIface rfl (by intro _ h; cases h)) <| tl_e rfl (e_panic rfl (TP.dropTo L iI (.retA rfl lR ⟨rfl, rfl, by omega, rfl⟩)))
 obtain ⟨q, hq⟩ : ∃ q : Nat, (code.toNat : Int) - (first.toNat : Int) = (q : Int) := ⟨code.toNat - first.toNat, by omega⟩
 rw [hq] at hk1 ⊢
 refine mvI rfl <| mvI rfl <| tl_y rfl (y_mulI rfl rfl (by omega)) <| tl_y rfl (y_geq rfl rfl) <| tPf rfl rfl <| zq <| .s4 2 6 8 21 rfl rfl rfl rfl <| x_cond rfl (fun hc1 => ?_) (fun hc1 => ?_)
 ·
  refine x_region <| tl_y rfl (y_build rfl) <| tl_y rfl (y_makeIface rfl (by intro _ h; cases h)) <| tl_e rfl (e_panic rfl (TP.dropTo L iI (.retA rfl lR ⟨rfl, rfl, by omega, rfl⟩)))
 have hqe : q / each < 4 := (Nat.div_lt_iff_lt_mul (by omega)).2 (by omega)
 have e1 : (q : Int) / (each : Int) = ((q / each : Nat) : Int) := by simp
 have e2 : (q : Int) % (each : Int) = ((q % each : Nat) : Int) := by simp
 have hql := Nat.div_le_self q each
 obtain ⟨qe, hqd⟩ : ∃ qe, qe = q / each := ⟨_, rfl⟩
 rw [← hqd] at e1 hqe hql
 refine x_skip <| .then_normal <| x_seq <| x_draw 8 hmix rfl <| pmI 0 rfl rfl <| pmI 1 rfl rfl <| zp 2 rfl rfl (y_quoI rfl rfl (by omega)) ?_
 rw [e1]
 refine zp 3 rfl rfl (y_indexArr rfl rfl (by omega)) <| zy 4 rfl rfl (y_loadAgg rfl rfl (CellsN.at_ (CellsN.ro hs (sums_at qe hqe)) (by omega))) <| pmI 5 rfl rfl <| pmI 6 rfl rfl <| zp 7 rfl rfl (y_remI rfl rfl (by omega)) ?_
 rw [e2]
 refine zt 8 rfl rfl <| e_sT rfl rfl <| paI 9 rfl rfl <| zz <| .then_normal <| .s2 6 7 rfl rfl <| x_ret (retRV (L' := L) (rv2 rfl (rc_cellAgg (by rfl) rfl (.own iI iI)) (rc_tmp (by rfl))) iI lR ⟨rfl, rfl, by omega, by omega, by rw [show code.toNat - first.toNat = q by omega, ← hqd]⟩)
end
theorem widths_get (j : Nat) (h : j < 4) : [Value.int .i64 1, .int .i64 2, .int .i64 4, .int .i64 8][j]? = some (.int .i64 ((2 ^ j : Nat) : Int)) := by
 rcases (by omega : j = 0 ∨ j = 1 ∨ j = 2 ∨ j = 3) with rfl | rfl | rfl | rfl <;> rfl
theorem heights_get (j : Nat) (h : j < 5) : [Value.int .i64 5, .int .i64 10, .int .i64 15, .int .i64 20, .int .i64 25][j]? = some (.int .i64 ((5 * (1 + j) : Nat) : Int)) := by
 rcases (by omega : j = 0 ∨ j = 1 ∨ j = 2 ∨ j = 3 ∨ j = 4) with rfl | rfl | rfl | rfl | rfl <;> rfl
theorem own_get (j : Nat) (h : j < 4) : [Value.int .i64 1, .int .i64 2, .int .i64 3, .int .i64 4][j]? = some (.int .i64 ((1 + j : Nat) : Int)) := by
 rcases (by omega : j = 0 ∨ j = 1 ∨ j = 2 ∨ j = 3) with rfl | rfl | rfl | rfl <;> rfl
section
variable {G : World} {M : Mem} {L : Own}
abbrev cOB (b : Nat) (o : OtsV) : Nat × Obj := (b, .cells (List.toArray o.cells) 103 (0, 0))
theorem caughtO1_ret {b c : Nat} {x : Int} {o : OtsV} : ConD Tryz.prog 190 #[.pointer (some ⟨b, 0, none⟩), .pointer (some ⟨c, 0, none⟩)] .returning G M ((c, .cells #[.int .i64 x] 25 (0, 0)) :: cOB b o :: L) (fun u' M' L' => u' = .returning ∧ M' = M ∧ L' = (c, .cells #[.int .i64 x] 25 (0, 0)) :: cOB b o :: L) := by
 refine enterRec (args := [_, _]) (fn := Tryz.f190) ⟨Tryz.func190, rfl, by kernel_rfl, by kernel_rfl⟩ 13 rfl rfl <| x_block <| zr <| tl_y rfl (y_eqNilIface rfl rfl) <| zq <| x_true rfl (rfl) <| x_region <| as0 rfl <| tl_nil (.block_normal (.rec_normal lR ⟨rfl, rfl, rfl⟩))
theorem caughtO1_unk {b c : Nat} {x : Int} {o : OtsV} : ConD Tryz.prog 190 #[.pointer (some ⟨b, 0, none⟩), .pointer (some ⟨c, 0, none⟩)] (.panicking unks) G M ((c, .cells #[.int .i64 x] 25 (0, 0)) :: cOB b o :: L)
  (fun u' M' L' => u' = .panicking [{ v := unkv, recovered := true }] ∧ M' = M ∧ L' = (c, .cells #[.int .i64 4] 25 (0, 0)) :: cOB b ots0 :: L) := by
 refine enterRec (args := [_, _]) (fn := Tryz.f190) ⟨Tryz.func190, rfl, by kernel_rfl, by kernel_rfl⟩ 13 rfl rfl <| x_block <| zr <| tl_y rfl (y_eqIfaceNil rfl rfl) <| zq <| x_false rfl (rfl) <| zr <| tl_y rfl (y_assertOk rfl (by intro _ h; cases h)) <| zx rfl <| zx rfl <| zq <| x_true rfl (rfl) <| zr <| tl_e rfl <| e_alloc <| fun b1 => tl_e rfl <| e_sT rfl rfl <| zq <| .s2 0 1 rfl rfl <| zr <| tl_e rfl <| e_alloc <| fun b2 => zq <| x_region <| tLg rfl rfl <| tl_e rfl <| e_sT rfl rfl <| tl_e rfl <| e_sT rfl rfl <| tl_nil (.block_normal (.dropTo ((c, .cells #[.int .i64 4] 25 (0, 0)) :: (b, .cells #[.int .u32 0, .int .i64 0, .int .i64 0, .int .i64 0, .int .i64 0, .int .i64 0] 103 (0, 0)) :: L) iI (.rec_normal lR ⟨rfl, rfl, rfl⟩)))
theorem caughtO_spec {wf : FuncId} {first cap : List Value} {r : Option OtsV}
  (hw : ∀ p q, Con Tryz.prog wf (first ++ [] ++ cap).toArray G M (p :: q :: L) (fun v M' L' => L' = p :: q :: L ∧ ∃ o, r = some o ∧ v = .agg (List.toArray o.cells)) (fun ch M' L' => L' = p :: q :: L ∧ r = none ∧ ch = unks)) :
  Con Tryz.prog 143 #[.func (.func wf) first.toArray cap.toArray] G M L (fun v M' L' => L = L' ∧ v = .tuple #[.agg (List.toArray (r.getD ots0).cells), .int .i64 (if r.isSome then 0 else 4)]) noPanic := by
 refine enterD (args := [_]) (fn := Tryz.f143) ⟨Tryz.func143, rfl, by kernel_rfl, by kernel_rfl⟩ 7 rfl <| zr <| tl_e rfl <| e_alloc <| fun b1 => tl_e rfl <| e_alloc <| fun b2 => zq <| zr <| tl_y rfl (y_makeFunc rfl rfl) <| tl_e rfl <| e_defer rfl rfl rfl <| zq <| zr <| mvF rfl <| tl_e rfl (e_callv rfl rfl (hw _ _) (by
  rintro _ M1 _ hM1 ⟨rfl, hr, rfl⟩
  refine .retD (cap := [_, _]) (args := []) (caughtO1_unk (o := ots0)) ?_
  rintro _ M2 _ hM2 ⟨rfl, rfl, rfl⟩
  exact .inl ⟨rfl, _, L, rv2 rfl (rc_cellAgg (by rfl) rfl (.own iI iI)) (rc_cell (by rfl) rfl (.own iI iI)), iI, hM1, rfl, by rw [hr]; rfl⟩) ?_)
 rintro _ M1 _ hM1 ⟨rfl, o, hr, rfl⟩
 refine tl_e rfl <| e_sT rfl rfl <| tl_e rfl <| e_sT rfl rfl <| zq <| .s2 2 3 rfl rfl <| x_ret <| .retD (cap := [_, _]) (args := []) (caughtO1_ret (o := o)) ?_
 rintro _ M2 _ hM2 ⟨rfl, rfl, rfl⟩
 exact .inl ⟨rfl, _, L, rv2 rfl (rc_cellAgg (by rfl) rfl (.own iI iI)) (rc_cell (by rfl) rfl (.own iI iI)), iI, hM1, rfl, by rw [hr]; rfl⟩
abbrev cTB (b : Nat) (o : TreeV) : Nat × Obj := (b, .cells (List.toArray o.cells) 105 (0, 0))
theorem caughtT1_ret {b c : Nat} {x : Int} {o : TreeV} : ConD Tryz.prog 238 #[.pointer (some ⟨b, 0, none⟩), .pointer (some ⟨c, 0, none⟩)] .returning G M ((c, .cells #[.int .i64 x] 25 (0, 0)) :: cTB b o :: L) (fun u' M' L' => u' = .returning ∧ M' = M ∧ L' = (c, .cells #[.int .i64 x] 25 (0, 0)) :: cTB b o :: L) := by
 refine enterRec (args := [_, _]) (fn := Tryz.f238) ⟨Tryz.func238, rfl, by kernel_rfl, by kernel_rfl⟩ 13 rfl rfl <| x_block <| zr <| tl_y rfl (y_eqNilIface rfl rfl) <| zq <| x_true rfl (rfl) <| x_region <| as0 rfl <| tl_nil (.block_normal (.rec_normal lR ⟨rfl, rfl, rfl⟩))
theorem caughtT1_unk {b c : Nat} {x : Int} {o : TreeV} : ConD Tryz.prog 238 #[.pointer (some ⟨b, 0, none⟩), .pointer (some ⟨c, 0, none⟩)] (.panicking unks) G M ((c, .cells #[.int .i64 x] 25 (0, 0)) :: cTB b o :: L)
  (fun u' M' L' => u' = .panicking [{ v := unkv, recovered := true }] ∧ M' = M ∧ L' = (c, .cells #[.int .i64 4] 25 (0, 0)) :: cTB b tree0 :: L) := by
 refine enterRec (args := [_, _]) (fn := Tryz.f238) ⟨Tryz.func238, rfl, by kernel_rfl, by kernel_rfl⟩ 13 rfl rfl <| x_block <| zr <| tl_y rfl (y_eqIfaceNil rfl rfl) <| zq <| x_false rfl (rfl) <| zr <| tl_y rfl (y_assertOk rfl (by intro _ h; cases h)) <| zx rfl <| zx rfl <| zq <| x_true rfl (rfl) <| zr <| tl_e rfl <| e_alloc <| fun b1 => tl_e rfl <| e_sT rfl rfl <| zq <| .s2 0 1 rfl rfl <| zr <| tl_e rfl <| e_alloc <| fun b2 => zq <| x_region <| tLg rfl rfl <| tl_e rfl <| e_sT rfl rfl <| tl_e rfl <| e_sT rfl rfl <| tl_nil (.block_normal (.dropTo ((c, .cells #[.int .i64 4] 25 (0, 0)) :: (b, .cells #[.int .u32 0, .int .i64 0, .int .i64 0, .int .i64 0] 105 (0, 0)) :: L) iI (.rec_normal lR ⟨rfl, rfl, rfl⟩)))
theorem caughtT_spec {wf : FuncId} {first cap : List Value} {r : Option TreeV}
  (hw : ∀ p q, Con Tryz.prog wf (first ++ [] ++ cap).toArray G M (p :: q :: L) (fun v M' L' => L' = p :: q :: L ∧ ∃ o, r = some o ∧ v = .agg (List.toArray o.cells)) (fun ch M' L' => L' = p :: q :: L ∧ r = none ∧ ch = unks)) :
  Con Tryz.prog 187 #[.func (.func wf) first.toArray cap.toArray] G M L (fun v M' L' => L = L' ∧ v = .tuple #[.agg (List.toArray (r.getD tree0).cells), .int .i64 (if r.isSome then 0 else 4)]) noPanic := by
 refine enterD (args := [_]) (fn := Tryz.f187) ⟨Tryz.func187, rfl, by kernel_rfl, by kernel_rfl⟩ 7 rfl <| zr <| tl_e rfl <| e_alloc <| fun b1 => tl_e rfl <| e_alloc <| fun b2 => zq <| zr <| tl_y rfl (y_makeFunc rfl rfl) <| tl_e rfl <| e_defer rfl rfl rfl <| zq <| zr <| mvF rfl <| tl_e rfl (e_callv rfl rfl (hw _ _) (by
  rintro _ M1 _ hM1 ⟨rfl, hr, rfl⟩
  refine .retD (cap := [_, _]) (args := []) (caughtT1_unk (o := tree0)) ?_
  rintro _ M2 _ hM2 ⟨rfl, rfl, rfl⟩
  exact .inl ⟨rfl, _, L, rv2 rfl (rc_cellAgg (by rfl) rfl (.own iI iI)) (rc_cell (by rfl) rfl (.own iI iI)), iI, hM1, rfl, by rw [hr]; rfl⟩) ?_)
 rintro _ M1 _ hM1 ⟨rfl, o, hr, rfl⟩
 refine tl_e rfl <| e_sT rfl rfl <| tl_e rfl <| e_sT rfl rfl <| zq <| .s2 2 3 rfl rfl <| x_ret <| .retD (cap := [_, _]) (args := []) (caughtT1_ret (o := o)) ?_
 rintro _ M2 _ hM2 ⟨rfl, rfl, rfl⟩
 exact .inl ⟨rfl, _, L, rv2 rfl (rc_cellAgg (by rfl) rfl (.own iI iI)) (rc_cell (by rfl) rfl (.own iI iI)), iI, hM1, rfl, by rw [hr]; rfl⟩
theorem Ots1_spec (hg : SetG M) (code : UInt32) {b : Nat} [hb : Has L b (.cells #[.int .u32 (code.toNat : Int)] 61 (0, 0))] :
  Con Tryz.prog 144 #[.pointer (some ⟨b, 0, none⟩)] G M L (fun v M' L' => L' = L ∧ ∃ o, otsOf code = some o ∧ v = .agg (List.toArray o.cells)) (fun ch M' L' => L' = L ∧ otsOf code = none ∧ ch = unks) := by
 have hc := code.toNat_lt
 have h1 : (1 : UInt32).toNat = 1 := rfl
 obtain ⟨wt, wf, hw⟩ := hg.widths
 refine zfn Tryz.func144 rfl 35 rfl <| zr <| tl_e rfl <| e_alloc <| fun b1 => zq <| zr <| tLd rfl rfl <| tl_e rfl (e_call rfl (setsAt_spec hg.sums code 1 4 (by omega)) (by
  rintro _ _ _ _ ⟨rfl, rfl, hne, rfl⟩
  exact TP.dropTo L iI (.retA rfl lR ⟨rfl, by rw [otsOf, if_neg (by omega)], rfl⟩)) ?_)
 rintro _ _ _ _ ⟨rfl, rfl, hle, hlt, rfl⟩
 rw [h1] at hle hlt ⊢
 obtain ⟨i, hi⟩ : ∃ i, i = code.toNat - 1 := ⟨_, rfl⟩
 rw [← hi] at hlt ⊢
 have hi4 : i % 4 < 4 := Nat.mod_lt _ (by omega)
 obtain ⟨s1, s2, s3, s4, s5, s6, s7, s8, s9, s10⟩ := shape_fact (szN_is (i / 4)) (w_is i)
 refine mvU rfl <| zx rfl <| zx rfl <| tl_e rfl <| e_alloc <| fun b2 => tl_e rfl <| e_sT rfl rfl <| asI rfl <| zq <| .s4 0 1 2 3 rfl rfl rfl rfl <| x_seq <| x_draw 13 hmix rfl ?_
 refine pFa 0 rfl rfl <| pLd 1 rfl rfl rfl <| pmI 2 rfl rfl <| zp 3 rfl rfl (y_indexArr rfl rfl (by omega)) <| zy 4 rfl rfl (y_load rfl rfl (.at_ (.ro (i := i % 4) hw (by rw [List.getElem?_toArray]; exact widths_get _ hi4)) (by omega))) ?_
 refine ze 5 rfl rfl <| e_call' rfl (Shape_spec (szN_is (i / 4)) (w_is i)) ?_
 rintro _ M1 _ hM1 ⟨rfl, rfl⟩
 refine kp ?_
 refine pmU 6 rfl rfl <| zp 7 rfl rfl (y_extract rfl) <| zp 8 rfl rfl (y_extract rfl) <| zp 9 rfl rfl (y_extract rfl) <| paI 10 rfl rfl <| paI 11 rfl rfl <| paI 12 rfl rfl <| zz <| .then_normal <| .s7 0 1 2 3 4 5 6 rfl rfl rfl rfl rfl rfl rfl <| x_seq ?_
 refine x_draw 13 hmix rfl <| pLd 0 rfl rfl rfl <| pFa 1 rfl rfl <| pLd 2 rfl rfl rfl <| pFa 3 rfl rfl <| pLd 4 rfl rfl rfl <| pmI 5 rfl rfl <| zp 6 rfl rfl (y_indexArr rfl rfl (by omega)) <| zy 7 rfl rfl (y_load rfl rfl (.at_ (.ro (i := i % 4) (hM1 _ _ hw) (by rw [List.getElem?_toArray]; exact widths_get _ hi4)) (by omega))) ?_
 refine pmI 8 rfl rfl <| pmI 9 rfl rfl <| zp 10 rfl rfl (y_addI rfl rfl (by omega)) <| pmI 11 rfl rfl <| zp 12 rfl rfl (y_build rfl) <| zt 13 rfl rfl <| e_sT rfl rfl <| zz <| .then_normal <| .s1 1 rfl <| x_ret (retRV (L' := L) (rv1 rfl (rc_cellAgg (by rfl) rfl (.own iI iI))) iI hM1 ⟨rfl, otsT i, by rw [otsOf, if_pos (by omega), hi], by
  rw [otsT]
  show _ = Value.agg #[.int .u32 ((UInt32.ofNat (i + 1)).toNat : Int), _, _, _, _, _]
  rw [show (UInt32.ofNat (i + 1)).toNat = code.toNat by rw [UInt32.toNat_ofNat']; omega, show i / 4 / 2 = i / 8 by omega]
  rfl⟩)
theorem Ots_spec (hg : SetG M) (code : UInt32) :
  Con Tryz.prog 99 #[.int .u32 (code.toNat : Int)] G M L (fun v M' L' => L = L' ∧ v = .tuple #[.agg (List.toArray (otsV code).cells), .int .i64 (otsE code)]) noPanic := by
 refine zfn Tryz.func99 rfl 8 rfl <| zr <| tl_e rfl <| e_box rfl <| fun b1 => tl_e rfl <| e_alloc <| fun b2 => as0 rfl <| zq <| zr <| tl_y rfl (y_makeFunc rfl rfl) <| zca rfl (caughtO_spec (r := otsOf code) (first := []) (cap := [.pointer (some ⟨b1, 0, none⟩)]) (fun p q => Ots1_spec hg code)) ?_
 rintro _ M1 _ hM1 ⟨rfl, rfl⟩
 refine zx rfl <| zx rfl <| tl_e rfl <| e_sT rfl rfl <| asI rfl <| zq <| .s2 2 3 rfl rfl <| x_ret (retRV (L' := L) (rv2 rfl (rc_cellAgg (by rfl) rfl (.own iI iI)) (rc_tmp (by rfl))) iI hM1 ⟨rfl, rfl⟩)
end
end Go.Proofs.YtplkoemjffplcaaGreatDoor
