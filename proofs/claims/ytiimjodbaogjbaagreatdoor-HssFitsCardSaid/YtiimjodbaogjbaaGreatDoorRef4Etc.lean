/-
Contracts of functions, each proved by a walk through its code.
-/
import Derived.Test.YtiimjodbaogjbaaGreatDoorBaseEtc
import Derived.Test.YtiimjodbaogjbaaGreatDoorEngWEtc
import Derived.Test.YtiimjodbaogjbaaGreatDoorSetsEtc
set_option linter.unusedVariables false
set_option linter.unusedSimpArgs false
namespace Go.Proofs.YtiimjodbaogjbaaGreatDoor
open Go Go.Eng
theorem xor_max64 (x : UInt64) : x ^^^ 18446744073709551615 = ~~~x := by
 apply UInt64.toBitVec_inj.1
 rw [UInt64.toBitVec_xor, UInt64.toBitVec_not]
 exact BitVec.xor_allOnes
theorem rb_at (x y : Nat) : 0 + ((y : Int) + 5 * ((2 * (x : Int) + 3 * (y : Int)) % 5)).toNat * 1 = y + 5 * ((2 * x + 3 * y) % 5) := by
 have : ((y : Int) + 5 * ((2 * (x : Int) + 3 * (y : Int)) % 5)) = ((y + 5 * ((2 * x + 3 * y) % 5) : Nat) : Int) := by simp
 rw [this, Int.toNat_natCast]; omega
theorem rXY_lt (t : Nat) : (rXY t).1 < 5 ∧ (rXY t).2 < 5 := by
 induction t with
 | zero => decide
 | succ t ih => rw [rXY]; exact ⟨ih.2, by omega⟩
section
variable {G : World} {M : Mem} {L : Own}
theorem rrol_a : ∀ n : Fin 64, (UInt64.ofInt (n.val : Int)).toNat = n.val ∧ (64 - UInt64.ofInt (n.val : Int)).toNat = 64 - n.val := by decide +kernel
theorem rrol_spec (x : UInt64) (n : Nat) (hn : n ≤ 1000000) :
  Con Tryz.prog 236 #[.int .u64 (x.toNat : Int), .int .i64 (n : Int)] G M L (fun r M' L' => M = M' ∧ L = L' ∧ r = .int .u64 ((rotl x (n % 64)).toNat : Int)) noPanic := by
 obtain ⟨h1, h2⟩ := rrol_a ⟨n % 64, by omega⟩
 refine enter (args := [_, _]) (fn := Tryz.f236) ⟨Tryz.func236, rfl, by kernel_rfl, by kernel_rfl⟩ 20 rfl <| zr <| as0 rfl rfl <| zq <| zr <| mvI rfl rfl <| tl_y rfl (y_remI rfl rfl (by omega)) <| tl_y rfl (y_of64 rfl) ?_
 rw [show (n : Int) % 64 = ((n % 64 : Nat) : Int) by simp]
 refine asI rfl rfl <| zq <| .s2 0 5 rfl rfl <| zr2 <| mvI rfl rfl <| tl_y rfl (y_eql rfl rfl) <| zq <| x_cond rfl (fun hc1 => ?_) (fun hc1 => ?_)
 ·
  refine zr <| mvI rfl rfl <| asI rfl rfl <| zq <| .s1 4 rfl <| x_ret (.then_ret (ret1 rfl rfl (Le.refl _) ⟨rfl, rfl, by
   have e1 : (UInt64.ofInt ((n % 64 : Nat) : Int)).toNat = n % 64 := h1
   rw [show n % 64 = 0 by omega, rotl0]⟩))
 ·
  refine x_skip <| .then_normal <| zr <| mvI rfl rfl <| mvI rfl rfl <| tl_y rfl (y_shl64 rfl rfl) <| mvI rfl rfl <| mvI rfl rfl <| tl_y rfl (y_sub64 (a := 64) rfl rfl) <| tl_y rfl (y_shr64 rfl rfl) <| tl_y rfl (y_or64 rfl rfl) ?_
  refine asI rfl rfl <| zq <| .s1 4 rfl <| x_ret (ret1 rfl rfl (Le.refl _) ⟨rfl, rfl, by
   have e1 : (UInt64.ofInt ((n % 64 : Nat) : Int)).toNat = n % 64 := h1
   have e2 : (64 - UInt64.ofInt ((n % 64 : Nat) : Int)).toNat = 64 - n % 64 := h2
   rw [e1, e2]; rfl⟩)
abbrev kC (b : Nat) (a : List UInt64) : Nat × Obj := (b, .cells (a.map u64v).toArray 252 (0, 0))
theorem RStep_spec {a : List UInt64} (hl : a.length = 25) (rc : UInt64) :
    Con Tryz.prog 231 #[.agg (a.map u64v).toArray, .int .u64 (rc.toNat : Int)] G M L (fun r M' L' => M = M' ∧ L = L' ∧ r = .agg ((rStep a rc).map u64v).toArray) noPanic := by
  refine enter (args := [_, _]) (fn := Tryz.f231) ⟨Tryz.func231, rfl, by kernel_rfl, by kernel_rfl⟩ 177 rfl <| zr <| tl_e rfl <| e_box rfl <| fun b1 => tl_e rfl <| e_alloc <| fun b2 => zq <| zr <| tl_e rfl <| e_alloc <| fun b3 => zq <| zr2 <| as0 rfl rfl ?_
  refine zq <| x_block ?_
  refine x_loop (I := fun m' F D M2 L1 => ∃ k : Nat, m' = 5 - k ∧ k ≤ 5 ∧ D = [] ∧ M = M2 ∧ L1 = kC b3 (rCols a k) :: kB b2 (List.replicate 25 0) :: kB b1 a :: L ∧ F = [(1, .int .u64 (rc.toNat : Int)), (2, .pointer (some ⟨b1, 0, none⟩)), (4, .pointer (some ⟨b2, 0, none⟩)), (5, .pointer (some ⟨b3, 0, none⟩)), (6, .int .i64 k)]) (5) (F0 := [(1, _), (2, _), (4, _), (5, _), (6, _)]) ?_ (.cons rfl (.cons rfl (.cons rfl (.cons rfl (.cons rfl .nil))))) ?_  -- slots [1, 2, 4, 5, 6], written [6]
  · exact ⟨0, rfl, by omega, rfl, rfl, rfl, rfl⟩
  rintro m _ _ M2 L1 ⟨k, rfl, hk, rfl, rfl, rfl, rfl⟩
  refine zr2 <| mvI rfl rfl <| tl_y rfl (y_lss rfl rfl) <| zq <| x_cond rfl (fun hc1 => ?_) (fun hc1 => ?_)
  ·
    refine x_skip <| .then_normal <| x_seq <| x_block <| x_draw 25 hmix rfl <| zp 0 rfl rfl (y_move (v := .int _ _) rfl) <| zp 1 rfl rfl (y_move (v := .int _ _) rfl) <| zp 2 rfl rfl (y_indexArr rfl rfl (by omega)) <| zy 3 rfl rfl (y_load rfl rfl (.at_ (.ownAt (i := k) (c := a.map u64v) inferInstance (get_u64' _ _ (by omega))) (by omega))) <| zp 4 rfl rfl (y_move (v := .int _ _) rfl) <| zp 5 rfl rfl (y_addI rfl rfl (by omega)) ?_
    refine zp 6 rfl rfl (y_indexArr rfl rfl (by omega)) <| zy 7 rfl rfl (y_load rfl rfl (.at_ (.ownAt (i := k + 5) (c := a.map u64v) inferInstance (get_u64' _ _ (by omega))) (by omega))) <| zp 8 rfl rfl (y_xor64 rfl rfl) <| zp 9 rfl rfl (y_move (v := .int _ _) rfl) <| zp 10 rfl rfl (y_addI rfl rfl (by omega)) <| zp 11 rfl rfl (y_indexArr rfl rfl (by omega)) <| zy 12 rfl rfl (y_load rfl rfl (.at_ (.ownAt (i := k + 10) (c := a.map u64v) inferInstance (get_u64' _ _ (by omega))) (by omega))) ?_
    refine zp 13 rfl rfl (y_xor64 rfl rfl) <| zp 14 rfl rfl (y_move (v := .int _ _) rfl) <| zp 15 rfl rfl (y_addI rfl rfl (by omega)) <| zp 16 rfl rfl (y_indexArr rfl rfl (by omega)) <| zy 17 rfl rfl (y_load rfl rfl (.at_ (.ownAt (i := k + 15) (c := a.map u64v) inferInstance (get_u64' _ _ (by omega))) (by omega))) <| zp 18 rfl rfl (y_xor64 rfl rfl) <| zp 19 rfl rfl (y_move (v := .int _ _) rfl) <| zp 20 rfl rfl (y_addI rfl rfl (by omega)) ?_
    refine zp 21 rfl rfl (y_indexArr rfl rfl (by omega)) <| zy 22 rfl rfl (y_load rfl rfl (.at_ (.ownAt (i := k + 20) (c := a.map u64v) inferInstance (get_u64' _ _ (by omega))) (by omega))) <| zp 23 rfl rfl (y_xor64 rfl rfl) <| zp 24 rfl rfl (y_indexArr rfl rfl (by omega)) <| zt 25 rfl rfl <| e_storeAt (c := (rCols a k).map u64v) rfl rfl rfl inferInstance (by rw [List.length_map, rCols_length]; omega) inferInstance ?_
    rw [show 0 + ((k : Int)).toNat * 1 = k by omega, ← List.map_set, show a.getD k 0 ^^^ a.getD (k + 5) 0 = 0 ^^^ a.getD k 0 ^^^ a.getD (k + 5) 0 by rw [UInt64.zero_xor]]
    refine zz <| .block_normal <| .then_normal <| .s5 1 2 4 5 6 rfl rfl rfl rfl rfl <| x_region <| mvI rfl rfl <| tl_y rfl (y_addI rfl rfl (by omega)) <| asI rfl rfl <| tl_nil <| .loop_next (m' := 5 - (k + 1)) (by omega) (F' := [(1, _), (2, _), (4, _), (5, _), (6, _)]) (.cons rfl (.cons rfl (.cons rfl (.cons rfl (.cons rfl .nil))))) ?_
    exact ⟨k + 1, rfl, by omega, rfl, rfl, rfl, rfl⟩
  ·
    obtain rfl : k = 5 := by omega
    refine x_exit <| .then_exit <| .loop_exit <| .block_exit <| .then_normal <| zr2 <| as0 rfl rfl <| zq <| x_block ?_
    refine x_loop (I := fun m' F D M2 L1 => ∃ k : Nat, m' = 5 - k ∧ k ≤ 5 ∧ D = [] ∧ M = M2 ∧ L1 = kC b3 (rCols a 5) :: kB b2 (List.replicate 25 0) :: kB b1 (rTh (rCols a 5) a k) :: L ∧ F = [(1, .int .u64 (rc.toNat : Int)), (2, .pointer (some ⟨b1, 0, none⟩)), (4, .pointer (some ⟨b2, 0, none⟩)), (5, .pointer (some ⟨b3, 0, none⟩)), (7, .int .i64 k)]) (5) (F0 := [(1, _), (2, _), (4, _), (5, _), (7, _)]) ?_ (.cons rfl (.cons rfl (.cons rfl (.cons rfl (.cons rfl .nil))))) ?_  -- slots [1, 2, 4, 5, 7], written [7]
    · exact ⟨0, rfl, by omega, rfl, rfl, rfl, rfl⟩
    rintro m _ _ M2 L1 ⟨x, rfl, hx, rfl, rfl, rfl, rfl⟩
    refine zr2 <| mvI rfl rfl <| tl_y rfl (y_lss rfl rfl) <| zq <| x_cond rfl (fun hc2 => ?_) (fun hc2 => ?_)
    ·
      refine x_skip <| .then_normal <| x_seq <| x_block <| x_seq <| x_draw 13 hmix rfl <| zp 0 rfl rfl (y_move (v := .int _ _) rfl) <| zp 1 rfl rfl (y_addI rfl rfl (by omega)) <| zp 2 rfl rfl (y_remI rfl rfl (by omega)) <| zp 3 rfl rfl (y_indexArr rfl rfl (by omega)) <| zy 4 rfl rfl (y_load rfl rfl (.at_ (.ownAt (i := (x + 4) % 5) (c := (rCols a 5).map u64v) inferInstance (get_u64' _ _ (by rw [rCols_length]; omega))) (by omega))) ?_
      refine zp 5 rfl rfl (y_move (v := .int _ _) rfl) <| zp 6 rfl rfl (y_addI rfl rfl (by omega)) <| zp 7 rfl rfl (y_remI rfl rfl (by omega)) <| zp 8 rfl rfl (y_indexArr rfl rfl (by omega)) <| zy 9 rfl rfl (y_load rfl rfl (.at_ (.ownAt (i := (x + 1) % 5) (c := (rCols a 5).map u64v) inferInstance (get_u64' _ _ (by rw [rCols_length]; omega))) (by omega))) <| ze 10 rfl rfl <| e_call' rfl (rrol_spec _ 1 (by omega)) ?_
      rintro _ _ _ _ ⟨rfl, rfl, rfl⟩
      refine ⟨⟨(by first | exact Le.refl _ | assumption), Keeps.mem⟩, ?_⟩
      refine zp 11 rfl rfl (y_xor64 rfl rfl) <| zp 12 rfl rfl (y_assign (v := .int _ _) rfl) <| zz <| .then_normal <| .s6 1 2 4 5 7 8 rfl rfl rfl rfl rfl rfl <| zr <| as0 rfl rfl <| zq <| x_block ?_
      refine x_loop (I := fun m' F D M2 L1 => ∃ y : Nat, m' = 5 - y ∧ y ≤ 5 ∧ D = [] ∧ M = M2 ∧ L1 = kC b3 (rCols a 5) :: kB b2 (List.replicate 25 0) :: kB b1 (rThIn ((rCols a 5).getD ((x + 4) % 5) 0 ^^^ rotl ((rCols a 5).getD ((x + 1) % 5) 0) 1) x (rTh (rCols a 5) a x) y) :: L ∧ F = [(1, .int .u64 (rc.toNat : Int)), (2, .pointer (some ⟨b1, 0, none⟩)), (4, .pointer (some ⟨b2, 0, none⟩)), (5, .pointer (some ⟨b3, 0, none⟩)), (7, .int .i64 x), (8, u64v ((rCols a 5).getD ((x + 4) % 5) 0 ^^^ rotl ((rCols a 5).getD ((x + 1) % 5) 0) 1)), (9, .int .i64 y)]) (5) (F0 := [(1, _), (2, _), (4, _), (5, _), (7, _), (8, _), (9, _)]) ?_ (.cons rfl (.cons rfl (.cons rfl (.cons rfl (.cons rfl (.cons rfl (.cons rfl .nil))))))) ?_  -- slots [1, 2, 4, 5, 7, 8, 9], written [9]
      · exact ⟨0, rfl, by omega, rfl, rfl, rfl, rfl⟩
      rintro m _ _ M2 L1 ⟨y, rfl, hy, rfl, rfl, rfl, rfl⟩
      refine zr2 <| mvI rfl rfl <| tl_y rfl (y_lss rfl rfl) <| zq <| x_cond rfl (fun hc3 => ?_) (fun hc3 => ?_)
      ·
        have hln := rThIn_length ((rCols a 5).getD ((x + 4) % 5) 0 ^^^ rotl ((rCols a 5).getD ((x + 1) % 5) 0) 1) x (rTh (rCols a 5) a x) y
        rw [rTh_length, hl] at hln
        refine x_skip <| .then_normal <| x_seq <| x_block <| x_region <| mvI rfl rfl <| mvI rfl rfl <| tl_y rfl (y_mulI rfl rfl (by omega)) <| tl_y rfl (y_addI rfl rfl (by omega)) <| mvI rfl rfl <| mvI rfl rfl ?_
        refine tl_y rfl (y_mulI rfl rfl (by omega)) <| tl_y rfl (y_addI rfl rfl (by omega)) <| tl_y rfl (y_indexArr rfl rfl (by omega)) <| tl_y rfl (y_load rfl rfl (.at_ (.ownAt (i := x + 5 * y) (c := (rThIn ((rCols a 5).getD ((x + 4) % 5) 0 ^^^ rotl ((rCols a 5).getD ((x + 1) % 5) 0) 1) x (rTh (rCols a 5) a x) y).map u64v) inferInstance (get_u64' _ _ (by omega))) (by omega))) <| mvI rfl rfl <| tl_y rfl (y_xor64 rfl rfl) <| tl_y rfl (y_indexArr rfl rfl (by omega)) ?_
        refine tl_e rfl <| e_storeAt (c := (rThIn ((rCols a 5).getD ((x + 4) % 5) 0 ^^^ rotl ((rCols a 5).getD ((x + 1) % 5) 0) 1) x (rTh (rCols a 5) a x) y).map u64v) rfl rfl rfl inferInstance (by rw [List.length_map]; omega) inferInstance ?_
        rw [show 0 + ((x : Int) + 5 * (y : Int)).toNat * 1 = x + 5 * y by omega, ← List.map_set]
        refine tl_nil <| .block_normal <| .then_normal <| .s7 1 2 4 5 7 8 9 rfl rfl rfl rfl rfl rfl rfl <| x_region <| mvI rfl rfl <| tl_y rfl (y_addI rfl rfl (by omega)) <| asI rfl rfl <| tl_nil <| .loop_next (m' := 5 - (y + 1)) (by omega) (F' := [(1, _), (2, _), (4, _), (5, _), (7, _), (8, _), (9, _)]) (.cons rfl (.cons rfl (.cons rfl (.cons rfl (.cons rfl (.cons rfl (.cons rfl .nil))))))) ?_
        exact ⟨y + 1, rfl, by omega, rfl, rfl, rfl, rfl⟩
      ·
        obtain rfl : y = 5 := by omega
        refine x_exit <| .then_exit <| .loop_exit <| .block_exit <| .block_normal <| .then_normal <| .s5 1 2 4 5 7 rfl rfl rfl rfl rfl <| x_region <| mvI rfl rfl <| tl_y rfl (y_addI rfl rfl (by omega)) <| asI rfl rfl <| tl_nil <| .loop_next (m' := 5 - (x + 1)) (by omega) (F' := [(1, _), (2, _), (4, _), (5, _), (7, _)]) (.cons rfl (.cons rfl (.cons rfl (.cons rfl (.cons rfl .nil))))) ?_
        exact ⟨x + 1, rfl, by omega, rfl, rfl, rfl, rfl⟩
    ·
      obtain rfl : x = 5 := by omega
      have hA : (rThA a).length = 25 := by rw [rThA, rTh_length, hl]
      refine x_exit <| .then_exit <| .loop_exit <| .block_exit <| .then_normal <| .s3 1 2 4 rfl rfl rfl <| zr <| as0 rfl rfl <| zq <| zr <| as0 rfl rfl <| zq <| zr2 <| as0 rfl rfl ?_
      refine zq <| x_block ?_
      refine x_loop (I := fun m' F D M2 L1 => ∃ k : Nat, m' = 24 - k ∧ k ≤ 24 ∧ D = [] ∧ M = M2 ∧ L1 = kC b3 (rCols a 5) :: kB b2 (List.replicate 25 0) :: kB b1 (rRh (rThA a) k) :: L ∧ F = [(1, .int .u64 (rc.toNat : Int)), (2, .pointer (some ⟨b1, 0, none⟩)), (4, .pointer (some ⟨b2, 0, none⟩)), (10, .int .i64 (rXY k).1), (11, .int .i64 (rXY k).2), (12, .int .i64 k)]) (24) (F0 := [(1, _), (2, _), (4, _), (10, _), (11, _), (12, _)]) ?_ (.cons rfl (.cons rfl (.cons rfl (.cons rfl (.cons rfl (.cons rfl .nil)))))) ?_  -- slots [1, 2, 4, 10, 11, 12], written [10, 11, 12]
      · exact ⟨0, rfl, by omega, rfl, rfl, rfl, rfl⟩
      rintro m _ _ M2 L1 ⟨k, rfl, hk, rfl, rfl, rfl, rfl⟩
      refine zr2 <| mvI rfl rfl <| tl_y rfl (y_lss rfl rfl) <| zq <| x_cond rfl (fun hc4 => ?_) (fun hc4 => ?_)
      ·
        have hln := rRh_length (rThA a) k
        rw [hA] at hln
        have hxy := rXY_lt k
        have hmul : ((k : Int) + 1) * ((k : Int) + 2) = (((k + 1) * (k + 2) : Nat) : Int) := by push_cast; rfl
        have hb : (k + 1) * (k + 2) ≤ 25 * 26 := Nat.mul_le_mul (by omega) (by omega)
        refine x_skip <| .then_normal <| x_seq <| x_block <| zr <| mvI rfl rfl <| mvI rfl rfl <| tl_y rfl (y_mulI rfl rfl (by omega)) <| tl_y rfl (y_addI rfl rfl (by omega)) <| mvI rfl rfl <| mvI rfl rfl ?_
        refine tl_y rfl (y_mulI rfl rfl (by omega)) <| tl_y rfl (y_addI rfl rfl (by omega)) <| tl_y rfl (y_indexArr rfl rfl (by omega)) <| tl_y rfl (y_load rfl rfl (.at_ (.ownAt (i := (rXY k).1 + 5 * (rXY k).2) (c := (rRh (rThA a) k).map u64v) inferInstance (get_u64' _ _ (by omega))) (by omega))) <| mvI rfl rfl <| tl_y rfl (y_addI rfl rfl (by omega)) <| mvI rfl rfl <| tl_y rfl (y_addI rfl rfl (by omega)) <| tl_y rfl (y_mulI rfl rfl (by rw [hmul]; omega)) ?_
        rw [hmul]
        refine tl_y rfl (y_quoI rfl rfl (by omega)) ?_
        rw [show (((k + 1) * (k + 2) : Nat) : Int) / 2 = (((k + 1) * (k + 2) / 2 : Nat) : Int) by simp]
        refine tl_e rfl <| e_call' rfl (rrol_spec _ ((k + 1) * (k + 2) / 2) (by omega)) ?_
        rintro _ _ _ _ ⟨rfl, rfl, rfl⟩
        refine tl_y rfl (y_indexArr rfl rfl (by omega)) <| tl_e rfl <| e_storeAt (c := (rRh (rThA a) k).map u64v) rfl rfl rfl inferInstance (by rw [List.length_map]; omega) inferInstance ?_
        rw [show 0 + (((rXY k).1 : Int) + 5 * ((rXY k).2 : Int)).toNat * 1 = (rXY k).1 + 5 * (rXY k).2 by omega, ← List.map_set]
        refine zq <| .s6 1 2 4 10 11 12 rfl rfl rfl rfl rfl rfl <| zr <| mvI rfl rfl <| tl_y rfl (y_mulI rfl rfl (by omega)) <| mvI rfl rfl <| tl_y rfl (y_mulI rfl rfl (by omega)) <| tl_y rfl (y_addI rfl rfl (by omega)) <| tl_y rfl (y_remI rfl rfl (by omega)) ?_
        rw [show (2 * ((rXY k).1 : Int) + 3 * ((rXY k).2 : Int)) % 5 = ((rXY (k + 1)).2 : Int) from by simp [rXY]]
        refine asI rfl rfl <| zq <| .s7 1 2 4 10 11 12 13 rfl rfl rfl rfl rfl rfl rfl <| zr <| mvI rfl rfl <| asI rfl rfl <| zq <| x_region <| mvI rfl rfl <| asI rfl rfl ?_
        refine tl_nil <| .block_normal <| .then_normal <| x_region <| mvI rfl rfl <| tl_y rfl (y_addI rfl rfl (by omega)) <| asI rfl rfl <| tl_nil <| .loop_next (m' := 24 - (k + 1)) (by omega) (F' := [(1, _), (2, _), (4, _), (10, _), (11, _), (12, _)]) (.cons rfl (.cons rfl (.cons rfl (.cons rfl (.cons rfl (.cons rfl .nil)))))) ?_
        exact ⟨k + 1, rfl, by omega, rfl, rfl, rfl, rfl⟩
      ·
        obtain rfl : k = 24 := by omega
        have hR : (rRhA a).length = 25 := by rw [rRhA, rRh_length, hA]
        refine x_exit <| .then_exit <| .loop_exit <| .block_exit <| .then_normal <| .s4 1 2 4 11 rfl rfl rfl rfl <| zr <| tl_e rfl <| e_alloc <| fun b4 => zq <| zr2 <| as0 rfl rfl <| zq <| x_block ?_
        refine x_loop (I := fun m' F D M2 L1 => ∃ (k : Nat) (v : Int), m' = 5 - k ∧ k ≤ 5 ∧ D = [] ∧ M = M2 ∧ L1 = kB b4 (rB (rRhA a) k) :: kC b3 (rCols a 5) :: kB b2 (List.replicate 25 0) :: kB b1 (rRhA a) :: L ∧ F = [(1, .int .u64 (rc.toNat : Int)), (2, .pointer (some ⟨b1, 0, none⟩)), (4, .pointer (some ⟨b2, 0, none⟩)), (10, .int .i64 k), (11, .int .i64 v), (14, .pointer (some ⟨b4, 0, none⟩))]) (5) (F0 := [(1, _), (2, _), (4, _), (10, _), (11, _), (14, _)]) ?_ (.cons rfl (.cons rfl (.cons rfl (.cons rfl (.cons rfl (.cons rfl .nil)))))) ?_  -- slots [1, 2, 4, 10, 11, 14], written [10, 11]
        · exact ⟨0, _, rfl, by omega, rfl, rfl, rfl, rfl⟩
        rintro m _ _ M2 L1 ⟨x, v, rfl, hx, rfl, rfl, rfl, rfl⟩
        refine zr2 <| mvI rfl rfl <| tl_y rfl (y_lss rfl rfl) <| zq <| x_cond rfl (fun hc5 => ?_) (fun hc5 => ?_)
        ·
          refine x_skip <| .then_normal <| x_seq <| x_block <| zr <| as0 rfl rfl <| zq <| x_block ?_
          refine x_loop (I := fun m' F D M2 L1 => ∃ (y : Nat), m' = 5 - y ∧ y ≤ 5 ∧ D = [] ∧ M = M2 ∧ L1 = kB b4 (rBIn (rRhA a) (rB (rRhA a) x) x y) :: kC b3 (rCols a 5) :: kB b2 (List.replicate 25 0) :: kB b1 (rRhA a) :: L ∧ F = [(1, .int .u64 (rc.toNat : Int)), (2, .pointer (some ⟨b1, 0, none⟩)), (4, .pointer (some ⟨b2, 0, none⟩)), (10, .int .i64 x), (11, .int .i64 y), (14, .pointer (some ⟨b4, 0, none⟩))]) (5) (F0 := [(1, _), (2, _), (4, _), (10, _), (11, _), (14, _)]) ?_ (.cons rfl (.cons rfl (.cons rfl (.cons rfl (.cons rfl (.cons rfl .nil)))))) ?_  -- slots [1, 2, 4, 10, 11, 14], written [11]
          · exact ⟨0, rfl, by omega, rfl, rfl, rfl, rfl⟩
          rintro m _ _ M2 L1 ⟨y, rfl, hy, rfl, rfl, rfl, rfl⟩
          refine zr2 <| mvI rfl rfl <| tl_y rfl (y_lss rfl rfl) <| zq <| x_cond rfl (fun hc6 => ?_) (fun hc6 => ?_)
          ·
            have hln := rBIn_length (rRhA a) (rB (rRhA a) x) x y
            rw [rB_length] at hln
            refine x_skip <| .then_normal <| x_seq <| x_block <| x_region <| mvI rfl rfl <| mvI rfl rfl <| tl_y rfl (y_mulI rfl rfl (by omega)) <| mvI rfl rfl <| tl_y rfl (y_mulI rfl rfl (by omega)) <| tl_y rfl (y_addI rfl rfl (by omega)) ?_
            refine tl_y rfl (y_remI rfl rfl (by omega)) <| tl_y rfl (y_mulI rfl rfl (by omega)) <| tl_y rfl (y_addI rfl rfl (by omega)) <| mvI rfl rfl <| mvI rfl rfl <| tl_y rfl (y_mulI rfl rfl (by omega)) <| tl_y rfl (y_addI rfl rfl (by omega)) <| tl_y rfl (y_indexArr rfl rfl (by omega)) <| tl_y rfl (y_load rfl rfl (.at_ (.ownAt (i := x + 5 * y) (c := (rRhA a).map u64v) inferInstance (get_u64' _ _ (by omega))) (by omega))) <| tl_y rfl (y_indexArr rfl rfl (by omega)) ?_
            refine tl_e rfl <| e_storeAt (c := (rBIn (rRhA a) (rB (rRhA a) x) x y).map u64v) rfl rfl rfl inferInstance (by rw [List.length_map]; omega) inferInstance ?_
            rw [rb_at, ← List.map_set]
            refine tl_nil <| .block_normal <| .then_normal <| .s6 1 2 4 10 11 14 rfl rfl rfl rfl rfl rfl <| x_region <| mvI rfl rfl <| tl_y rfl (y_addI rfl rfl (by omega)) <| asI rfl rfl <| tl_nil <| .loop_next (m' := 5 - (y + 1)) (by omega) (F' := [(1, _), (2, _), (4, _), (10, _), (11, _), (14, _)]) (.cons rfl (.cons rfl (.cons rfl (.cons rfl (.cons rfl (.cons rfl .nil)))))) ?_
            exact ⟨y + 1, rfl, by omega, rfl, rfl, rfl, rfl⟩
          ·
            obtain rfl : y = 5 := by omega
            refine x_exit <| .then_exit <| .loop_exit <| .block_exit <| .block_normal <| .then_normal <| x_region <| mvI rfl rfl <| tl_y rfl (y_addI rfl rfl (by omega)) <| asI rfl rfl <| tl_nil <| .loop_next (m' := 5 - (x + 1)) (by omega) (F' := [(1, _), (2, _), (4, _), (10, _), (11, _), (14, _)]) (.cons rfl (.cons rfl (.cons rfl (.cons rfl (.cons rfl (.cons rfl .nil)))))) ?_
            exact ⟨x + 1, _, rfl, by omega, rfl, rfl, rfl, rfl⟩
        ·
          obtain rfl : x = 5 := by omega
          refine x_exit <| .then_exit <| .loop_exit <| .block_exit <| .then_normal <| zr2 <| as0 rfl rfl <| zq <| x_block ?_
          refine x_loop (I := fun m' F D M2 L1 => ∃ (k : Nat) (v : Int), m' = 5 - k ∧ k ≤ 5 ∧ D = [] ∧ M = M2 ∧ L1 = kB b4 (rB (rRhA a) 5) :: kC b3 (rCols a 5) :: kB b2 (List.replicate 25 0) :: kB b1 (rChi (rB (rRhA a) 5) (rRhA a) k) :: L ∧ F = [(1, .int .u64 (rc.toNat : Int)), (2, .pointer (some ⟨b1, 0, none⟩)), (4, .pointer (some ⟨b2, 0, none⟩)), (10, .int .i64 k), (11, .int .i64 v), (14, .pointer (some ⟨b4, 0, none⟩))]) (5) (F0 := [(1, _), (2, _), (4, _), (10, _), (11, _), (14, _)]) ?_ (.cons rfl (.cons rfl (.cons rfl (.cons rfl (.cons rfl (.cons rfl .nil)))))) ?_  -- slots [1, 2, 4, 10, 11, 14], written [10, 11]
          · exact ⟨0, _, rfl, by omega, rfl, rfl, rfl, rfl⟩
          rintro m _ _ M2 L1 ⟨x, w, rfl, hx, rfl, rfl, rfl, rfl⟩
          refine zr2 <| mvI rfl rfl <| tl_y rfl (y_lss rfl rfl) <| zq <| x_cond rfl (fun hc7 => ?_) (fun hc7 => ?_)
          ·
            refine x_skip <| .then_normal <| x_seq <| x_block <| zr <| as0 rfl rfl <| zq <| x_block ?_
            refine x_loop (I := fun m' F D M2 L1 => ∃ (y : Nat), m' = 5 - y ∧ y ≤ 5 ∧ D = [] ∧ M = M2 ∧ L1 = kB b4 (rB (rRhA a) 5) :: kC b3 (rCols a 5) :: kB b2 (List.replicate 25 0) :: kB b1 (rChiIn (rB (rRhA a) 5) (rChi (rB (rRhA a) 5) (rRhA a) x) x y) :: L ∧ F = [(1, .int .u64 (rc.toNat : Int)), (2, .pointer (some ⟨b1, 0, none⟩)), (4, .pointer (some ⟨b2, 0, none⟩)), (10, .int .i64 x), (11, .int .i64 y), (14, .pointer (some ⟨b4, 0, none⟩))]) (5) (F0 := [(1, _), (2, _), (4, _), (10, _), (11, _), (14, _)]) ?_ (.cons rfl (.cons rfl (.cons rfl (.cons rfl (.cons rfl (.cons rfl .nil)))))) ?_  -- slots [1, 2, 4, 10, 11, 14], written [11]
            · exact ⟨0, rfl, by omega, rfl, rfl, rfl, rfl⟩
            rintro m _ _ M2 L1 ⟨y, rfl, hy, rfl, rfl, rfl, rfl⟩
            refine zr2 <| mvI rfl rfl <| tl_y rfl (y_lss rfl rfl) <| zq <| x_cond rfl (fun hc8 => ?_) (fun hc8 => ?_)
            ·
              have hln := rChiIn_length (rB (rRhA a) 5) (rChi (rB (rRhA a) 5) (rRhA a) x) x y
              rw [rChi_length, hR] at hln
              have hBl := rB_length (rRhA a) 5
              refine x_skip <| .then_normal <| x_seq <| x_block <| zr <| mvI rfl rfl <| tl_y rfl (y_addI rfl rfl (by omega)) <| tl_y rfl (y_remI rfl rfl (by omega)) <| mvI rfl rfl <| tl_y rfl (y_mulI rfl rfl (by omega)) <| tl_y rfl (y_addI rfl rfl (by omega)) ?_
              refine tl_y rfl (y_indexArr rfl rfl (by omega)) <| tl_y rfl (y_load rfl rfl (.at_ (.ownAt (i := (x + 1) % 5 + 5 * y) (c := (rB (rRhA a) 5).map u64v) inferInstance (get_u64' _ _ (by omega))) (by omega))) <| tl_y rfl (y_xor64 (b := 18446744073709551615) rfl rfl) ?_
              rw [xor_max64]
              refine asI rfl rfl <| zq <| .s7 1 2 4 10 11 14 15 rfl rfl rfl rfl rfl rfl rfl <| x_draw 22 hmix rfl <| zp 0 rfl rfl (y_move (v := .int _ _) rfl) <| zp 1 rfl rfl (y_move (v := .int _ _) rfl) <| zp 2 rfl rfl (y_mulI rfl rfl (by omega)) <| zp 3 rfl rfl (y_addI rfl rfl (by omega)) <| zp 4 rfl rfl (y_move (v := .int _ _) rfl) <| zp 5 rfl rfl (y_move (v := .int _ _) rfl) ?_
              refine zp 6 rfl rfl (y_mulI rfl rfl (by omega)) <| zp 7 rfl rfl (y_addI rfl rfl (by omega)) <| zp 8 rfl rfl (y_indexArr rfl rfl (by omega)) <| zy 9 rfl rfl (y_load rfl rfl (.at_ (.ownAt (i := x + 5 * y) (c := (rB (rRhA a) 5).map u64v) inferInstance (get_u64' _ _ (by omega))) (by omega))) <| zp 10 rfl rfl (y_move (v := .int _ _) rfl) <| zp 11 rfl rfl (y_move (v := .int _ _) rfl) <| zp 12 rfl rfl (y_addI rfl rfl (by omega)) <| zp 13 rfl rfl (y_remI rfl rfl (by omega)) ?_
              refine zp 14 rfl rfl (y_move (v := .int _ _) rfl) <| zp 15 rfl rfl (y_mulI rfl rfl (by omega)) <| zp 16 rfl rfl (y_addI rfl rfl (by omega)) <| zp 17 rfl rfl (y_indexArr rfl rfl (by omega)) <| zy 18 rfl rfl (y_load rfl rfl (.at_ (.ownAt (i := (x + 2) % 5 + 5 * y) (c := (rB (rRhA a) 5).map u64v) inferInstance (get_u64' _ _ (by omega))) (by omega))) <| zp 19 rfl rfl (y_and64 rfl rfl) <| zp 20 rfl rfl (y_xor64 rfl rfl) <| zp 21 rfl rfl (y_indexArr rfl rfl (by omega)) ?_
              refine zt 22 rfl rfl <| e_storeAt (c := (rChiIn (rB (rRhA a) 5) (rChi (rB (rRhA a) 5) (rRhA a) x) x y).map u64v) rfl rfl rfl inferInstance (by rw [List.length_map]; omega) inferInstance ?_
              rw [show 0 + ((x : Int) + 5 * (y : Int)).toNat * 1 = x + 5 * y by omega, ← List.map_set]
              refine zz <| .block_normal <| .then_normal <| .s6 1 2 4 10 11 14 rfl rfl rfl rfl rfl rfl <| x_region <| mvI rfl rfl <| tl_y rfl (y_addI rfl rfl (by omega)) <| asI rfl rfl <| tl_nil <| .loop_next (m' := 5 - (y + 1)) (by omega) (F' := [(1, _), (2, _), (4, _), (10, _), (11, _), (14, _)]) (.cons rfl (.cons rfl (.cons rfl (.cons rfl (.cons rfl (.cons rfl .nil)))))) ?_
              exact ⟨y + 1, rfl, by omega, rfl, rfl, rfl, rfl⟩
            ·
              obtain rfl : y = 5 := by omega
              refine x_exit <| .then_exit <| .loop_exit <| .block_exit <| .block_normal <| .then_normal <| x_region <| mvI rfl rfl <| tl_y rfl (y_addI rfl rfl (by omega)) <| asI rfl rfl <| tl_nil <| .loop_next (m' := 5 - (x + 1)) (by omega) (F' := [(1, _), (2, _), (4, _), (10, _), (11, _), (14, _)]) (.cons rfl (.cons rfl (.cons rfl (.cons rfl (.cons rfl (.cons rfl .nil)))))) ?_
              exact ⟨x + 1, _, rfl, by omega, rfl, rfl, rfl, rfl⟩
          ·
            obtain rfl : x = 5 := by omega
            have hcl : (rChi (rB (rRhA a) 5) (rRhA a) 5).length = 25 := by rw [rChi_length, hR]
            have hsl : (rStep a rc).length = 25 := by rw [rStep, updL_length, hcl]
            refine x_exit <| .then_exit <| .loop_exit <| .block_exit <| .then_normal <| .s3 1 2 4 rfl rfl rfl <| zr <| tl_y rfl (y_indexArrK 0 rfl rfl (by omega)) <| tl_y rfl (y_load rfl rfl (.at_ (.ownAt (i := 0) (c := (rChi (rB (rRhA a) 5) (rRhA a) 5).map u64v) inferInstance (get_u64' _ _ (by omega))) (by omega))) <| mvI rfl rfl <| tl_y rfl (y_xor64 rfl rfl) <| tl_y rfl (y_indexArrK 0 rfl rfl (by omega)) <| tl_e rfl <| e_storeAt (c := (rChi (rB (rRhA a) 5) (rRhA a) 5).map u64v) rfl rfl rfl inferInstance (by rw [List.length_map]; omega) inferInstance ?_
            rw [← List.map_set]
            rw [show (rChi (rB (rRhA a) 5) (rRhA a) 5).set 0 ((rChi (rB (rRhA a) 5) (rRhA a) 5).getD 0 0 ^^^ rc) = rStep a rc from rfl]
            refine zq <| .s2 2 4 rfl rfl <| zr <| tl_y rfl (y_loadAgg rfl rfl (.whole inferInstance (by simp [hsl]))) <| tl_e rfl <| e_store rfl rfl (by simp [hsl]) (u64_one _) inferInstance (.whole (by simp [hsl])) inferInstance <| zq <| x_ret (retRV (L' := L) (rv1 rfl (rc_cellAgg (by rfl) rfl (.whole inferInstance (by simp [hsl])))) inferInstance (Le.refl _) ⟨rfl, rfl, rfl⟩)
theorem RPermute_spec {a : List UInt64} (hl : a.length = 25) :
    Con Tryz.prog 214 #[.agg (a.map u64v).toArray, .agg (kRc.map u64v).toArray] G M L (fun r M' L' => M = M' ∧ L = L' ∧ r = .agg ((kPerm a 24).map u64v).toArray) noPanic := by
  refine enter (args := [_, _]) (fn := Tryz.f214) ⟨Tryz.func214, rfl, by kernel_rfl, by kernel_rfl⟩ 16 rfl <| zr <| tl_e rfl <| e_box rfl <| fun b1 => tl_e rfl <| e_box rfl <| fun b2 => tl_e rfl <| e_alloc <| fun b3 => zq <| zr2 <| as0 rfl rfl <| zq <| x_block ?_
  refine x_loop (I := fun m' F D M2 L1 => ∃ k : Nat, m' = 24 - k ∧ k ≤ 24 ∧ D = [] ∧ M = M2 ∧ L1 = kB b3 (List.replicate 25 0) :: (b2, .cells (kRc.map u64v).toArray 232 (0, 0)) :: kB b1 (kPerm a k) :: L ∧ F = [(2, .pointer (some ⟨b1, 0, none⟩)), (3, .pointer (some ⟨b2, 0, none⟩)), (4, .pointer (some ⟨b3, 0, none⟩)), (5, .int .i64 k)]) (24) (F0 := [(2, _), (3, _), (4, _), (5, _)]) ?_ (.cons rfl (.cons rfl (.cons rfl (.cons rfl .nil)))) ?_  -- slots [2, 3, 4, 5], written [5]
  · exact ⟨0, rfl, by omega, rfl, rfl, rfl, rfl⟩
  rintro m _ _ M2 L1 ⟨k, rfl, hk, rfl, rfl, rfl, rfl⟩
  refine zr2 <| mvI rfl rfl <| tl_y rfl (y_lss rfl rfl) <| zq <| x_cond rfl (fun hc1 => ?_) (fun hc1 => ?_)
  ·
    have hpl : (kPerm a k).length = 25 := by rw [kPerm_length, hl]
    refine x_skip <| .then_normal <| x_seq <| x_block <| x_draw 5 hmix rfl <| zy 0 rfl rfl (y_loadAgg rfl rfl (.whole inferInstance (by simp [hpl]))) <| zp 1 rfl rfl (y_move (v := .int _ _) rfl) <| zp 2 rfl rfl (y_indexArr rfl rfl (by omega)) <| zy 3 rfl rfl (y_load rfl rfl (.at_ (.ownAt (i := k) (c := kRc.map u64v) inferInstance (get_u64' _ _ (by show k < 24; omega))) (by omega))) <| ze 4 rfl rfl <| e_call' rfl (RStep_spec hpl (kRc.getD k 0)) ?_
    rintro _ _ _ _ ⟨rfl, rfl, rfl⟩
    rw [step_eq hpl]
    refine ⟨⟨(by first | exact Le.refl _ | assumption), Keeps.mem⟩, ?_⟩
    refine zt 5 rfl rfl <| e_store rfl rfl (by simp [kRound_length, hpl]) (u64_one _) inferInstance (.whole (by simp [kRound_length, hpl])) inferInstance <| zz <| .block_normal <| .then_normal <| .s4 2 3 4 5 rfl rfl rfl rfl <| x_region <| mvI rfl rfl <| tl_y rfl (y_addI rfl rfl (by omega)) <| asI rfl rfl <| tl_nil <| .loop_next (m' := 24 - (k + 1)) (by omega) (F' := [(2, _), (3, _), (4, _), (5, _)]) (.cons rfl (.cons rfl (.cons rfl (.cons rfl .nil)))) ?_
    exact ⟨k + 1, rfl, by omega, rfl, rfl, rfl, rfl⟩
  ·
    obtain rfl : k = 24 := by omega
    have hpl : (kPerm a 24).length = 25 := by rw [kPerm_length, hl]
    refine x_exit <| .then_exit <| .loop_exit <| .block_exit <| .then_normal <| .s2 2 4 rfl rfl <| zr <| tl_y rfl (y_loadAgg rfl rfl (.whole inferInstance (by simp [hpl]))) <| tl_e rfl <| e_store rfl rfl (by simp [hpl]) (u64_one _) inferInstance (.whole (by simp [hpl])) inferInstance <| zq <| x_ret (retRV (L' := L) (rv1 rfl (rc_cellAgg (by rfl) rfl (.whole inferInstance (by simp [hpl])))) inferInstance (Le.refl _) ⟨rfl, rfl, rfl⟩)
theorem RConst_spec :
  Con Tryz.prog 213 #[] G M L (fun r M' L' => M = M' ∧ L = L' ∧ r = .agg (kRc.map u64v).toArray) noPanic := by
 refine enter (args := []) (fn := Tryz.f213) ⟨Tryz.func213, rfl, by kernel_rfl, by kernel_rfl⟩ 2 rfl <| zr <| tl_e rfl <| e_alloc <| fun b1 => zq <| zr <| tl_y rfl (y_buildArr (cells := kRc.map u64v) (hf := ⟨by kernel_rfl⟩) rfl) <| tl_e rfl <| e_store rfl rfl (by rfl) (u64_one _) inferInstance (.whole (by rfl)) inferInstance <| zq <| x_ret (retRV (L' := L) (rv1 rfl (rc_cellAgg (by rfl) rfl (.whole inferInstance (by rfl)))) inferInstance (Le.refl _) ⟨rfl, rfl, rfl⟩)
end
end Go.Proofs.YtiimjodbaogjbaaGreatDoor
set_option linter.unusedVariables false
set_option linter.unusedSimpArgs false
namespace Go.Proofs.YtiimjodbaogjbaaGreatDoor
open Go Go.Eng
theorem RowIn.cons {M : Mem} {L : Own} {s n : Nat} {A : Option Addr} {vs : List Value} {p : Nat × Obj} (h : RowIn M L s A n vs) : RowIn M (p :: L) s A n vs := ⟨h.len, fun hn => by
 obtain ⟨b, o, e, hc⟩ := h.addr hn
 exact ⟨b, o, e, fun j v hj w hw => hc j v hj w ⟨hw.ro, fun q hq => hw.own q (List.mem_cons_of_mem _ hq)⟩⟩⟩
theorem getD_block (l : List UInt8) (a m i : Nat) (h : i < m) : ((l.drop a).take m).getD i 0 = l.getD (a + i) 0 := by
 rw [List.getD_eq_getElem?_getD, List.getD_eq_getElem?_getD, List.getElem?_take, if_pos h, List.getElem?_drop]
theorem rpad31_snoc (bs : List UInt8) (k : Nat) : (bs ++ 31 :: List.replicate (k + 1) 0).map bv = (bs ++ 31 :: List.replicate k 0).map bv ++ [Value.int .u8 0] := by rw [List.replicate_succ']; simp [bv]
theorem rpad31_first (bs : List UInt8) : (bs ++ 31 :: List.replicate 0 0).map bv = bs.map bv ++ [Value.int .u8 31] := by simp [bv]
section
variable {G : World} {M : Mem} {L : Own}
abbrev rcB (b : Nat) : Nat × Obj := (b, .cells (kRc.map u64v).toArray 232 (0, 0))
theorem RShSum_spec {A : Option Addr} {m c : Nat} {bs : List UInt8} (hb : RowIn M L 1 A m (bs.map bv)) (hm : m ≤ 1099511627776) (n : Nat) (hn : n ≤ 136) :
    Con Tryz.prog 181 #[.slice A m c, .int .i64 (n : Int)] G M L (fun r M' L' => ∃ A' c', r = .slice A' n c' ∧ Bytes M' A' n c' (shk bs n) ∧ L' = L) noPanic := by
  have hbl : bs.length = m := by have := hb.len; simpa using this
  have hz : sPadZ bs = 135 - m % 136 := by rw [sPadZ, hbl]
  refine enter (args := [_, _]) (fn := Tryz.f181) ⟨Tryz.func181, rfl, by kernel_rfl, by kernel_rfl⟩ 113 rfl <| zr <| as0 rfl rfl <| zq <| zr2 <| mvI rfl rfl <| tl_y rfl (y_lss rfl rfl) <| mvB rfl rfl <| tl_set (s := 18) (u := .bool false) rfl (by rw [decide_eq_false]; omega) <| mvI rfl rfl ?_
  refine tl_y rfl (y_gtr rfl rfl) <| tl_y rfl (y_pickF rfl rfl) <| zq <| .s3 0 1 21 rfl rfl rfl <| x_false rfl (by rw [decide_eq_false]; omega) <| x_skip <| .then_normal <| zr <| tl_e rfl <| e_call' rfl RConst_spec ?_
  rintro _ _ _ _ ⟨rfl, rfl, rfl⟩
  refine tl_e rfl <| e_alloc <| fun b1 => tl_e rfl <| e_store rfl rfl (by rfl) (u64_one _) inferInstance (.whole (by rfl)) inferInstance <| zq <| zr <| tl_e rfl <| e_buildSlice0 <| fun b2 => mvS rfl rfl <| tl_e rfl <| e_append1 (by decide) rfl rfl OwnRow.made00 (src_in (RowIn.cons hb)) (all_one_bv bs) (by omega) (by omega) <| fun A1 c1 E1 hE1 => ?_
  rw [Nat.zero_add, List.nil_append] at hE1; rw [Nat.zero_add]
  refine tl_e rfl <| e_buildSlice rfl (by decide) <| fun b3 => .to (E1 ++ ((b3, .cells (List.toArray [.int .u8 31]) 5 (0, 0)) :: rcB b1 :: L)) inferInstance <| tl_e rfl <| e_append (by decide) rfl rfl hE1 (.own inferInstance rfl) rfl (by omega) (by omega) <| fun A2 c2 E2 hE2 => asS rfl rfl <| zq <| .s3 1 5 6 rfl rfl rfl <| x_seq <| x_block ?_
  refine x_loop (I := fun m' F D M1 L1 => ∃ (k : Nat) (A2 : Option Addr) (c2 : Nat) (E2 : Own), m' = sPadZ bs - k ∧ k ≤ sPadZ bs ∧ OwnRow 5 1 A2 (m + 1 + k) c2 ((bs ++ 31 :: List.replicate k 0).map bv) E2 ∧ D = [] ∧ M = M1 ∧ DropTo L1 (E2 ++ rcB b1 :: L) ∧ F = [(1, .int .i64 n), (5, .pointer (some ⟨b1, 0, none⟩)), (6, .slice A2 (m + 1 + k) c2)]) (sPadZ bs) (F0 := [(1, _), (5, _), (6, _)]) ?_ (.cons rfl (.cons rfl (.cons rfl .nil))) ?_  -- slots [1, 5, 6], written [6]
  · exact ⟨0, A2, c2, E2, rfl, by omega, by rw [rpad31_first]; exact hE2, rfl, rfl, inferInstance, rfl⟩
  rintro m _ _ M1 L1 ⟨k, A2, c2, E2, rfl, hk, hE2, rfl, rfl, hdr, rfl⟩
  refine zr2 <| mvS rfl rfl <| tl_y rfl (y_len rfl) <| tl_y rfl (y_remI rfl rfl (by omega)) <| tl_y rfl (y_neq rfl rfl) <| zq <| x_cond rfl (fun hc2 => ?_) (fun hc2 => ?_)
  ·
    have hkn : k < sPadZ bs := by omega
    refine .dropTo _ hdr <| x_skip <| .then_normal <| .s3 1 5 6 rfl rfl rfl <| x_block <| x_region <| mvS rfl rfl <| tl_e rfl <| e_buildSlice rfl (by decide) <| fun b3 => .to (E2 ++ ((b3, .cells (List.toArray [.int .u8 0]) 5 (0, 0)) :: rcB b1 :: L)) inferInstance <| tl_e rfl <| e_append (by decide) rfl rfl hE2 (.own inferInstance rfl) rfl (by omega) (by omega) <| fun A3 c3 E3 hE3 => asS rfl rfl ?_
    refine tl_nil <| .block_normal <| .loop_next (m' := sPadZ bs - (k + 1)) (by omega) (F' := [(1, _), (5, _), (6, _)]) (.cons rfl (.cons rfl (.cons rfl .nil))) ?_
    exact ⟨k + 1, A3, c3, E3, rfl, by omega, by rw [rpad31_snoc]; exact hE3, rfl, rfl, inferInstance, rfl⟩
  ·
    obtain rfl : k = sPadZ bs := by omega
    refine .dropTo _ hdr ?_
    have hpl := sPad0_length bs
    have hbk := sPad_blocks bs
    rw [hbl] at hpl hbk
    change OwnRow _ _ _ _ _ ((sPad0 bs).map bv) _ at hE2
    obtain ⟨g, pre, slack, rfl, rfl⟩ := hE2.pos (by omega)
    simp only [List.cons_append, List.nil_append]
    refine x_exit <| .then_exit <| .loop_exit <| .block_exit <| .then_normal <| .s3 1 5 6 rfl rfl rfl <| zr <| mvS rfl rfl <| mvS rfl rfl <| tl_y rfl (y_len rfl) <| tl_y rfl (y_subI rfl rfl (by omega)) <| mvS rfl rfl <| mvS rfl rfl <| tl_y rfl (y_len rfl) ?_
    refine tl_y rfl (y_subI rfl rfl (by omega)) <| tl_y rfl (y_indexAddr rfl rfl (by omega)) <| tl_y rfl (y_load rfl rfl (.at_ (.ownAt (i := pre.length + (m + sPadZ bs)) (c := pre ++ ((sPad0 bs).map bv ++ slack)) inferInstance (get_mid (by omega))) (by omega))) <| tl_y rfl (y_xor8 (b := 128) rfl rfl) <| tl_y rfl (y_indexAddr rfl rfl (by omega)) <| tl_e rfl <| e_storeAt (c := pre ++ ((sPad0 bs).map bv ++ slack)) rfl rfl rfl inferInstance (by simp; omega) inferInstance ?_
    rw [show pre.length + (((m + 1 + sPadZ bs : Nat) : Int) - 1).toNat * 1 = pre.length + (m + sPadZ bs) by omega]
    have hE3 := hE2.set (m + sPadZ bs) (.int .u8 (((sPad0 bs).getD (m + sPadZ bs) 0 ^^^ 128).toNat : Int)) (by rw [List.length_map]; omega)
    rw [show ((sPad0 bs).map bv).set (m + sPadZ bs) (.int .u8 (((sPad0 bs).getD (m + sPadZ bs) 0 ^^^ 128).toNat : Int)) = (sPad bs).map bv by rw [sPad, hbl, List.map_set]; rfl] at hE3
    generalize hgo : (pre ++ ((sPad0 bs).map bv ++ slack)).set (pre.length + (m + sPadZ bs)) (.int .u8 (((sPad0 bs).getD (m + sPadZ bs) 0 ^^^ 128).toNat : Int)) = whole at hE3
    refine .eqL (L' := [(g, .cells whole.toArray 5 (0, 0))] ++ rcB b1 :: L) rfl <| .pubRow hE3 <| fun M1 hM1 hT => ?_
    rw [hbk] at hT
    rw [hbk]
    obtain ⟨tg, to, hTA, hTc⟩ := hT.byte (by omega)
    have hspl := hT.size
    refine zq <| .s3 1 5 6 rfl rfl rfl <| zr <| tl_e rfl <| e_alloc <| fun b5 => zq <| zr2 <| as0 rfl rfl <| zq <| x_block ?_
    refine x_loop (I := fun m' F D M2 L2 => ∃ (k : Nat), m' = m / 136 + 1 - k ∧ k ≤ m / 136 + 1 ∧ D = [] ∧ M1 = M2 ∧ L2 = kB b5 (sAbs (sPad bs) k) :: rcB b1 :: L ∧ F = [(1, .int .i64 n), (5, .pointer (some ⟨b1, 0, none⟩)), (6, .slice (some ⟨tg, to, none⟩) (136 * (m / 136 + 1)) c2), (7, .pointer (some ⟨b5, 0, none⟩)), (8, .int .i64 ((136 * k : Nat) : Int))]) (m / 136 + 1) (F0 := [(1, _), (5, _), (6, _), (7, _), (8, _)]) ?_ (.cons rfl (.cons rfl (.cons rfl (.cons rfl (.cons rfl .nil))))) ?_  -- slots [1, 5, 6, 7, 8], written [8]
    · exact ⟨0, rfl, by omega, rfl, rfl, rfl, by rw [← hTA]; rfl⟩
    rintro m _ _ M2 L2 ⟨k, rfl, hk, rfl, rfl, rfl, rfl⟩
    refine zr2 <| mvI rfl rfl <| mvS rfl rfl <| tl_y rfl (y_len rfl) <| tl_y rfl (y_lss rfl rfl) <| zq <| x_cond rfl (fun hc3 => ?_) (fun hc3 => ?_)
    ·
      have hkn : k < m / 136 + 1 := by omega
      have hsl := sAbs_length (sPad bs) k
      generalize hst : sAbs (sPad bs) k = st at hsl
      generalize hblk : ((sPad bs).drop (136 * k)).take 136 = blk
      have hblkg : ∀ i, i < 136 → blk.getD i 0 = (sPad bs).getD (136 * k + i) 0 := fun i hi => by rw [← hblk, getD_block _ _ _ _ hi]
      refine x_skip <| .then_normal <| .s5 1 5 6 7 8 rfl rfl rfl rfl rfl <| x_seq <| x_block <| zr2 <| as0 rfl rfl <| zq <| x_block ?_
      refine x_loop (I := fun m' F D M2 L2 => ∃ (i : Nat), m' = 17 - i ∧ i ≤ 17 ∧ D = [] ∧ M1 = M2 ∧ L2 = kB b5 (rMix st blk i) :: rcB b1 :: L ∧ F = [(1, .int .i64 n), (5, .pointer (some ⟨b1, 0, none⟩)), (6, .slice (some ⟨tg, to, none⟩) (136 * (m / 136 + 1)) c2), (7, .pointer (some ⟨b5, 0, none⟩)), (8, .int .i64 ((136 * k : Nat) : Int)), (9, .int .i64 i)]) (17) (F0 := [(1, _), (5, _), (6, _), (7, _), (8, _), (9, _)]) ?_ (.cons rfl (.cons rfl (.cons rfl (.cons rfl (.cons rfl (.cons rfl .nil)))))) ?_  -- slots [1, 5, 6, 7, 8, 9], written [9]
      · exact ⟨0, rfl, by omega, rfl, rfl, rfl, rfl⟩
      rintro m _ _ M2 L2 ⟨i, rfl, hi, rfl, rfl, rfl, rfl⟩
      refine zr2 <| mvI rfl rfl <| tl_y rfl (y_lss rfl rfl) <| zq <| x_cond rfl (fun hc4 => ?_) (fun hc4 => ?_)
      ·
        have hil : (rMix st blk i).length = 25 := by rw [rMix_length, hsl]
        refine x_skip <| .then_normal <| x_seq <| x_block <| zr <| as0 rfl rfl <| zq <| zr2 <| as0 rfl rfl <| zq <| x_block ?_
        refine x_loop (I := fun m' F D M2 L2 => ∃ (j : Nat), m' = 8 - j ∧ j ≤ 8 ∧ D = [] ∧ M1 = M2 ∧ L2 = kB b5 (rMix st blk i) :: rcB b1 :: L ∧ F = [(1, .int .i64 n), (5, .pointer (some ⟨b1, 0, none⟩)), (6, .slice (some ⟨tg, to, none⟩) (136 * (m / 136 + 1)) c2), (7, .pointer (some ⟨b5, 0, none⟩)), (8, .int .i64 ((136 * k : Nat) : Int)), (9, .int .i64 i), (10, u64v (rW blk i j)), (11, .int .i64 (7 - (j : Int)))]) (8) (F0 := [(1, _), (5, _), (6, _), (7, _), (8, _), (9, _), (10, _), (11, _)]) ?_ (.cons rfl (.cons rfl (.cons rfl (.cons rfl (.cons rfl (.cons rfl (.cons rfl (.cons rfl .nil)))))))) ?_  -- slots [1, 5, 6, 7, 8, 9, 10, 11], written [10, 11]
        · exact ⟨0, rfl, by omega, rfl, rfl, rfl, rfl⟩
        rintro m _ _ M2 L2 ⟨j, rfl, hj, rfl, rfl, rfl, rfl⟩
        refine zr2 <| mvI rfl rfl <| tl_y rfl (y_geq rfl rfl) <| zq <| x_cond rfl (fun hc5 => ?_) (fun hc5 => ?_)
        ·
          have hj7 : j < 8 := by omega
          have hval := hTc (kB b5 (rMix st blk i) :: rcB b1 :: L) (136 * k + (8 * i + (7 - j))) (by omega)
          rw [← hblkg (8 * i + (7 - j)) (by omega)] at hval
          refine x_skip <| .then_normal <| x_seq <| x_block <| x_region <| mvI rfl rfl <| tl_y rfl (y_mul64 (b := 256) rfl rfl) <| mvS rfl rfl <| mvI rfl rfl <| mvI rfl rfl <| tl_y rfl (y_mulI rfl rfl (by omega)) ?_
          refine tl_y rfl (y_addI rfl rfl (by omega)) <| mvI rfl rfl <| tl_y rfl (y_addI rfl rfl (by omega)) <| tl_y rfl (y_indexAddr rfl rfl (by omega)) <| tl_y rfl (y_load rfl rfl (.at_ hval (by omega))) <| tl_y rfl (y_u8u64 rfl) <| tl_y rfl (y_add64 rfl rfl) <| asI rfl rfl <| tl_nil <| .block_normal <| .then_normal <| .s8 1 5 6 7 8 9 10 11 rfl rfl rfl rfl rfl rfl rfl rfl ?_
          refine x_region <| mvI rfl rfl <| tl_y rfl (y_subI rfl rfl (by omega)) ?_
          rw [show (7 : Int) - (j : Int) - 1 = 7 - ((j + 1 : Nat) : Int) by omega]
          refine asI rfl rfl <| tl_nil <| .loop_next (m' := 8 - (j + 1)) (by omega) (F' := [(1, _), (5, _), (6, _), (7, _), (8, _), (9, _), (10, _), (11, _)]) (.cons rfl (.cons rfl (.cons rfl (.cons rfl (.cons rfl (.cons rfl (.cons rfl (.cons rfl .nil)))))))) ?_
          exact ⟨j + 1, rfl, by omega, rfl, rfl, rfl, rfl⟩
        ·
          obtain rfl : j = 8 := by omega
          refine x_exit <| .then_exit <| .loop_exit <| .block_exit <| .then_normal <| x_region <| mvI rfl rfl <| mvI rfl rfl <| tl_y rfl (y_indexArr rfl rfl (by omega)) <| tl_y rfl (y_load rfl rfl (.at_ (.ownAt (i := i) (c := (rMix st blk i).map u64v) inferInstance (get_u64' _ _ (by omega))) (by omega))) <| mvI rfl rfl <| tl_y rfl (y_xor64 rfl rfl) <| tl_y rfl (y_indexArr rfl rfl (by omega)) <| tl_e rfl <| e_storeAt (c := (rMix st blk i).map u64v) rfl rfl rfl inferInstance (by rw [List.length_map]; omega) inferInstance ?_
          rw [show 0 + ((i : Int)).toNat * 1 = i by omega, ← List.map_set]
          refine tl_nil <| .block_normal <| .then_normal <| .s6 1 5 6 7 8 9 rfl rfl rfl rfl rfl rfl <| x_region <| mvI rfl rfl <| tl_y rfl (y_addI rfl rfl (by omega)) <| asI rfl rfl <| tl_nil <| .loop_next (m' := 17 - (i + 1)) (by omega) (F' := [(1, _), (5, _), (6, _), (7, _), (8, _), (9, _)]) (.cons rfl (.cons rfl (.cons rfl (.cons rfl (.cons rfl (.cons rfl .nil)))))) ?_
          exact ⟨i + 1, rfl, by omega, rfl, rfl, rfl, rfl⟩
      ·
        obtain rfl : i = 17 := by omega
        rw [sMix_eq blk hsl 17 (by omega)]
        have hml : (sMix st blk (8 * 17)).length = 25 := by rw [sMix_length, hsl]
        refine x_exit <| .then_exit <| .loop_exit <| .block_exit <| .then_normal <| x_region <| tl_y rfl (y_loadAgg rfl rfl (.whole inferInstance (by simp [hml]))) <| tl_y rfl (y_loadAgg rfl rfl (.whole inferInstance (by rfl))) <| tl_e rfl <| e_call' rfl (RPermute_spec hml) ?_
        rintro _ _ _ _ ⟨rfl, rfl, rfl⟩
        refine tl_e rfl <| e_store rfl rfl (by simp [kPerm_length, hml]) (u64_one _) inferInstance (.whole (by simp [kPerm_length, hml])) inferInstance <| tl_nil <| .block_normal <| .then_normal <| .s5 1 5 6 7 8 rfl rfl rfl rfl rfl <| x_region <| mvI rfl rfl <| tl_y rfl (y_addI rfl rfl (by omega)) <| asI rfl rfl <| tl_nil <| .loop_next (m' := m / 136 + 1 - (k + 1)) (by omega) (F' := [(1, _), (5, _), (6, _), (7, _), (8, _)]) (.cons rfl (.cons rfl (.cons rfl (.cons rfl (.cons rfl .nil))))) ?_
        exact ⟨k + 1, rfl, by omega, rfl, rfl, by rw [sAbs, hst, hblk], by rw [show (136 * (k + 1) : Nat) = 136 * k + 136 by omega]; rfl⟩
    ·
      obtain rfl : k = m / 136 + 1 := by omega
      have hs0 : sAbs (sPad bs) (m / 136 + 1) = shk0 bs := by rw [shk0, hbl]
      have hsl : (shk0 bs).length = 25 := sAbs_length _ _
      rw [hs0]
      refine x_exit <| .then_exit <| .loop_exit <| .block_exit <| .then_normal <| .s3 1 5 7 rfl rfl rfl <| zr <| as0 rfl rfl <| zq <| x_seq <| x_block ?_
      refine x_loop (I := fun m' F D M2 L2 => ∃ (t : Nat) (s : List UInt64) (A3 : Option Addr) (c3 : Nat) (E : Own), m' = 1 - t ∧ t ≤ 1 ∧ s.length = 25 ∧ (t = 0 → s = shk0 bs) ∧ OwnRow 5 1 A3 (136 * t) c3 ((sGive (shk0 bs) (136 * t)).map bv) E ∧ D = [] ∧ M1 = M2 ∧ DropTo L2 (E ++ kB b5 s :: rcB b1 :: L) ∧ F = [(1, .int .i64 n), (5, .pointer (some ⟨b1, 0, none⟩)), (7, .pointer (some ⟨b5, 0, none⟩)), (12, .slice A3 (136 * t) c3)]) (1) (F0 := [(1, _), (5, _), (7, _), (12, _)]) ?_ (.cons rfl (.cons rfl (.cons rfl (.cons rfl .nil)))) ?_  -- slots [1, 5, 7, 12], written [12]
      · exact ⟨0, shk0 bs, none, 0, [], rfl, by omega, hsl, fun _ => rfl, .nil, rfl, rfl, ⟨[], List.Perm.refl _⟩, rfl⟩
      rintro m _ _ M2 L2 ⟨t, s, A3, c3, E, rfl, ht, hsl2, hs0t, hE, rfl, rfl, hdr, rfl⟩
      refine zr2 <| mvS rfl rfl <| tl_y rfl (y_len rfl) <| mvI rfl rfl <| tl_y rfl (y_lss rfl rfl) <| zq <| x_cond rfl (fun hc6 => ?_) (fun hc6 => ?_)
      ·
        obtain rfl : t = 0 := by omega
        rw [hs0t rfl] at hdr
        rw [Nat.mul_zero] at hE ⊢
        refine .dropTo _ hdr <| x_skip <| .then_normal <| .s4 1 5 7 12 rfl rfl rfl rfl <| x_block <| zr2 <| as0 rfl rfl <| zq <| x_block ?_
        refine x_loop (I := fun m' F D M2 L2 => ∃ (i : Nat) (A3 : Option Addr) (c3 : Nat) (E : Own), m' = 17 - i ∧ i ≤ 17 ∧ OwnRow 5 1 A3 (8 * i) c3 ((sGive (shk0 bs) (8 * i)).map bv) E ∧ D = [] ∧ M1 = M2 ∧ DropTo L2 (E ++ kB b5 (shk0 bs) :: rcB b1 :: L) ∧ F = [(1, .int .i64 n), (5, .pointer (some ⟨b1, 0, none⟩)), (7, .pointer (some ⟨b5, 0, none⟩)), (12, .slice A3 (8 * i) c3), (13, .int .i64 i)]) (17) (F0 := [(1, _), (5, _), (7, _), (12, _), (13, _)]) ?_ (.cons rfl (.cons rfl (.cons rfl (.cons rfl (.cons rfl .nil))))) ?_  -- slots [1, 5, 7, 12, 13], written [12, 13]
        · exact ⟨0, A3, c3, E, rfl, by omega, by rw [Nat.mul_zero]; exact hE, rfl, rfl, inferInstance, rfl⟩
        rintro m _ _ M2 L2 ⟨i, A4, c4, E4, rfl, hi, hE4, rfl, rfl, hdr4, rfl⟩
        refine zr2 <| mvI rfl rfl <| tl_y rfl (y_lss rfl rfl) <| zq <| x_cond rfl (fun hc7 => ?_) (fun hc7 => ?_)
        ·
          have hi17 : i < 17 := by omega
          have hgl : (shk0 bs).getD i 0 = (shk0 bs).getD ((8 * i) / 8) 0 := by rw [show (8 * i) / 8 = i by omega]
          refine .dropTo _ hdr4 <| x_skip <| .then_normal <| x_seq <| x_block <| zr <| mvI rfl rfl <| tl_y rfl (y_indexArr rfl rfl (by omega)) <| tl_y rfl (y_load rfl rfl (.at_ (.ownAt (i := i) (c := (shk0 bs).map u64v) inferInstance (get_u64' _ _ (by omega))) (by omega))) <| asI rfl rfl <| zq ?_
          refine .s6 1 5 7 12 13 14 rfl rfl rfl rfl rfl rfl <| zr <| as0 rfl rfl <| zq <| x_block ?_
          refine x_loop (I := fun m' F D M2 L2 => ∃ (j : Nat) (A3 : Option Addr) (c3 : Nat) (E : Own), m' = 8 - j ∧ j ≤ 8 ∧ OwnRow 5 1 A3 (8 * i + j) c3 ((sGive (shk0 bs) (8 * i + j)).map bv) E ∧ D = [] ∧ M1 = M2 ∧ DropTo L2 (E ++ kB b5 (shk0 bs) :: rcB b1 :: L) ∧ F = [(1, .int .i64 n), (5, .pointer (some ⟨b1, 0, none⟩)), (7, .pointer (some ⟨b5, 0, none⟩)), (12, .slice A3 (8 * i + j) c3), (13, .int .i64 i), (14, .int .u64 ((((shk0 bs).getD i 0).toNat / 256 ^ j : Nat) : Int)), (15, .int .i64 j)]) (8) (F0 := [(1, _), (5, _), (7, _), (12, _), (13, _), (14, _), (15, _)]) ?_ (.cons rfl (.cons rfl (.cons rfl (.cons rfl (.cons rfl (.cons rfl (.cons rfl .nil))))))) ?_  -- slots [1, 5, 7, 12, 13, 14, 15], written [12, 14, 15]
          · exact ⟨0, A4, c4, E4, rfl, by omega, hE4, rfl, rfl, inferInstance, by rw [Nat.pow_zero, Nat.div_one]; rfl⟩
          rintro m _ _ M2 L2 ⟨j, A5, c5, E5, rfl, hj, hE5, rfl, rfl, hdr5, rfl⟩
          refine zr2 <| mvI rfl rfl <| tl_y rfl (y_lss rfl rfl) <| zq <| x_cond rfl (fun hc8 => ?_) (fun hc8 => ?_)
          ·
            have hj8 : j < 8 := by omega
            refine .dropTo _ hdr5 ?_
            have hwl := ((shk0 bs).getD i 0).toNat_lt
            have hdl := Nat.div_le_self ((shk0 bs).getD i 0).toNat (256 ^ j)
            have hby : UInt8.ofInt (((((shk0 bs).getD i 0).toNat / 256 ^ j : Nat) : Int) % 256) = sByte (shk0 bs) (8 * i + j) := by
              rw [sByte, show (8 * i + j) / 8 = i by omega, show (8 * i + j) % 8 = j by omega, ← div256 _ _ hj8]
              show UInt8.ofNat _ = _
              apply UInt8.toNat_inj.1
              rw [UInt8.toNat_ofNat', UInt8.toNat_ofNat']
              generalize ((shk0 bs).getD i 0).toNat / 256 ^ j = q
              omega
            have hdd : ((((shk0 bs).getD i 0).toNat / 256 ^ j : Nat) : Int) / 256 = ((((shk0 bs).getD i 0).toNat / 256 ^ (j + 1) : Nat) : Int) := by
              rw [Nat.pow_succ, ← Nat.div_div_eq_div_mul]; simp
            generalize hq : ((shk0 bs).getD i 0).toNat / 256 ^ j = q at hby hdd hdl
            refine x_skip <| .then_normal <| x_seq <| x_block <| zr <| mvS rfl rfl <| mvI rfl rfl <| tl_y rfl (y_remI rfl rfl (by omega)) <| tl_y rfl (y_of8 rfl) ?_
            rw [hby]
            refine tl_e rfl <| e_buildSlice rfl (by decide) <| fun b6 => .to (E5 ++ ((b6, .cells (List.toArray [u8v (sByte (shk0 bs) (8 * i + j))]) 5 (0, 0)) :: kB b5 (shk0 bs) :: rcB b1 :: L)) inferInstance <| tl_e rfl <| e_append (by decide) rfl rfl hE5 (.own inferInstance rfl) rfl (by omega) (by omega) <| fun A6 c6 E6 hE6 => asS rfl rfl <| zq <| .s7 1 5 7 12 13 14 15 rfl rfl rfl rfl rfl rfl rfl <| x_region <| mvI rfl rfl <| tl_y rfl (y_quoN64 rfl rfl (by omega)) ?_
            rw [hdd]
            refine asI rfl rfl <| tl_nil <| .block_normal <| .then_normal <| x_region <| mvI rfl rfl <| tl_y rfl (y_addI rfl rfl (by omega)) <| asI rfl rfl <| tl_nil <| .loop_next (m' := 8 - (j + 1)) (by omega) (F' := [(1, _), (5, _), (7, _), (12, _), (13, _), (14, _), (15, _)]) (.cons rfl (.cons rfl (.cons rfl (.cons rfl (.cons rfl (.cons rfl (.cons rfl .nil))))))) ?_
            exact ⟨j + 1, A6, c6, E6, rfl, by omega, by rw [← Nat.add_assoc, sGive_succ, List.map_append]; exact hE6, rfl, rfl, inferInstance, rfl⟩
          ·
            obtain rfl : j = 8 := by omega
            refine x_exit <| .then_exit <| .loop_exit <| .block_exit <| .block_normal <| .then_normal <| .s5 1 5 7 12 13 rfl rfl rfl rfl rfl <| x_region <| mvI rfl rfl <| tl_y rfl (y_addI rfl rfl (by omega)) <| asI rfl rfl <| tl_nil <| .loop_next (m' := 17 - (i + 1)) (by omega) (F' := [(1, _), (5, _), (7, _), (12, _), (13, _)]) (.cons rfl (.cons rfl (.cons rfl (.cons rfl (.cons rfl .nil))))) ?_
            exact ⟨i + 1, A5, c5, E5, rfl, by omega, hE5, rfl, rfl, hdr5, rfl⟩
        ·
          obtain rfl : i = 17 := by omega
          refine .dropTo _ hdr4 <| x_exit <| .then_exit <| .loop_exit <| .block_exit <| .then_normal <| x_region <| tl_y rfl (y_loadAgg rfl rfl (.whole inferInstance (by simp [hsl]))) <| tl_y rfl (y_loadAgg rfl rfl (.whole inferInstance (by rfl))) <| tl_e rfl <| e_call' rfl (RPermute_spec hsl) ?_
          rintro _ _ _ _ ⟨rfl, rfl, rfl⟩
          refine tl_e rfl <| e_store rfl rfl (by simp [kPerm_length, hsl]) (u64_one _) inferInstance (.whole (by simp [kPerm_length, hsl])) inferInstance <| tl_nil <| .block_normal <| .loop_next (m' := 0) (by omega) (F' := [(1, _), (5, _), (7, _), (12, _)]) (.cons rfl (.cons rfl (.cons rfl (.cons rfl .nil)))) ?_
          exact ⟨1, kPerm (shk0 bs) 24, A4, c4, E4, rfl, by omega, by rw [kPerm_length, hsl], fun h => absurd h (by omega), hE4, rfl, rfl, inferInstance, rfl⟩
      ·
        have htn : n ≤ 136 * t := by omega
        have htc := hE.le
        refine .dropTo _ hdr <| .pubRow hE <| fun M3 hM3 hr => x_exit <| .then_exit <| .loop_exit <| .block_exit <| .then_normal <| .s2 1 12 rfl rfl <| zr <| mvS rfl rfl <| mvI rfl rfl <| tl_y rfl (y_sliceH rfl rfl (by omega) (by omega)) <| asS rfl rfl <| zq ?_
        refine .s1 4 rfl <| x_ret (.dropTo L inferInstance (ret1 rfl rfl (hM1.trans hM3) ⟨_, _, rfl, by
          have h1 := Bytes.take hr n htn
          rcases (by omega : t = 0 ∨ t = 1) with rfl | rfl
          · obtain rfl : n = 0 := by omega
            simpa [shk] using h1
          · exact h1, rfl⟩))
end
end Go.Proofs.YtiimjodbaogjbaaGreatDoor
set_option linter.unusedVariables false
set_option linter.unusedSimpArgs false
set_option linter.constructorNameAsVariable false
namespace Go.Proofs.YtiimjodbaogjbaaGreatDoor
open Go Go.Eng
def shR (n w j : Nat) : Nat := shX n w / (2 ^ w) ^ j
theorem shR_succ (n w j : Nat) : ((shR n w j : Nat) : Int) / ((pw2 w : Nat) : Int) = ((shR n w (j + 1) : Nat) : Int) := by
 rw [shR, shR, pw2, Nat.pow_succ (2 ^ w), ← Nat.div_div_eq_div_mul]; simp
theorem shR_zero (n w : Nat) : shR n w 0 = shX n w := by rw [shR, Nat.pow_zero, Nat.div_one]
theorem shR_le (n w j : Nat) : shR n w j ≤ shX n w := Nat.div_le_self _ _
section
variable {G : World} {M : Mem} {L : Own}
theorem RdMay_spec {w : Nat} (hw : isW w) :
    Con Tryz.prog 172 #[.int .i64 (w : Int)] G M L (fun v M' L' => M = M' ∧ L = L' ∧ v = .bool true) noPanic := by
  refine enter (args := [_]) (fn := Tryz.f172) ⟨Tryz.func172, rfl, by kernel_rfl, by kernel_rfl⟩ 17 rfl <| zr <| as0 rfl rfl <| zq <| zr <| mvI rfl rfl <| tl_y rfl (y_eql rfl rfl) <| mvB rfl rfl <| tl_cases (s := 5) rfl (fun hk1 => ?_) (fun hk1 => ?_)
  ·
    refine tl_skip rfl <| tl_skip rfl <| tl_y rfl (y_pickT rfl rfl) <| mvB rfl rfl <| tl_skip rfl <| tl_skip rfl <| tl_y rfl (y_pickT rfl rfl) <| mvB rfl rfl <| tl_skip rfl <| tl_skip rfl ?_
    refine tl_y rfl (y_pickT rfl rfl) <| asB rfl rfl <| zq <| .s1 2 rfl <| x_ret (ret1 rfl rfl (Le.refl _) ⟨rfl, rfl, rfl⟩)
  ·
    refine mvI rfl rfl <| tl_y rfl (y_eql rfl rfl) <| tl_y rfl (y_pickF rfl rfl) <| mvB rfl rfl <| tl_cases (s := 9) rfl (fun hk2 => ?_) (fun hk2 => ?_)
    ·
      refine tl_skip rfl <| tl_skip rfl <| tl_y rfl (y_pickT rfl rfl) <| mvB rfl rfl <| tl_skip rfl <| tl_skip rfl <| tl_y rfl (y_pickT rfl rfl) <| asB rfl rfl <| zq <| .s1 2 rfl ?_
      refine x_ret (ret1 rfl rfl (Le.refl _) ⟨rfl, rfl, rfl⟩)
    ·
      refine mvI rfl rfl <| tl_y rfl (y_eql rfl rfl) <| tl_y rfl (y_pickF rfl rfl) <| mvB rfl rfl <| tl_cases (s := 13) rfl (fun hk3 => ?_) (fun hk3 => ?_)
      ·
        refine tl_skip rfl <| tl_skip rfl <| tl_y rfl (y_pickT rfl rfl) <| asB rfl rfl <| zq <| .s1 2 rfl <| x_ret (ret1 rfl rfl (Le.refl _) ⟨rfl, rfl, rfl⟩)
      ·
        refine mvI rfl rfl <| tl_y rfl (y_eql rfl rfl) <| tl_y rfl (y_pickF rfl rfl) <| asB rfl rfl <| zq <| .s1 2 rfl <| x_ret (ret1 rfl rfl (Le.refl _) ⟨rfl, rfl, by
          rcases hw with rfl | rfl | rfl | rfl
          · exact absurd rfl hk1
          · exact absurd rfl hk2
          · exact absurd rfl hk3
          · rfl⟩)
theorem RShape_spec {n w : Nat} (hn : isN n) (hw : isW w) :
    Con Tryz.prog 123 #[.int .i64 (n : Int), .int .i64 (w : Int)] G M L (fun v M' L' => M = M' ∧ L = L' ∧ v = .tuple #[.int .i64 (shU n w : Nat), .int .i64 (shV n w : Nat), .int .i64 (shS n w : Nat)]) noPanic := by
  have hfact := shape_fact hn hw
  have hnb : 24 ≤ n ∧ n ≤ 32 := by rcases hn with rfl | rfl <;> omega
  have hlp : ∀ k, k ≤ shV n w → (0 < shR n w k ↔ k < shV n w) := fun k hk => shape_loop hn hw ⟨k, by omega⟩ hk
  change _ ∧ _ ∧ _ ∧ _ ∧ _ ∧ _ ∧ _ ∧ _ ∧ pw2 w ≤ 256 ∧ 2 ≤ pw2 w at hfact
  obtain ⟨h1, h2, h3, h4, h5, h6, h7, h8, h9, h10⟩ := hfact
  have hu : (8 * (n : Int)) / (w : Int) = ((shU n w : Nat) : Int) := by rw [shU]; simp
  have hx : (((pw2 w : Nat) : Int) - 1) * ((shU n w : Nat) : Int) = ((shX n w : Nat) : Int) := by
    rw [show ((pw2 w : Nat) : Int) - 1 = ((pw2 w - 1 : Nat) : Int) by omega, shX, pw2]; simp
  have hs : ((shV n w : Nat) : Int) * (w : Int) = ((shV n w * w : Nat) : Int) := by simp
  refine enter (args := [_, _]) (fn := Tryz.f123) ⟨Tryz.func123, rfl, by kernel_rfl, by kernel_rfl⟩ 51 rfl <| zr <| as0 rfl rfl <| as0 rfl rfl <| as0 rfl rfl <| zq <| zr2 <| mvI rfl rfl <| tl_y rfl (y_lss rfl rfl) <| mvB rfl rfl ?_
  refine tl_set (s := 14) (u := .bool false) rfl (by rw [decide_eq_false]; omega) <| mvI rfl rfl <| tl_y rfl (y_gtr rfl rfl) <| tl_y rfl (y_pickF rfl rfl) <| mvB rfl rfl <| tl_set (s := 18) (u := .bool false) rfl (by rw [decide_eq_false]; omega) <| mvI rfl rfl <| tl_e rfl <| e_call' rfl (RdMay_spec hw) ?_
  rintro _ _ _ _ ⟨rfl, rfl, rfl⟩
  refine tl_y rfl (y_not rfl) <| tl_y rfl (y_pickF rfl rfl) <| zq <| .s3 0 1 22 rfl rfl rfl <| x_false rfl (rfl) <| x_skip <| .then_normal <| zr <| as0 rfl rfl <| zq <| zr2 ?_
  refine as0 rfl rfl <| zq <| x_block ?_
  refine x_loop (I := fun m' F D M2 L1 => ∃ k : Nat, m' = w - k ∧ k ≤ w ∧ D = [] ∧ M = M2 ∧ L = L1 ∧ F = [(0, .int .i64 n), (1, .int .i64 w), (7, .int .i64 (pw2 k : Nat)), (8, .int .i64 k)]) (w) (F0 := [(0, _), (1, _), (7, _), (8, _)]) ?_ (.cons rfl (.cons rfl (.cons rfl (.cons rfl .nil)))) ?_  -- slots [0, 1, 7, 8], written [7, 8]
  · exact ⟨0, rfl, by omega, rfl, rfl, rfl, rfl⟩
  rintro m _ _ M2 L1 ⟨k, rfl, hk, rfl, rfl, rfl, rfl⟩
  refine zr2 <| mvI rfl rfl <| mvI rfl rfl <| tl_y rfl (y_lss rfl rfl) <| zq <| x_cond rfl (fun hc2 => ?_) (fun hc2 => ?_)
  ·
    have hp := pw2_le hk
    refine x_skip <| .then_normal <| x_seq <| x_block <| x_region <| mvI rfl rfl <| tl_y rfl (y_mulI rfl rfl (by omega)) ?_
    rw [pw2_succ]
    refine asI rfl rfl <| tl_nil <| .block_normal <| .then_normal <| .s4 0 1 7 8 rfl rfl rfl rfl <| x_region <| mvI rfl rfl <| tl_y rfl (y_addI rfl rfl (by omega)) <| asI rfl rfl <| tl_nil <| .loop_next (m' := w - (k + 1)) (by omega) (F' := [(0, _), (1, _), (7, _), (8, _)]) (.cons rfl (.cons rfl (.cons rfl (.cons rfl .nil)))) ?_
    exact ⟨k + 1, rfl, by omega, rfl, rfl, rfl, rfl⟩
  ·
    obtain rfl : k = w := by omega
    refine x_exit <| .then_exit <| .loop_exit <| .block_exit <| .then_normal <| .s3 0 1 7 rfl rfl rfl <| zr <| mvI rfl rfl <| tl_y rfl (y_mulI rfl rfl (by omega)) <| mvI rfl rfl <| tl_y rfl (y_quoI rfl rfl (by omega)) ?_
    rw [hu]
    refine asI rfl rfl <| zq <| .s3 1 7 9 rfl rfl rfl <| zr <| as0 rfl rfl <| zq <| zr2 <| mvI rfl rfl <| tl_y rfl (y_subI rfl rfl (by omega)) <| mvI rfl rfl ?_
    refine tl_y rfl (y_mulI rfl rfl (by rw [hx]; omega)) ?_
    rw [hx]
    refine asI rfl rfl <| zq <| .s5 1 7 9 10 11 rfl rfl rfl rfl rfl <| x_block ?_
    refine x_loop (I := fun m' F D M2 L1 => ∃ j : Nat, m' = shV n k - j ∧ j ≤ shV n k ∧ D = [] ∧ M = M2 ∧ L = L1 ∧ F = [(1, .int .i64 k), (7, .int .i64 (pw2 k : Nat)), (9, .int .i64 (shU n k : Nat)), (10, .int .i64 j), (11, .int .i64 (shR n k j : Nat))]) (shV n k) (F0 := [(1, _), (7, _), (9, _), (10, _), (11, _)]) ?_ (.cons rfl (.cons rfl (.cons rfl (.cons rfl (.cons rfl .nil))))) ?_  -- slots [1, 7, 9, 10, 11], written [10, 11]
    · exact ⟨0, rfl, by omega, rfl, rfl, rfl, by rw [shR_zero]; rfl⟩
    rintro m _ _ M2 L1 ⟨j, rfl, hj, rfl, rfl, rfl, rfl⟩
    refine zr2 <| mvI rfl rfl <| tl_y rfl (y_gtr rfl rfl) <| zq <| x_cond rfl (fun hc3 => ?_) (fun hc3 => ?_)
    ·
      have hjv : j < shV n k := (hlp j hj).1 (by omega)
      have hdl := shR_le n k j
      refine x_skip <| .then_normal <| x_seq <| x_block <| x_region <| mvI rfl rfl <| tl_y rfl (y_addI rfl rfl (by omega)) <| asI rfl rfl <| tl_nil <| .block_normal <| .then_normal <| .s5 1 7 9 10 11 rfl rfl rfl rfl rfl <| x_region ?_
      refine mvI rfl rfl <| mvI rfl rfl <| tl_y rfl (y_quoI rfl rfl (by omega)) ?_
      rw [shR_succ]
      refine asI rfl rfl <| tl_nil <| .loop_next (m' := shV n k - (j + 1)) (by omega) (F' := [(1, _), (7, _), (9, _), (10, _), (11, _)]) (.cons rfl (.cons rfl (.cons rfl (.cons rfl (.cons rfl .nil))))) ?_
      exact ⟨j + 1, rfl, by omega, rfl, rfl, rfl, rfl⟩
    ·
      have hjv : ¬ j < shV n k := fun h => hc3 (by have := (hlp j hj).2 h; omega)
      obtain rfl : j = shV n k := by omega
      refine x_exit <| .then_exit <| .loop_exit <| .block_exit <| .then_normal <| .s3 1 9 10 rfl rfl rfl <| zr <| mvI rfl rfl <| mvI rfl rfl <| mvI rfl rfl <| mvI rfl rfl <| tl_y rfl (y_mulI rfl rfl (by rw [hs]; omega)) ?_
      rw [hs]
      refine tl_y rfl (y_subI rfl rfl (by omega)) ?_
      rw [show (16 : Int) - ((shV n k * k : Nat) : Int) = ((shS n k : Nat) : Int) by rw [shS]; omega]
      refine asI rfl rfl <| asI rfl rfl <| asI rfl rfl <| zq <| .s3 4 5 6 rfl rfl rfl <| x_ret (ret3 rfl rfl rfl rfl (Le.refl _) ⟨rfl, rfl, rfl⟩)
theorem Rsize_spec (i : Nat) (hi : i ≤ 1000) :
  Con Tryz.prog 122 #[.int .i64 (i : Int)] G M L (fun v M' L' => M = M' ∧ L = L' ∧ v = .tuple #[.int .i64 ((i / 2 : Nat) : Int), .int .i64 ((szN i : Nat) : Int)]) noPanic := by
 refine enter (args := [_]) (fn := Tryz.f122) ⟨Tryz.func122, rfl, by kernel_rfl, by kernel_rfl⟩ 11 rfl <| zr <| as0 rfl rfl <| as0 rfl rfl <| zq <| zr <| as0 rfl rfl <| zq <| zr2 <| mvI rfl rfl ?_
 refine tl_y rfl (y_remI rfl rfl (by omega)) <| tl_y rfl (y_eql rfl rfl) <| zq <| .s3 0 4 7 rfl rfl rfl <| x_cond rfl (fun hc1 => ?_) (fun hc1 => ?_)
 ·
  refine x_region <| as0 rfl rfl <| zq <| zr <| mvI rfl rfl <| tl_y rfl (y_quoI rfl rfl (by omega)) <| mvI rfl rfl <| asI rfl rfl <| asI rfl rfl <| zq ?_
  refine .s2 2 3 rfl rfl <| x_ret (ret2 rfl rfl rfl (Le.refl _) ⟨rfl, rfl, by rw [szN, if_pos (by omega)]; rfl⟩)
 ·
  refine x_skip <| .then_normal <| zr <| mvI rfl rfl <| tl_y rfl (y_quoI rfl rfl (by omega)) <| mvI rfl rfl <| asI rfl rfl <| asI rfl rfl <| zq <| .s2 2 3 rfl rfl <| x_ret (ret2 rfl rfl rfl (Le.refl _) ⟨rfl, rfl, by rw [szN, if_neg (by omega)]; rfl⟩)
theorem ROts_spec (code : UInt32) :
  Con Tryz.prog 54 #[.int .u32 (code.toNat : Int)] G M L (fun v M' L' => M = M' ∧ L = L' ∧ v = .tuple #[.agg (List.toArray (otsV code).cells), .int .i64 (otsE code)]) noPanic := by
 have hc := code.toNat_lt
 refine enter (args := [_]) (fn := Tryz.f54) ⟨Tryz.func54, rfl, by kernel_rfl, by kernel_rfl⟩ 47 rfl <| zr <| tl_e rfl <| e_alloc <| fun b1 => as0 rfl rfl <| zq <| zr2 <| mvI rfl rfl <| tl_y rfl (y_lss rfl rfl) <| mvB rfl rfl <| tl_cases (s := 12) rfl (fun hk1 => ?_) (fun hk1 => ?_)
 ·
  have ho : otsOf code = none := by rw [otsOf, if_neg (by omega)]
  refine tl_skip rfl <| tl_skip rfl <| tl_y rfl (y_pickT rfl rfl) <| zq <| .s3 0 2 15 rfl rfl rfl <| x_true rfl rfl <| zr <| tl_y rfl (y_build rfl) <| tl_e rfl <| e_st rfl rfl (by rfl) (by rfl) <| as0 rfl rfl ?_
  refine zq <| x_ret (.then_ret (retRV (L' := L) (rv2 rfl (rc_cellAgg (by rfl) rfl (.own inferInstance inferInstance)) (rc_tmp (by rfl))) inferInstance (Le.refl _) ⟨rfl, rfl, by rw [otsV, otsE, ho]; rfl⟩))
 ·
  refine mvI rfl rfl <| tl_y rfl (y_gtr rfl rfl) <| tl_y rfl (y_pickF rfl rfl) <| zq <| .s3 0 2 15 rfl rfl rfl <| x_cond rfl (fun hc1 => ?_) (fun hc1 => ?_)
  ·
   have ho : otsOf code = none := by rw [otsOf, if_neg (by omega)]
   refine zr <| tl_y rfl (y_build rfl) <| tl_e rfl <| e_st rfl rfl (by rfl) (by rfl) <| as0 rfl rfl <| zq <| x_ret (.then_ret (retRV (L' := L) (rv2 rfl (rc_cellAgg (by rfl) rfl (.own inferInstance inferInstance)) (rc_tmp (by rfl))) inferInstance (Le.refl _) ⟨rfl, rfl, by rw [otsV, otsE, ho]; rfl⟩))
  ·
   obtain ⟨i, hi⟩ : ∃ i, i = code.toNat - 1 := ⟨_, rfl⟩
   have hi4 : i % 4 < 4 := Nat.mod_lt _ (by omega)
   have hi16 : i < 16 := by omega
   obtain ⟨s1, s2, s3, s4, s5, s6, s7, s8, s9, s10⟩ := shape_fact (szN_is (i / 4)) (w_is i)
   refine x_skip <| .then_normal <| zr <| mvI rfl rfl <| tl_y rfl (y_subN32 rfl rfl (by omega)) <| tl_y rfl (y_convI rfl (by omega)) ?_
   rw [show (code.toNat : Int) - 1 = (i : Int) by omega]
   refine tl_y rfl (y_quoI rfl rfl (by omega)) ?_
   rw [show (i : Int) / 4 = ((i / 4 : Nat) : Int) by omega]
   refine tl_e rfl <| e_call' rfl (Rsize_spec (i / 4) (by omega)) ?_
   rintro _ _ _ _ ⟨rfl, rfl, rfl⟩
   refine mvU rfl rfl <| zx rfl rfl <| zx rfl rfl <| asI rfl rfl <| asI rfl rfl <| zq <| .s4 0 2 4 5 rfl rfl rfl rfl <| zr <| tl_e rfl <| e_buildSlice rfl (by decide) <| fun b2 => mvI rfl rfl ?_
   refine tl_y rfl (y_subN32 rfl rfl (by omega)) <| tl_y rfl (y_remI rfl rfl (by omega)) ?_
   rw [show ((code.toNat : Int) - 1) % 4 = ((i % 4 : Nat) : Int) by omega]
   refine tl_y rfl (y_indexAddr rfl rfl (by omega)) <| tl_y rfl (y_load rfl rfl (.at_ (.ownAt (i := i % 4) (c := [Value.int .i64 1, .int .i64 2, .int .i64 4, .int .i64 8]) inferInstance (widths_get _ hi4)) (by omega))) <| asI rfl rfl <| zq <| .s5 0 2 4 5 6 rfl rfl rfl rfl rfl <| zr <| mvI rfl rfl <| mvI rfl rfl <| tl_e rfl <| e_call' rfl (RShape_spec (szN_is (i / 4)) (w_is i)) ?_
   rintro _ _ _ _ ⟨rfl, rfl, rfl⟩
   refine mvU rfl rfl <| zx rfl rfl <| zx rfl rfl <| zx rfl rfl <| asI rfl rfl <| asI rfl rfl <| asI rfl rfl <| zq <| .s8 0 2 4 5 6 7 8 9 rfl rfl rfl rfl rfl rfl rfl rfl <| zr ?_
   refine mvI rfl rfl <| mvI rfl rfl <| mvI rfl rfl <| mvI rfl rfl <| mvI rfl rfl <| mvI rfl rfl <| tl_y rfl (y_addI rfl rfl (by omega)) <| mvI rfl rfl <| tl_y rfl (y_build rfl) <| tl_e rfl <| e_st rfl rfl (by rfl) (by rfl) ?_
   refine as0 rfl rfl <| zq <| .s2 2 3 rfl rfl <| x_ret (retRV (L' := L) (rv2 rfl (rc_cellAgg (by rfl) rfl (.own inferInstance inferInstance)) (rc_tmp (by rfl))) inferInstance (Le.refl _) ⟨rfl, rfl, by
    rw [otsV, otsE, show otsOf code = some (otsT i) by rw [otsOf, if_pos (by omega), hi]]
    rw [Option.getD_some, otsT]
    show _ = Value.tuple #[.agg (List.toArray [.int .u32 ((UInt32.ofNat (i + 1)).toNat : Int), _, _, _, _, _]), _]
    rw [show (UInt32.ofNat (i + 1)).toNat = code.toNat by rw [UInt32.toNat_ofNat']; omega, show i / 8 = i / 4 / 2 by omega]
    rfl⟩)
end
end Go.Proofs.YtiimjodbaogjbaaGreatDoor
