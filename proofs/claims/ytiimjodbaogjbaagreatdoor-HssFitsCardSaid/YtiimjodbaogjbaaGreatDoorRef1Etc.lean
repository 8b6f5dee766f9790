/-
Contracts of functions, each proved by a walk through its code.
-/
import Derived.Test.YtiimjodbaogjbaaGreatDoorBaseEtc
import Derived.Test.YtiimjodbaogjbaaGreatDoorEngIEtc
import Derived.Test.YtiimjodbaogjbaaGreatDoorOctEtc
import Derived.Test.YtiimjodbaogjbaaGreatDoorEngWEtc
set_option linter.unusedVariables false
set_option linter.unusedSimpArgs false
namespace Go.Proofs.YtiimjodbaogjbaaGreatDoor
open Go Go.Eng
section
variable {G : World} {M : Mem} {L : Own}
def eqTo (a b : List UInt8) (k : Nat) : Prop := ∀ j, j < k → a.getD j 0 = b.getD j 0
theorem same_spec {a b : List UInt8} {A B : Option Addr} {n c m d : Nat} (ha : Bytes M A n c a) (hb : Bytes M B m d b) :
    Con Tryz.prog 23 #[.slice A n c, .slice B m d] G M L (fun v M' L' => M = M' ∧ L = L' ∧ v = .bool (decide (a = b))) noPanic := by
  have hla := ha.size
  have hlb := hb.size
  have hmx := ha.max
  have hmle := ha.le
  refine enter (args := [_, _]) (fn := Tryz.f23) ⟨Tryz.func23, rfl, by kernel_rfl, by kernel_rfl⟩ 26 rfl <| zr <| as0 rfl rfl <| zq <| zr2 <| mvS rfl rfl <| tl_y rfl (y_len rfl) <| mvS rfl rfl <| tl_y rfl (y_len rfl) <| tl_y rfl (y_neq rfl rfl) ?_
  refine zq <| .s4 0 1 4 10 rfl rfl rfl rfl <| x_cond rfl (fun hc1 => ?_) (fun hc1 => ?_)
  ·
    refine zr <| as0 rfl rfl <| zq <| x_ret (.then_ret (ret1 rfl rfl (Le.refl _) ⟨rfl, rfl, by rw [decide_eq_false]; rintro rfl; omega⟩))
  ·
    obtain rfl : n = m := by omega
    refine x_skip <| .then_normal <| zr2 <| as0 rfl rfl <| zq <| x_block ?_
    refine x_loop (I := fun m' F D M1 L1 => ∃ k : Nat, m' = n - k ∧ k ≤ n ∧ eqTo a b k ∧ D = [] ∧ M = M1 ∧ L = L1 ∧ F = [(0, .slice A n c), (1, .slice B n d), (4, .bool false), (5, .int .i64 k)]) (n) (F0 := [(0, _), (1, _), (4, _), (5, _)]) ?_ (.cons rfl (.cons rfl (.cons rfl (.cons rfl .nil)))) ?_  -- slots [0, 1, 4, 5], written [4, 5]
    · exact ⟨0, rfl, by omega, (fun j h => by omega), rfl, rfl, rfl, rfl⟩
    rintro m _ _ M1 L1 ⟨k, rfl, hk, heq, rfl, rfl, rfl, rfl⟩
    refine zr2 <| mvI rfl rfl <| mvS rfl rfl <| tl_y rfl (y_len rfl) <| tl_y rfl (y_lss rfl rfl) <| zq <| x_cond rfl (fun hc2 => ?_) (fun hc2 => ?_)
    ·
      have hkn : k < n := by omega
      obtain ⟨p, o, rfl, hca⟩ := ha.byte (by omega)
      obtain ⟨p', o', rfl, hcb⟩ := hb.byte (by omega)
      refine x_skip <| .then_normal <| .s4 0 1 4 5 rfl rfl rfl rfl <| x_seq <| x_block <| x_seq <| x_draw 9 hmix rfl <| zp 0 rfl rfl (y_move (v := .slice _ _ _) rfl) <| zp 1 rfl rfl (y_move (v := .int _ _) rfl) <| zp 2 rfl rfl (y_indexAddr rfl rfl (by omega)) <| zy 3 rfl rfl (y_load rfl rfl (.at_ (hca _ k hkn) (by omega))) ?_
      refine zp 4 rfl rfl (y_move (v := .slice _ _ _) rfl) <| zp 5 rfl rfl (y_move (v := .int _ _) rfl) <| zp 6 rfl rfl (y_indexAddr rfl rfl (by omega)) <| zy 7 rfl rfl (y_load rfl rfl (.at_ (hcb _ k hkn) (by omega))) <| zp 8 rfl rfl (y_neq rfl rfl) <| zz <| .then_normal <| .s5 0 1 4 5 25 rfl rfl rfl rfl rfl <| x_cond rfl (fun hc3 => ?_) (fun hc3 => ?_)
      ·
        refine zr <| as0 rfl rfl <| zq <| x_ret (.block_ret (.then_ret (.loop_ret (.block_ret (.then_ret (ret1 rfl rfl (Le.refl _) ⟨rfl, rfl, by rw [decide_eq_false]; rintro rfl; exact hc3 rfl⟩))))))
      ·
        refine x_skip <| .block_normal <| .then_normal <| x_region <| mvI rfl rfl <| tl_y rfl (y_addI rfl rfl (by omega)) <| asI rfl rfl <| tl_nil <| .loop_next (m' := n - (k + 1)) (by omega) (F' := [(0, _), (1, _), (4, _), (5, _)]) (.cons rfl (.cons rfl (.cons rfl (.cons rfl .nil)))) ?_
        exact ⟨k + 1, rfl, by omega, (fun j hj => by
          rcases Nat.lt_or_ge j k with hlt | hge
          · exact heq j hlt
          · obtain rfl : j = k := by omega
            exact UInt8.toNat_inj.1 (by omega)), rfl, rfl, rfl, rfl⟩
    ·
      refine x_exit <| .then_exit <| .loop_exit <| .block_exit <| .then_normal <| .s0 <| zr <| as0 rfl rfl <| zq <| x_ret (ret1 rfl rfl (Le.refl _) ⟨rfl, rfl, by
        rw [decide_eq_true]
        apply List.ext_getElem (by omega)
        intro i h1 h2
        have := heq i (by omega)
        simpa [List.getD_eq_getElem?_getD, h1, h2] using this⟩)
end
end Go.Proofs.YtiimjodbaogjbaaGreatDoor
set_option linter.unusedVariables false
set_option linter.unusedSimpArgs false
namespace Go.Proofs.YtiimjodbaogjbaaGreatDoor
open Go Go.Eng
section
variable {G : World} {M : Mem} {L : Own}
theorem RGet_spec {A : Option Addr} {n c : Nat} {bs : List UInt8} (h : Bytes M A n c bs) (hn : n ≤ 8) :
    Con Tryz.prog 44 #[.slice A n c] G M L (fun r M' L' => M = M' ∧ L = L' ∧ ∃ x : UInt64, x.toNat = getB bs ∧ r = .tuple #[.int .u64 (x.toNat : Int), .bool true]) noPanic := by
  have hs := h.size
  refine enter (args := [_]) (fn := Tryz.f44) ⟨Tryz.func44, rfl, by kernel_rfl, by kernel_rfl⟩ 24 rfl <| zr <| as0 rfl rfl <| as0 rfl rfl <| zq <| zr2 <| mvS rfl rfl <| tl_y rfl (y_len rfl) <| tl_y rfl (y_gtr rfl rfl) <| zq ?_
  refine .s2 0 8 rfl rfl <| x_false rfl (by rw [decide_eq_false]; omega) <| x_skip <| .then_normal <| zr <| as0 rfl rfl <| zq <| zr2 <| as0 rfl rfl <| zq <| x_block ?_
  refine x_loop (I := fun m' F D M1 L1 => ∃ (k : Nat) (x : UInt64), m' = n - k ∧ k ≤ n ∧ x.toNat = getB (bs.take k) ∧ D = [] ∧ M = M1 ∧ L = L1 ∧ F = [(0, .slice A n c), (4, .int .u64 (x.toNat : Int)), (5, .int .i64 k)]) (n) (F0 := [(0, _), (4, _), (5, _)]) ?_ (.cons rfl (.cons rfl (.cons rfl .nil))) ?_  -- slots [0, 4, 5], written [4, 5]
  · exact ⟨0, 0, rfl, by omega, rfl, rfl, rfl, rfl, rfl⟩
  rintro m _ _ M1 L1 ⟨k, x, rfl, hk, hx, rfl, rfl, rfl, rfl⟩
  refine zr2 <| mvI rfl rfl <| mvS rfl rfl <| tl_y rfl (y_len rfl) <| tl_y rfl (y_lss rfl rfl) <| zq <| x_cond rfl (fun hc2 => ?_) (fun hc2 => ?_)
  ·
    have hkn : k < n := by omega
    obtain ⟨g, o, rfl, hca⟩ := h.byte (by omega)
    have hlt : x.toNat < 72057594037927936 := by
      have h1 := getB_lt (bs.take k)
      have h2 : (bs.take k).length = k := by rw [List.length_take]; omega
      have h3 : 256 ^ k ≤ 256 ^ 7 := Nat.pow_le_pow_right (by omega) (by omega)
      rw [h2] at h1
      omega
    refine x_skip <| .then_normal <| .s3 0 4 5 rfl rfl rfl <| x_seq <| x_block <| x_region <| mvI rfl rfl <| tl_y rfl (y_mul64 (b := 256) rfl rfl) <| mvS rfl rfl <| mvI rfl rfl <| tl_y rfl (y_indexAddr rfl rfl (by omega)) ?_
    refine tl_y rfl (y_load rfl rfl (.at_ (hca _ k hkn) (by omega))) <| tl_y rfl (y_u8u64 rfl) <| tl_y rfl (y_add64 rfl rfl) <| asI rfl rfl <| tl_nil <| .block_normal <| .then_normal <| .s3 0 4 5 rfl rfl rfl <| x_region <| mvI rfl rfl <| tl_y rfl (y_addI rfl rfl (by omega)) <| asI rfl rfl ?_
    refine tl_nil <| .loop_next (m' := n - (k + 1)) (by omega) (F' := [(0, _), (4, _), (5, _)]) (.cons rfl (.cons rfl (.cons rfl .nil))) ?_
    exact ⟨k + 1, _, rfl, by omega, by
      have hc := (bs.getD k 0).toNat_lt
      rw [UInt64.toNat_add, UInt64.toNat_mul, UInt8.toNat_toUInt64, show (256 : UInt64).toNat = 256 from rfl, take_snoc bs k 0 (by omega), getB_snoc, hx]
      rw [hx] at hlt
      omega, rfl, rfl, rfl, rfl⟩
  ·
    refine x_exit <| .then_exit <| .loop_exit <| .block_exit <| .then_normal <| .s1 4 rfl <| zr <| mvI rfl rfl <| asI rfl rfl <| as0 rfl rfl <| zq <| x_ret (ret2 rfl rfl rfl (Le.refl _) ⟨rfl, rfl, x, by rw [hx, List.take_of_length_le (by omega)], rfl⟩)
end
end Go.Proofs.YtiimjodbaogjbaaGreatDoor
set_option linter.unusedVariables false
set_option linter.unusedSimpArgs false
set_option linter.constructorNameAsVariable false
namespace Go.Proofs.YtiimjodbaogjbaaGreatDoor
open Go Go.Eng
theorem putB_cons : ∀ (k v : Nat), putB v (k + 1) = UInt8.ofNat (v / 256 ^ k % 256) :: putB v k
 | 0, v => by simp [putB]
 | k + 1, v => by
  rw [putB, putB_cons k (v / 256), putB, Nat.div_div_eq_div_mul, Nat.pow_succ, Nat.mul_comm 256]
  rfl
section
variable {G : World} {M : Mem} {L R : Own}
theorem RPut_spec (v : UInt64) (n : Nat) (hn : n ≤ 8) :
    Con Tryz.prog 19 #[.int .u64 (v.toNat : Int), .int .i64 (n : Int)] G M L (fun r M' L' => L = L' ∧ ∃ A c, r = .slice A n c ∧ Bytes M' A n c (putB v.toNat n)) noPanic := by
  have hv := v.toNat_lt
  refine enter (args := [_, _]) (fn := Tryz.f19) ⟨Tryz.func19, rfl, by kernel_rfl, by kernel_rfl⟩ 28 rfl <| zr <| as0 rfl rfl <| zq <| zr2 <| mvI rfl rfl <| tl_y rfl (y_lss rfl rfl) <| mvB rfl rfl <| tl_set (s := 9) (u := .bool false) rfl (by rw [decide_eq_false]; omega) <| mvI rfl rfl ?_
  refine tl_y rfl (y_gtr rfl rfl) <| tl_y rfl (y_pickF rfl rfl) <| zq <| .s3 0 1 12 rfl rfl rfl <| x_false rfl (by rw [decide_eq_false]; omega) <| x_skip <| .then_normal <| zr <| tl_e rfl <| e_buildSlice0 <| fun b1 => asS rfl rfl <| zq ?_
  refine zr2 <| as0 rfl rfl <| zq <| x_block ?_
  refine x_loop (I := fun m' F D M1 L1 => ∃ (k q : Nat) (A : Option Addr) (c : Nat) (E : Own), m' = n - k ∧ k ≤ n ∧ q = v.toNat / 256 ^ k ∧ q ≤ v.toNat ∧ OwnRow 5 1 A k c ((putB v.toNat k).map bv) E ∧ D = [] ∧ M = M1 ∧ L1 = E ++ L ∧ F = [(0, .int .u64 (q : Int)), (1, .int .i64 n), (5, .slice A k c), (6, .int .i64 k)]) (n) (F0 := [(0, _), (1, _), (5, _), (6, _)]) ?_ (.cons rfl (.cons rfl (.cons rfl (.cons rfl .nil)))) ?_  -- slots [0, 1, 5, 6], written [0, 5, 6]
  · exact ⟨0, v.toNat, _, _, _, rfl, by omega, by rw [Nat.pow_zero, Nat.div_one], Nat.le_refl _, OwnRow.made00, rfl, rfl, rfl, rfl⟩
  rintro m _ _ M1 L1 ⟨k, q, A, c, E, rfl, hk, hq, hqv, hE, rfl, rfl, rfl, rfl⟩
  refine zr2 <| mvI rfl rfl <| mvI rfl rfl <| tl_y rfl (y_lss rfl rfl) <| zq <| x_cond rfl (fun hc2 => ?_) (fun hc2 => ?_)
  ·
    have hkn : k < n := by omega
    have hq2 : q / 256 = v.toNat / 256 ^ (k + 1) := by rw [hq, Nat.div_div_eq_div_mul, Nat.pow_succ]
    refine x_skip <| .then_normal <| x_seq <| x_block <| zr <| mvI rfl rfl <| tl_y rfl (y_remI rfl rfl (by omega)) <| tl_y rfl (y_convN8 rfl (by omega)) ?_
    rw [show (q : Int) % 256 = (((UInt8.ofNat (q % 256)).toNat : Nat) : Int) by rw [UInt8.toNat_ofNat']; omega]
    refine tl_e rfl <| e_buildSlice rfl (by decide) <| fun b2 => mvS rfl rfl <| tl_e rfl <| e_append1 (by decide) rfl rfl (OwnRow.made (n := 1) rfl (by omega)) (src_in (hE.in_ inferInstance (by omega))) (all_one_bv _) (by omega) (by omega) <| fun A2 c2 E2 hE2 => ?_
    rw [show 1 + k = k + 1 by omega] at hE2 ⊢
    refine .dropTo (E2 ++ L) inferInstance <| asS rfl rfl <| zq <| .s4 0 1 5 6 rfl rfl rfl rfl <| x_region <| mvI rfl rfl <| tl_y rfl (y_quoN64 rfl rfl (by omega)) <| asI rfl rfl <| tl_nil <| .block_normal <| .then_normal <| x_region ?_
    refine mvI rfl rfl <| tl_y rfl (y_addI rfl rfl (by omega)) <| asI rfl rfl <| tl_nil <| .loop_next (m' := n - (k + 1)) (by omega) (F' := [(0, _), (1, _), (5, _), (6, _)]) (.cons rfl (.cons rfl (.cons rfl (.cons rfl .nil)))) ?_
    exact ⟨k + 1, q / 256, A2, c2, E2, rfl, by omega, hq2, by omega, by rw [putB_cons, ← hq]; exact hE2, rfl, rfl, rfl, rfl⟩
  ·
    refine x_exit <| .then_exit <| .loop_exit <| .block_exit <| .then_normal <| .s1 5 rfl <| zr <| mvS rfl rfl <| asS rfl rfl <| zq ?_
    obtain rfl : k = n := by omega
    refine x_ret (.pubRow hE fun M' hle hr => ret1 rfl rfl hle ⟨rfl, _, _, rfl, hr⟩)
theorem RCat_own {A : Option Addr} {n c : Nat} {vs : List Value} {bss : List (List UInt8)} (h : Row M 1 A n c vs) (hb : BRows M vs bss) (hn : bss.flatten.length ≤ 1099511627776) :
    Con Tryz.prog 89 #[.slice A n c] G M L (fun v M' L' => M = M' ∧ ∃ A' c' E, v = .slice A' bss.flatten.length c' ∧ OwnRow 5 1 A' bss.flatten.length c' (bss.flatten.map bv) E ∧ L' = E ++ L) noPanic := by
  have hvl := hb.len
  have hnl : vs.length = n := by have := h.len; omega
  have hmx := h.max
  have hle := h.le
  refine enter (args := [_]) (fn := Tryz.f89) ⟨Tryz.func89, rfl, by kernel_rfl, by kernel_rfl⟩ 18 rfl <| zr <| as0 rfl rfl <| zq <| zr <| as0 rfl rfl <| zq <| zr2 <| as0 rfl rfl <| zq ?_
  refine x_block ?_
  refine x_loop (I := fun m' F D M1 L1 => ∃ (k : Nat) (A1 : Option Addr) (c1 : Nat) (E : Own), m' = n - k ∧ k ≤ n ∧ OwnRow 5 1 A1 (bss.take k).flatten.length c1 ((bss.take k).flatten.map bv) E ∧ D = [] ∧ M = M1 ∧ L1 = E ++ L ∧ F = [(0, .slice A n c), (3, .slice A1 (bss.take k).flatten.length c1), (4, .int .i64 k)]) (n) (F0 := [(0, _), (3, _), (4, _)]) ?_ (.cons rfl (.cons rfl (.cons rfl .nil))) ?_  -- slots [0, 3, 4], written [3, 4]
  · exact ⟨0, none, 0, [], rfl, by omega, .nil, rfl, rfl, rfl, rfl⟩
  rintro m _ _ M1 L1 ⟨k, A1, c1, E, rfl, hk, hE, rfl, rfl, rfl, rfl⟩
  refine zr2 <| mvI rfl rfl <| mvS rfl rfl <| tl_y rfl (y_len rfl) <| tl_y rfl (y_lss rfl rfl) <| zq <| x_cond rfl (fun hc1 => ?_) (fun hc1 => ?_)
  ·
    have hkn : k < n := by omega
    obtain ⟨g, o, rfl, hcell⟩ := h.addr (by omega)
    obtain ⟨A2, n2, c2, hv2, hb2⟩ := hb.get k (by omega)
    have hn2 := hb2.size
    have hf1 := flatten_take_le bss (k + 1)
    have hf2 : (bss.take (k + 1)).flatten = (bss.take k).flatten ++ bss.getD k [] := by
      rw [take_snoc bss k [] (by omega), List.flatten_append, List.flatten_singleton]
    have hf3 : (bss.take (k + 1)).flatten.length = (bss.take k).flatten.length + n2 := by rw [hf2, List.length_append, hn2]
    refine x_skip <| .then_normal <| .s3 0 3 4 rfl rfl rfl <| x_seq <| x_block <| x_region <| mvS rfl rfl <| mvS rfl rfl <| mvI rfl rfl <| tl_y rfl (y_indexAddr rfl rfl (by omega)) <| tl_y rfl (y_load rfl rfl (.at_ (hcell _ k _ hv2) (by omega))) ?_
    refine tl_e rfl <| e_append (by decide) rfl rfl hE (.row hb2) (all_one_bv _) (by omega) (by omega) <| fun A3 c3 E3 hE3 => ?_
    rw [← hf3, ← List.map_append, ← hf2] at hE3; rw [← hf3]
    refine asS rfl rfl <| tl_nil <| .block_normal <| .then_normal <| .s3 0 3 4 rfl rfl rfl <| x_region <| mvI rfl rfl <| tl_y rfl (y_addI rfl rfl (by omega)) <| asI rfl rfl <| tl_nil <| .loop_next (m' := n - (k + 1)) (by omega) (F' := [(0, _), (3, _), (4, _)]) (.cons rfl (.cons rfl (.cons rfl .nil))) ?_
    exact ⟨k + 1, A3, c3, E3, rfl, by omega, hE3, rfl, rfl, rfl, rfl⟩
  ·
    refine x_exit <| .then_exit <| .loop_exit <| .block_exit <| .then_normal <| .s1 3 rfl <| zr <| mvS rfl rfl <| asS rfl rfl <| zq <| x_ret (ret1 rfl rfl (Le.refl _) (by
      obtain rfl : k = bss.length := by omega
      rw [List.take_length] at hE ⊢
      exact ⟨rfl, A1, c1, E, rfl, hE, rfl⟩))
end
end Go.Proofs.YtiimjodbaogjbaaGreatDoor
set_option linter.unusedVariables false
set_option linter.unusedSimpArgs false
set_option linter.constructorNameAsVariable false
namespace Go.Proofs.YtiimjodbaogjbaaGreatDoor
open Go Go.Eng
section
variable {G : World} {M : Mem} {L R : Own}
theorem rrot_spec (x : UInt32) (n : Nat) (hn : 0 < n ∧ n < 32) :
  Con Tryz.prog 230 #[.int .u32 (x.toNat : Int), .int .u32 (n : Int)] G M L (fun r M' L' => M = M' ∧ L = L' ∧ r = .int .u32 ((rotr x n).toNat : Int)) noPanic := by
 refine enter (args := [_, _]) (fn := Tryz.f230) ⟨Tryz.func230, rfl, by kernel_rfl, by kernel_rfl⟩ 13 rfl <| zr <| as0 rfl rfl <| zq <| zr <| mvI rfl rfl <| mvI rfl rfl <| tl_y rfl (y_shr32 (s := n) rfl rfl) <| mvI rfl rfl <| mvI rfl rfl ?_
 refine tl_y rfl (y_subN32 rfl rfl (by omega)) ?_
 rw [show (32 - (n : Int)) = ((32 - n : Nat) : Int) by omega]
 refine tl_y rfl (y_shl32 (s := 32 - n) rfl rfl) <| tl_y rfl (y_or32 rfl rfl) <| asI rfl rfl <| zq <| .s1 4 rfl <| x_ret (ret1 rfl rfl (Le.refl _) ⟨rfl, rfl, by rw [rotr, UInt32.or_comm]⟩)
theorem rconst_spec :
  Con Tryz.prog 229 #[] G M L (fun r M' L' => M = M' ∧ L = L' ∧ r = .agg (kT.map u32v).toArray) noPanic := by
 refine enter (args := []) (fn := Tryz.f229) ⟨Tryz.func229, rfl, by kernel_rfl, by kernel_rfl⟩ 2 rfl <| zr <| tl_e rfl <| e_alloc <| fun b1 => zq <| zr <| tl_y rfl (y_buildArr (cells := kT.map u32v) (hf := ⟨by kernel_rfl⟩) rfl) <| tl_e rfl <| e_store rfl rfl (by rfl) (u32_one _) inferInstance (.whole (by rfl)) inferInstance <| zq <| x_ret (retRV (L' := L) (rv1 rfl (rc_cellAgg (by rfl) rfl (.whole inferInstance (by rfl)))) inferInstance (Le.refl _) ⟨rfl, rfl, rfl⟩)
theorem wd_eq (bs : List UInt8) (k : Nat) (h : 4 * k + 4 ≤ bs.length) :
    shl32 (bs.getD (4 * k) 0).toUInt32 24 + shl32 (bs.getD (4 * k + 1) 0).toUInt32 16 + shl32 (bs.getD (4 * k + 2) 0).toUInt32 8 + (bs.getD (4 * k + 3) 0).toUInt32 = wd bs k := by
  have e : (bs.drop (4 * k)).take 4 = [bs.getD (4 * k) 0, bs.getD (4 * k + 1) 0, bs.getD (4 * k + 2) 0, bs.getD (4 * k + 3) 0] := by
    have hg : ∀ i, i < bs.length → bs[i]? = some (bs.getD i 0) := fun i hi => by rw [List.getD_eq_getElem?_getD, List.getElem?_eq_getElem hi]; rfl
    apply List.ext_getElem?
    intro i
    rw [List.getElem?_take]
    by_cases hi : i < 4
    · rw [if_pos hi, List.getElem?_drop, hg _ (by omega)]
      rcases (by omega : i = 0 ∨ i = 1 ∨ i = 2 ∨ i = 3) with rfl | rfl | rfl | rfl <;> rfl
    · rw [if_neg hi, List.getElem?_eq_none (by simp; omega)]
  have h0 := (bs.getD (4 * k) 0).toNat_lt
  have h1 := (bs.getD (4 * k + 1) 0).toNat_lt
  have h2 := (bs.getD (4 * k + 2) 0).toNat_lt
  have h3 := (bs.getD (4 * k + 3) 0).toNat_lt
  rw [wd, e]
  generalize bs.getD (4 * k) 0 = a at *
  generalize bs.getD (4 * k + 1) 0 = b at *
  generalize bs.getD (4 * k + 2) 0 = c at *
  generalize bs.getD (4 * k + 3) 0 = d at *
  apply UInt32.toNat_inj.1
  simp only [UInt32.toNat_add, shl32, UInt32.toNat_ofNat', UInt8.toNat_toUInt32, getB, List.foldl_cons, List.foldl_nil]
  omega
theorem xor_max (x : UInt32) : x ^^^ 4294967295 = ~~~x := by
 apply UInt32.toBitVec_inj.1
 simp only [UInt32.toBitVec_xor, UInt32.toBitVec_not]
 rw [show (4294967295 : UInt32).toBitVec = BitVec.allOnes 32 by decide, BitVec.xor_allOnes]
theorem plus_eq (r s : H8) : (Value.agg (List.toArray [u32v (s.a + r.a), u32v (s.b + r.b), u32v (s.c + r.c), u32v (s.d + r.d), u32v (s.e + r.e), u32v (s.f + r.f), u32v (s.g + r.g), u32v (s.h + r.h)])) = .agg (List.toArray (plusH r s).vals) := by
 simp only [H8.vals, plusH, UInt32.add_comm]
theorem nextW_eq (w : List UInt32) (t : Nat) : sS1 (w.getD (t - 2) 0) + w.getD (t - 7) 0 + sS0 (w.getD (t - 15) 0) + w.getD (t - 16) 0 = nextW w t := by
 rw [nextW]; ac_rfl
theorem RTurn_spec (st : H8) {A : Option Addr} {n c : Nat} {bs : List UInt8} (hb : Bytes M A n c bs) (hl : n = 64) :
    Con Tryz.prog 212 #[.agg (List.toArray st.vals), .slice A n c] G M L (fun r M' L' => M = M' ∧ L = L' ∧ r = .agg (List.toArray (turn st bs).vals)) noPanic := by
  have hbl := hb.size
  obtain ⟨g, o, hAe, hby⟩ := hb.byte (by omega)
  refine enter (args := [_, _]) (fn := Tryz.f212) ⟨Tryz.func212, rfl, by kernel_rfl, by kernel_rfl⟩ 227 rfl <| zr <| tl_e rfl <| e_box rfl <| fun b1 => tl_e rfl <| e_alloc <| fun b2 => zq <| zr <| tl_e rfl <| e_call' rfl rconst_spec ?_
  rintro _ _ _ _ ⟨rfl, rfl, rfl⟩
  refine tl_e rfl <| e_alloc <| fun b3 => tl_e rfl <| e_store rfl rfl (by rfl) (u32_one _) inferInstance (.whole (by rfl)) inferInstance <| zq <| zr <| tl_e rfl <| e_alloc <| fun b4 => zq <| zr2 <| as0 rfl rfl <| zq <| x_block ?_
  refine x_loop (I := fun m' F D M1 L1 => ∃ (k : Nat), m' = 16 - k ∧ k ≤ 16 ∧ D = [] ∧ M = M1 ∧ L1 = (b4, .cells (schCells bs k).toArray 244 (0, 0)) :: (b3, .cells (kT.map u32v).toArray 244 (0, 0)) :: (b2, .cells (List.toArray [u32v 0, u32v 0, u32v 0, u32v 0, u32v 0, u32v 0, u32v 0, u32v 0]) 230 (0, 0)) :: (b1, .cells (List.toArray st.vals) 230 (0, 0)) :: L ∧ F = [(1, .slice A n c), (2, .pointer (some ⟨b1, 0, none⟩)), (4, .pointer (some ⟨b2, 0, none⟩)), (5, .pointer (some ⟨b3, 0, none⟩)), (6, .pointer (some ⟨b4, 0, none⟩)), (7, .int .i64 k)]) (16) (F0 := [(1, _), (2, _), (4, _), (5, _), (6, _), (7, _)]) ?_ (.cons rfl (.cons rfl (.cons rfl (.cons rfl (.cons rfl (.cons rfl .nil)))))) ?_  -- slots [1, 2, 4, 5, 6, 7], written [7]
  · exact ⟨0, rfl, by omega, rfl, rfl, rfl, rfl⟩
  rintro m _ _ M1 L1 ⟨k, rfl, hk, rfl, rfl, rfl, rfl⟩
  refine zr2 <| mvI rfl rfl <| tl_y rfl (y_lss rfl rfl) <| zq <| x_cond rfl (fun hc1 => ?_) (fun hc1 => ?_)
  ·
    refine x_skip <| .then_normal <| x_seq <| x_block <| x_draw 35 hmix rfl <| zp 0 rfl rfl (y_move (v := .int _ _) rfl) <| zp 1 rfl rfl (y_move (v := .slice _ _ _) rfl) <| zp 2 rfl rfl (y_move (v := .int _ _) rfl) <| zp 3 rfl rfl (y_mulI rfl rfl (by omega)) <| zp 4 rfl rfl (y_indexAddr (b := g) (o := o) (by rw [hAe]; rfl) rfl (by omega)) <| zy 5 rfl rfl (y_load rfl rfl (.at_ (hby _ (4 * k + 0) (by omega)) (by omega))) ?_
    refine zp 6 rfl rfl (y_u8u32 rfl) <| zp 7 rfl rfl (y_shl32 (s := 24) rfl rfl) <| zp 8 rfl rfl (y_move (v := .slice _ _ _) rfl) <| zp 9 rfl rfl (y_move (v := .int _ _) rfl) <| zp 10 rfl rfl (y_mulI rfl rfl (by omega)) <| zp 11 rfl rfl (y_addI rfl rfl (by omega)) <| zp 12 rfl rfl (y_indexAddr (b := g) (o := o) (by rw [hAe]; rfl) rfl (by omega)) <| zy 13 rfl rfl (y_load rfl rfl (.at_ (hby _ (4 * k + 1) (by omega)) (by omega))) ?_
    refine zp 14 rfl rfl (y_u8u32 rfl) <| zp 15 rfl rfl (y_shl32 (s := 16) rfl rfl) <| zp 16 rfl rfl (y_add32 rfl rfl) <| zp 17 rfl rfl (y_move (v := .slice _ _ _) rfl) <| zp 18 rfl rfl (y_move (v := .int _ _) rfl) <| zp 19 rfl rfl (y_mulI rfl rfl (by omega)) <| zp 20 rfl rfl (y_addI rfl rfl (by omega)) <| zp 21 rfl rfl (y_indexAddr (b := g) (o := o) (by rw [hAe]; rfl) rfl (by omega)) <| zy 22 rfl rfl (y_load rfl rfl (.at_ (hby _ (4 * k + 2) (by omega)) (by omega))) ?_
    refine zp 23 rfl rfl (y_u8u32 rfl) <| zp 24 rfl rfl (y_shl32 (s := 8) rfl rfl) <| zp 25 rfl rfl (y_add32 rfl rfl) <| zp 26 rfl rfl (y_move (v := .slice _ _ _) rfl) <| zp 27 rfl rfl (y_move (v := .int _ _) rfl) <| zp 28 rfl rfl (y_mulI rfl rfl (by omega)) <| zp 29 rfl rfl (y_addI rfl rfl (by omega)) <| zp 30 rfl rfl (y_indexAddr (b := g) (o := o) (by rw [hAe]; rfl) rfl (by omega)) <| zy 31 rfl rfl (y_load rfl rfl (.at_ (hby _ (4 * k + 3) (by omega)) (by omega))) ?_
    refine zp 32 rfl rfl (y_u8u32 rfl) <| zp 33 rfl rfl (y_add32 rfl rfl) <| zp 34 rfl rfl (y_indexArr rfl rfl (by omega)) <| zt 35 rfl rfl <| e_storeAt (c := schCells bs k) rfl rfl rfl inferInstance (by rw [sch_len _ _ (by omega)]; omega) inferInstance ?_
    rw [show 0 + ((k : Int)).toNat * 1 = k by omega, sch_set bs k _ (by omega) (by rw [if_pos (by omega)]; exact wd_eq bs k (by omega))]
    refine zz <| .block_normal <| .then_normal <| .s6 1 2 4 5 6 7 rfl rfl rfl rfl rfl rfl <| x_region <| mvI rfl rfl <| tl_y rfl (y_addI rfl rfl (by omega)) <| asI rfl rfl <| tl_nil <| .loop_next (m' := 16 - (k + 1)) (by omega) (F' := [(1, _), (2, _), (4, _), (5, _), (6, _), (7, _)]) (.cons rfl (.cons rfl (.cons rfl (.cons rfl (.cons rfl (.cons rfl .nil)))))) ?_
    exact ⟨k + 1, rfl, by omega, rfl, rfl, rfl, rfl⟩
  ·
    obtain rfl : k = 16 := by omega
    refine x_exit <| .then_exit <| .loop_exit <| .block_exit <| .then_normal <| .s4 2 4 5 6 rfl rfl rfl rfl <| zr2 <| as0 rfl rfl <| zq <| x_block ?_
    refine x_loop (I := fun m' F D M1 L1 => ∃ (k : Nat), m' = 64 - k ∧ 16 ≤ k ∧ k ≤ 64 ∧ D = [] ∧ M = M1 ∧ L1 = (b4, .cells (schCells bs k).toArray 244 (0, 0)) :: (b3, .cells (kT.map u32v).toArray 244 (0, 0)) :: (b2, .cells (List.toArray [u32v 0, u32v 0, u32v 0, u32v 0, u32v 0, u32v 0, u32v 0, u32v 0]) 230 (0, 0)) :: (b1, .cells (List.toArray st.vals) 230 (0, 0)) :: L ∧ F = [(2, .pointer (some ⟨b1, 0, none⟩)), (4, .pointer (some ⟨b2, 0, none⟩)), (5, .pointer (some ⟨b3, 0, none⟩)), (6, .pointer (some ⟨b4, 0, none⟩)), (8, .int .i64 k)]) (48) (F0 := [(2, _), (4, _), (5, _), (6, _), (8, _)]) ?_ (.cons rfl (.cons rfl (.cons rfl (.cons rfl (.cons rfl .nil))))) ?_  -- slots [2, 4, 5, 6, 8], written [8]
    · exact ⟨16, rfl, by omega, by omega, rfl, rfl, rfl, rfl⟩
    rintro m _ _ M1 L1 ⟨k, rfl, hk16, hk, rfl, rfl, rfl, rfl⟩
    refine zr2 <| mvI rfl rfl <| tl_y rfl (y_lss rfl rfl) <| zq <| x_cond rfl (fun hc2 => ?_) (fun hc2 => ?_)
    ·
      refine x_skip <| .then_normal <| x_seq <| x_block <| x_seq <| x_draw 18 hmix rfl <| zp 0 rfl rfl (y_move (v := .int _ _) rfl) <| zp 1 rfl rfl (y_subI rfl rfl (by omega)) <| zp 2 rfl rfl (y_indexArr rfl rfl (by omega)) <| zy 3 rfl rfl (y_load rfl rfl (.at_ (.ownAt (i := k - 15) (c := schCells bs k) inferInstance (sch_get bs k (k - 15) (by omega))) (by omega))) <| zp 5 rfl rfl (y_move (v := .int _ _) rfl) ?_
      refine zp 6 rfl rfl (y_subI rfl rfl (by omega)) <| zp 7 rfl rfl (y_indexArr rfl rfl (by omega)) <| zy 8 rfl rfl (y_load rfl rfl (.at_ (.ownAt (i := k - 15) (c := schCells bs k) inferInstance (sch_get bs k (k - 15) (by omega))) (by omega))) <| zp 11 rfl rfl (y_move (v := .int _ _) rfl) <| zp 12 rfl rfl (y_subI rfl rfl (by omega)) <| zp 13 rfl rfl (y_indexArr rfl rfl (by omega)) <| zy 14 rfl rfl (y_load rfl rfl (.at_ (.ownAt (i := k - 15) (c := schCells bs k) inferInstance (sch_get bs k (k - 15) (by omega))) (by omega))) ?_
      refine zp 15 rfl rfl (y_shr32 (s := 3) rfl rfl) <| ze 4 rfl rfl <| e_call' rfl (rrot_spec _ 7 (by omega)) ?_
      rintro _ _ _ _ ⟨rfl, rfl, rfl⟩
      refine ⟨⟨(by first | exact Le.refl _ | assumption), Keeps.mem⟩, ?_⟩
      refine ze 9 rfl rfl <| e_call' rfl (rrot_spec _ 18 (by omega)) ?_
      rintro _ _ _ _ ⟨rfl, rfl, rfl⟩
      refine ⟨⟨(by first | exact Le.refl _ | assumption), Keeps.mem⟩, ?_⟩
      refine zp 10 rfl rfl (y_xor32 rfl rfl) <| zp 16 rfl rfl (y_xor32 rfl rfl) <| zp 17 rfl rfl (y_assign (v := .int _ _) rfl) <| zz <| .then_normal <| .s6 2 4 5 6 8 9 rfl rfl rfl rfl rfl rfl <| x_seq <| x_draw 18 hmix rfl <| zp 0 rfl rfl (y_move (v := .int _ _) rfl) <| zp 1 rfl rfl (y_subI rfl rfl (by omega)) <| zp 2 rfl rfl (y_indexArr rfl rfl (by omega)) ?_
      refine zy 3 rfl rfl (y_load rfl rfl (.at_ (.ownAt (i := k - 2) (c := schCells bs k) inferInstance (sch_get bs k (k - 2) (by omega))) (by omega))) <| zp 5 rfl rfl (y_move (v := .int _ _) rfl) <| zp 6 rfl rfl (y_subI rfl rfl (by omega)) <| zp 7 rfl rfl (y_indexArr rfl rfl (by omega)) <| zy 8 rfl rfl (y_load rfl rfl (.at_ (.ownAt (i := k - 2) (c := schCells bs k) inferInstance (sch_get bs k (k - 2) (by omega))) (by omega))) <| zp 11 rfl rfl (y_move (v := .int _ _) rfl) ?_
      refine zp 12 rfl rfl (y_subI rfl rfl (by omega)) <| zp 13 rfl rfl (y_indexArr rfl rfl (by omega)) <| zy 14 rfl rfl (y_load rfl rfl (.at_ (.ownAt (i := k - 2) (c := schCells bs k) inferInstance (sch_get bs k (k - 2) (by omega))) (by omega))) <| zp 15 rfl rfl (y_shr32 (s := 10) rfl rfl) <| ze 4 rfl rfl <| e_call' rfl (rrot_spec _ 17 (by omega)) ?_
      rintro _ _ _ _ ⟨rfl, rfl, rfl⟩
      refine ⟨⟨(by first | exact Le.refl _ | assumption), Keeps.mem⟩, ?_⟩
      refine ze 9 rfl rfl <| e_call' rfl (rrot_spec _ 19 (by omega)) ?_
      rintro _ _ _ _ ⟨rfl, rfl, rfl⟩
      refine ⟨⟨(by first | exact Le.refl _ | assumption), Keeps.mem⟩, ?_⟩
      refine zp 10 rfl rfl (y_xor32 rfl rfl) <| zp 16 rfl rfl (y_xor32 rfl rfl) <| zp 17 rfl rfl (y_assign (v := .int _ _) rfl) <| zz <| .then_normal <| .s7 2 4 5 6 8 9 10 rfl rfl rfl rfl rfl rfl rfl <| x_draw 15 hmix rfl <| zp 0 rfl rfl (y_move (v := .int _ _) rfl) <| zp 1 rfl rfl (y_move (v := .int _ _) rfl) <| zp 2 rfl rfl (y_move (v := .int _ _) rfl) <| zp 3 rfl rfl (y_subI rfl rfl (by omega)) ?_
      refine zp 4 rfl rfl (y_indexArr rfl rfl (by omega)) <| zy 5 rfl rfl (y_load rfl rfl (.at_ (.ownAt (i := k - 7) (c := schCells bs k) inferInstance (sch_get bs k (k - 7) (by omega))) (by omega))) <| zp 6 rfl rfl (y_add32 rfl rfl) <| zp 7 rfl rfl (y_move (v := .int _ _) rfl) <| zp 8 rfl rfl (y_add32 rfl rfl) <| zp 9 rfl rfl (y_move (v := .int _ _) rfl) <| zp 10 rfl rfl (y_subI rfl rfl (by omega)) <| zp 11 rfl rfl (y_indexArr rfl rfl (by omega)) ?_
      refine zy 12 rfl rfl (y_load rfl rfl (.at_ (.ownAt (i := k - 16) (c := schCells bs k) inferInstance (sch_get bs k (k - 16) (by omega))) (by omega))) <| zp 13 rfl rfl (y_add32 rfl rfl) <| zp 14 rfl rfl (y_indexArr rfl rfl (by omega)) <| zt 15 rfl rfl <| e_storeAt (c := schCells bs k) rfl rfl rfl inferInstance (by rw [sch_len _ _ (by omega)]; omega) inferInstance ?_
      rw [show 0 + ((k : Int)).toNat * 1 = k by omega, sch_set bs k _ (by omega) (by rw [if_neg (by omega)]; exact nextW_eq _ _)]
      refine zz <| .block_normal <| .then_normal <| .s5 2 4 5 6 8 rfl rfl rfl rfl rfl <| x_region <| mvI rfl rfl <| tl_y rfl (y_addI rfl rfl (by omega)) <| asI rfl rfl <| tl_nil <| .loop_next (m' := 64 - (k + 1)) (by omega) (F' := [(2, _), (4, _), (5, _), (6, _), (8, _)]) (.cons rfl (.cons rfl (.cons rfl (.cons rfl (.cons rfl .nil))))) ?_
      exact ⟨k + 1, rfl, by omega, by omega, rfl, rfl, rfl, rfl⟩
    ·
      obtain rfl : k = 64 := by omega
      rw [show schCells bs 64 = (schd bs 64).map u32v by simp [schCells]]
      refine x_exit <| .then_exit <| .loop_exit <| .block_exit <| .then_normal <| x_seq <| x_draw 12 hmix rfl <| zp 0 rfl rfl (y_indexArrK 0 rfl rfl (by omega)) <| zy 1 rfl rfl (y_ld rfl rfl) <| zp 2 rfl rfl (y_indexArrK 1 rfl rfl (by omega)) <| zy 3 rfl rfl (y_ld rfl rfl) <| zp 4 rfl rfl (y_indexArrK 2 rfl rfl (by omega)) <| zy 5 rfl rfl (y_ld rfl rfl) <| zp 6 rfl rfl (y_indexArrK 3 rfl rfl (by omega)) ?_
      refine zy 7 rfl rfl (y_ld rfl rfl) <| zp 8 rfl rfl (y_assign (v := .int _ _) rfl) <| zp 9 rfl rfl (y_assign (v := .int _ _) rfl) <| zp 10 rfl rfl (y_assign (v := .int _ _) rfl) <| zp 11 rfl rfl (y_assign (v := .int _ _) rfl) <| zz <| .then_normal <| .s8 2 4 5 6 11 12 13 14 rfl rfl rfl rfl rfl rfl rfl rfl <| x_seq <| x_draw 12 hmix rfl <| zp 0 rfl rfl (y_indexArrK 4 rfl rfl (by omega)) ?_
      refine zy 1 rfl rfl (y_ld rfl rfl) <| zp 2 rfl rfl (y_indexArrK 5 rfl rfl (by omega)) <| zy 3 rfl rfl (y_ld rfl rfl) <| zp 4 rfl rfl (y_indexArrK 6 rfl rfl (by omega)) <| zy 5 rfl rfl (y_ld rfl rfl) <| zp 6 rfl rfl (y_indexArrK 7 rfl rfl (by omega)) <| zy 7 rfl rfl (y_ld rfl rfl) <| zp 8 rfl rfl (y_assign (v := .int _ _) rfl) <| zp 9 rfl rfl (y_assign (v := .int _ _) rfl) <| zp 10 rfl rfl (y_assign (v := .int _ _) rfl) ?_
      refine zp 11 rfl rfl (y_assign (v := .int _ _) rfl) <| zz <| .then_normal <| .sub (F' := [(2, _), (4, _), (5, _), (6, _), (11, _), (12, _), (13, _), (14, _), (15, _), (16, _), (17, _), (18, _)]) (.cons rfl (.cons rfl (.cons rfl (.cons rfl (.cons rfl (.cons rfl (.cons rfl (.cons rfl (.cons rfl (.cons rfl (.cons rfl (.cons rfl .nil)))))))))))) <| zr2 <| as0 rfl rfl <| zq <| x_block ?_
      refine x_loop (I := fun m' F D M1 L1 => ∃ (k : Nat) (s : H8), m' = 64 - k ∧ k ≤ 64 ∧ s = rounds (schd bs 64) st k ∧ D = [] ∧ M = M1 ∧ L1 = (b4, .cells ((schd bs 64).map u32v).toArray 244 (0, 0)) :: (b3, .cells (kT.map u32v).toArray 244 (0, 0)) :: (b2, .cells (List.toArray [u32v 0, u32v 0, u32v 0, u32v 0, u32v 0, u32v 0, u32v 0, u32v 0]) 230 (0, 0)) :: (b1, .cells (List.toArray st.vals) 230 (0, 0)) :: L ∧ F = [(2, .pointer (some ⟨b1, 0, none⟩)), (4, .pointer (some ⟨b2, 0, none⟩)), (5, .pointer (some ⟨b3, 0, none⟩)), (6, .pointer (some ⟨b4, 0, none⟩)), (11, u32v s.a), (12, u32v s.b), (13, u32v s.c), (14, u32v s.d), (15, u32v s.e), (16, u32v s.f), (17, u32v s.g), (18, u32v s.h), (19, .int .i64 k)]) (64) (F0 := [(2, _), (4, _), (5, _), (6, _), (11, _), (12, _), (13, _), (14, _), (15, _), (16, _), (17, _), (18, _), (19, _)]) ?_ (.cons rfl (.cons rfl (.cons rfl (.cons rfl (.cons rfl (.cons rfl (.cons rfl (.cons rfl (.cons rfl (.cons rfl (.cons rfl (.cons rfl (.cons rfl .nil))))))))))))) ?_  -- slots [2, 4, 5, 6, 11, 12, 13, 14, 15, 16, 17, 18, 19], written [11, 12, 13, 14, 15, 16, 17, 18, 19]
      · exact ⟨0, st, rfl, by omega, rfl, rfl, rfl, rfl, rfl⟩
      rintro m _ _ M1 L1 ⟨k, s, rfl, hk, hs, rfl, rfl, rfl, rfl⟩
      refine zr2 <| mvI rfl rfl <| tl_y rfl (y_lss rfl rfl) <| zq <| x_cond rfl (fun hc3 => ?_) (fun hc3 => ?_)
      ·
        refine x_skip <| .then_normal <| x_seq <| x_block <| x_seq <| x_draw 28 hmix rfl <| zp 0 rfl rfl (y_move (v := .int _ _) rfl) <| zp 1 rfl rfl (y_move (v := .int _ _) rfl) <| zp 3 rfl rfl (y_move (v := .int _ _) rfl) <| zp 6 rfl rfl (y_move (v := .int _ _) rfl) <| zp 10 rfl rfl (y_move (v := .int _ _) rfl) ?_
        refine zp 11 rfl rfl (y_move (v := .int _ _) rfl) <| zp 12 rfl rfl (y_and32 rfl rfl) <| zp 13 rfl rfl (y_move (v := .int _ _) rfl) <| zp 14 rfl rfl (y_xor32 (b := 4294967295) rfl rfl) ?_
        rw [xor_max]
        refine zp 15 rfl rfl (y_move (v := .int _ _) rfl) <| zp 16 rfl rfl (y_and32 rfl rfl) <| zp 17 rfl rfl (y_xor32 rfl rfl) <| zp 19 rfl rfl (y_move (v := .int _ _) rfl) <| zp 20 rfl rfl (y_indexArr rfl rfl (by omega)) <| zy 21 rfl rfl (y_load rfl rfl (.at_ (.ownAt (i := k) (c := kT.map u32v) inferInstance (get_u32' _ _ (by show k < 64; omega))) (by omega))) <| zp 23 rfl rfl (y_move (v := .int _ _) rfl) <| zp 24 rfl rfl (y_indexArr rfl rfl (by omega)) ?_
        refine zy 25 rfl rfl (y_load rfl rfl (.at_ (.ownAt (i := k) (c := (schd bs 64).map u32v) inferInstance (get_u32' _ _ (by rw [schd_length]; omega))) (by omega))) <| ze 2 rfl rfl <| e_call' rfl (rrot_spec _ 6 (by omega)) ?_
        rintro _ _ _ _ ⟨rfl, rfl, rfl⟩
        refine ⟨⟨(by first | exact Le.refl _ | assumption), Keeps.mem⟩, ?_⟩
        refine ze 4 rfl rfl <| e_call' rfl (rrot_spec _ 11 (by omega)) ?_
        rintro _ _ _ _ ⟨rfl, rfl, rfl⟩
        refine ⟨⟨(by first | exact Le.refl _ | assumption), Keeps.mem⟩, ?_⟩
        refine zp 5 rfl rfl (y_xor32 rfl rfl) <| ze 7 rfl rfl <| e_call' rfl (rrot_spec _ 25 (by omega)) ?_
        rintro _ _ _ _ ⟨rfl, rfl, rfl⟩
        refine ⟨⟨(by first | exact Le.refl _ | assumption), Keeps.mem⟩, ?_⟩
        refine zp 8 rfl rfl (y_xor32 rfl rfl) <| zp 9 rfl rfl (y_add32 rfl rfl) <| zp 18 rfl rfl (y_add32 rfl rfl) <| zp 22 rfl rfl (y_add32 rfl rfl) <| zp 26 rfl rfl (y_add32 rfl rfl) <| zp 27 rfl rfl (y_assign (v := .int _ _) rfl) <| zz <| .then_normal <| .sub (F' := [(2, _), (4, _), (5, _), (6, _), (11, _), (12, _), (13, _), (14, _), (15, _), (16, _), (17, _), (18, _), (19, _), (20, _)]) (.cons rfl (.cons rfl (.cons rfl (.cons rfl (.cons rfl (.cons rfl (.cons rfl (.cons rfl (.cons rfl (.cons rfl (.cons rfl (.cons rfl (.cons rfl (.cons rfl .nil)))))))))))))) ?_
        refine zr <| mvI rfl rfl <| tl_e rfl <| e_call' rfl (rrot_spec _ 2 (by omega)) ?_
        rintro _ _ _ _ ⟨rfl, rfl, rfl⟩
        refine mvI rfl rfl <| tl_e rfl <| e_call' rfl (rrot_spec _ 13 (by omega)) ?_
        rintro _ _ _ _ ⟨rfl, rfl, rfl⟩
        refine tl_y rfl (y_xor32 rfl rfl) <| mvI rfl rfl <| tl_e rfl <| e_call' rfl (rrot_spec _ 22 (by omega)) ?_
        rintro _ _ _ _ ⟨rfl, rfl, rfl⟩
        refine tl_y rfl (y_xor32 rfl rfl) <| mvI rfl rfl <| mvI rfl rfl <| tl_y rfl (y_and32 rfl rfl) <| mvI rfl rfl <| mvI rfl rfl <| tl_y rfl (y_and32 rfl rfl) <| tl_y rfl (y_xor32 rfl rfl) <| mvI rfl rfl <| mvI rfl rfl ?_
        refine tl_y rfl (y_and32 rfl rfl) <| tl_y rfl (y_xor32 rfl rfl) <| tl_y rfl (y_add32 rfl rfl) <| asI rfl rfl <| zq <| .sub (F' := [(2, _), (4, _), (5, _), (6, _), (11, _), (12, _), (13, _), (14, _), (15, _), (16, _), (17, _), (18, _), (19, _), (20, _), (21, _)]) (.cons rfl (.cons rfl (.cons rfl (.cons rfl (.cons rfl (.cons rfl (.cons rfl (.cons rfl (.cons rfl (.cons rfl (.cons rfl (.cons rfl (.cons rfl (.cons rfl (.cons rfl .nil))))))))))))))) ?_
        refine zr <| mvI rfl rfl <| asI rfl rfl <| zq <| zr <| mvI rfl rfl <| asI rfl rfl <| zq <| zr <| mvI rfl rfl ?_
        refine asI rfl rfl <| zq <| zr <| mvI rfl rfl <| mvI rfl rfl <| tl_y rfl (y_add32 rfl rfl) <| asI rfl rfl <| zq <| .sub (F' := [(2, _), (4, _), (5, _), (6, _), (11, _), (12, _), (13, _), (14, _), (15, _), (16, _), (17, _), (18, _), (19, _), (20, _), (21, _)]) (.cons rfl (.cons rfl (.cons rfl (.cons rfl (.cons rfl (.cons rfl (.cons rfl (.cons rfl (.cons rfl (.cons rfl (.cons rfl (.cons rfl (.cons rfl (.cons rfl (.cons rfl .nil))))))))))))))) ?_
        refine zr <| mvI rfl rfl <| asI rfl rfl <| zq <| zr <| mvI rfl rfl <| asI rfl rfl <| zq <| zr <| mvI rfl rfl ?_
        refine asI rfl rfl <| zq <| x_region <| mvI rfl rfl <| mvI rfl rfl <| tl_y rfl (y_add32 rfl rfl) <| asI rfl rfl <| tl_nil <| .block_normal <| .then_normal <| .sub (F' := [(2, _), (4, _), (5, _), (6, _), (11, _), (12, _), (13, _), (14, _), (15, _), (16, _), (17, _), (18, _), (19, _)]) (.cons rfl (.cons rfl (.cons rfl (.cons rfl (.cons rfl (.cons rfl (.cons rfl (.cons rfl (.cons rfl (.cons rfl (.cons rfl (.cons rfl (.cons rfl .nil))))))))))))) ?_
        refine x_region <| mvI rfl rfl <| tl_y rfl (y_addI rfl rfl (by omega)) <| asI rfl rfl <| tl_nil <| .loop_next (m' := 64 - (k + 1)) (by omega) (F' := [(2, _), (4, _), (5, _), (6, _), (11, _), (12, _), (13, _), (14, _), (15, _), (16, _), (17, _), (18, _), (19, _)]) (.cons rfl (.cons rfl (.cons rfl (.cons rfl (.cons rfl (.cons rfl (.cons rfl (.cons rfl (.cons rfl (.cons rfl (.cons rfl (.cons rfl (.cons rfl .nil))))))))))))) ?_
        exact ⟨k + 1, rnd s (kT.getD k 0) ((schd bs 64).getD k 0), rfl, by omega, by rw [hs]; rfl, rfl, rfl, rfl, rfl⟩
      ·
        obtain rfl : k = 64 := by omega
        refine x_exit <| .then_exit <| .loop_exit <| .block_exit <| .then_normal <| .sub (F' := [(2, _), (4, _), (11, _), (12, _), (13, _), (14, _), (15, _), (16, _), (17, _), (18, _)]) (.cons rfl (.cons rfl (.cons rfl (.cons rfl (.cons rfl (.cons rfl (.cons rfl (.cons rfl (.cons rfl (.cons rfl .nil)))))))))) <| zr <| tl_y rfl (y_indexArrK 0 rfl rfl (by omega)) <| tl_y rfl (y_ld rfl rfl) <| mvI rfl rfl <| tl_y rfl (y_add32 rfl rfl) ?_
        refine tl_y rfl (y_indexArrK 1 rfl rfl (by omega)) <| tl_y rfl (y_ld rfl rfl) <| mvI rfl rfl <| tl_y rfl (y_add32 rfl rfl) <| tl_y rfl (y_indexArrK 2 rfl rfl (by omega)) <| tl_y rfl (y_ld rfl rfl) <| mvI rfl rfl <| tl_y rfl (y_add32 rfl rfl) <| tl_y rfl (y_indexArrK 3 rfl rfl (by omega)) <| tl_y rfl (y_ld rfl rfl) ?_
        refine mvI rfl rfl <| tl_y rfl (y_add32 rfl rfl) <| tl_y rfl (y_indexArrK 4 rfl rfl (by omega)) <| tl_y rfl (y_ld rfl rfl) <| mvI rfl rfl <| tl_y rfl (y_add32 rfl rfl) <| tl_y rfl (y_indexArrK 5 rfl rfl (by omega)) <| tl_y rfl (y_ld rfl rfl) <| mvI rfl rfl <| tl_y rfl (y_add32 rfl rfl) ?_
        refine tl_y rfl (y_indexArrK 6 rfl rfl (by omega)) <| tl_y rfl (y_ld rfl rfl) <| mvI rfl rfl <| tl_y rfl (y_add32 rfl rfl) <| tl_y rfl (y_indexArrK 7 rfl rfl (by omega)) <| tl_y rfl (y_ld rfl rfl) <| mvI rfl rfl <| tl_y rfl (y_add32 rfl rfl) <| tl_y rfl (y_buildArr rfl) <| tl_e rfl <| e_st rfl rfl (by rfl) (by rfl) ?_
        refine zq <| .s1 4 rfl <| x_ret (retRV (L' := L) (rv1 rfl (rc_cellAgg (by rfl) rfl (.own inferInstance inferInstance))) inferInstance (Le.refl _) ⟨rfl, rfl, by rw [hs]; exact plus_eq _ _⟩)
end
end Go.Proofs.YtiimjodbaogjbaaGreatDoor
set_option linter.unusedVariables false
set_option linter.unusedSimpArgs false
set_option linter.constructorNameAsVariable false
namespace Go.Proofs.YtiimjodbaogjbaaGreatDoor
open Go Go.Eng
theorem put4_eq (x : UInt32) : [(shr32 x 24).toUInt8, (shr32 x 16).toUInt8, (shr32 x 8).toUInt8, x.toUInt8] = putB x.toNat 4 := by
 have hx := x.toNat_lt
 have e : ∀ a b : UInt8, a = b ↔ a.toNat = b.toNat := fun a b => UInt8.toNat_inj.symm
 simp only [putB, List.nil_append, List.cons_append, List.cons.injEq, and_true, e, UInt32.toNat_toUInt8, shr32, UInt32.toNat_ofNat', UInt8.toNat_ofNat']
 omega
theorem take8 (v k : Nat) (h : k < 8) : (putB v 8).take (k + 1) = (putB v 8).take k ++ [UInt8.ofNat (v / 256 ^ (7 - k) % 256)] := by
 have hg := putB_get 8 v (7 - k) (by omega)
 rw [show 8 - 1 - (7 - k) = k by omega] at hg
 rw [List.take_add_one, hg]
 rfl
theorem pad_snoc (bs : List UInt8) (k : Nat) : (bs ++ 128 :: List.replicate (k + 1) 0).map bv = (bs ++ 128 :: List.replicate k 0).map bv ++ [Value.int .u8 0] := by
 rw [List.replicate_succ', ← List.cons_append, ← List.append_assoc, List.map_append]; rfl
theorem pad_first (bs : List UInt8) : (bs ++ 128 :: List.replicate 0 0).map bv = bs.map bv ++ [Value.int .u8 128] := by
 rw [List.replicate_zero, List.map_append]; rfl
section
variable {G : World} {M : Mem} {L R : Own}
theorem ROne_spec {A : Option Addr} {n c : Nat} {bs : List UInt8} (hb : RowIn M L 1 A n (bs.map bv)) (hn : n ≤ 1099511627776) :
    Con Tryz.prog 180 #[.slice A n c] G M L (fun r M' L' => L = L' ∧ ∃ A' c', r = .slice A' 32 c' ∧ Bytes M' A' 32 c' (sha bs)) noPanic := by
  have hbl : bs.length = n := by have := hb.len; simpa using this
  refine enter (args := [_]) (fn := Tryz.f180) ⟨Tryz.func180, rfl, by kernel_rfl, by kernel_rfl⟩ 80 rfl <| zr <| as0 rfl rfl <| zq <| zr <| tl_e rfl <| e_buildSlice0 <| fun b1 => mvS rfl rfl <| tl_e rfl <| e_append1 (by decide) rfl rfl OwnRow.made00 (src_in hb) (all_one_bv bs) (by omega) (by omega) <| fun A1 c1 E1 hE1 => ?_
  rw [Nat.zero_add, List.nil_append] at hE1; rw [Nat.zero_add]
  refine tl_e rfl <| e_buildSlice rfl (by decide) <| fun b2 => .to (E1 ++ ((b2, .cells (List.toArray [.int .u8 128]) 5 (0, 0)) :: L)) inferInstance <| tl_e rfl <| e_append (by decide) rfl rfl hE1 (.own inferInstance rfl) rfl (by omega) (by omega) <| fun A2 c2 E2 hE2 => asS rfl rfl <| zq <| .s2 0 3 rfl rfl <| x_seq <| x_block ?_
  refine x_loop (I := fun m' F D M1 L1 => ∃ (k : Nat) (A2 : Option Addr) (c2 : Nat) (E2 : Own), m' = (119 - n % 64) % 64 - k ∧ k ≤ (119 - n % 64) % 64 ∧ OwnRow 5 1 A2 (n + 1 + k) c2 ((bs ++ 128 :: List.replicate k 0).map bv) E2 ∧ D = [] ∧ M = M1 ∧ DropTo L1 (E2 ++ L) ∧ F = [(0, .slice A n c), (3, .slice A2 (n + 1 + k) c2)]) ((119 - n % 64) % 64) (F0 := [(0, _), (3, _)]) ?_ (.cons rfl (.cons rfl .nil)) ?_  -- slots [0, 3], written [3]
  · exact ⟨0, A2, c2, E2, rfl, by omega, by rw [pad_first]; exact hE2, rfl, rfl, inferInstance, rfl⟩
  rintro m _ _ M1 L1 ⟨k, A2, c2, E2, rfl, hk, hE2, rfl, rfl, hdr, rfl⟩
  refine zr2 <| mvS rfl rfl <| tl_y rfl (y_len rfl) <| tl_y rfl (y_remI rfl rfl (by omega)) <| tl_y rfl (y_neq rfl rfl) <| zq <| x_cond rfl (fun hc1 => ?_) (fun hc1 => ?_)
  ·
    have hkn : k < (119 - n % 64) % 64 := by omega
    refine .dropTo _ hdr <| x_skip <| .then_normal <| .s2 0 3 rfl rfl <| x_block <| x_region <| mvS rfl rfl <| tl_e rfl <| e_buildSlice rfl (by decide) <| fun b3 => .to (E2 ++ ((b3, .cells (List.toArray [.int .u8 0]) 5 (0, 0)) :: L)) inferInstance <| tl_e rfl <| e_append (by decide) rfl rfl hE2 (.own inferInstance rfl) rfl (by omega) (by omega) <| fun A3 c3 E3 hE3 => asS rfl rfl ?_
    refine tl_nil <| .block_normal <| .loop_next (m' := (119 - n % 64) % 64 - (k + 1)) (by omega) (F' := [(0, _), (3, _)]) (.cons rfl (.cons rfl .nil)) ?_
    exact ⟨k + 1, A3, c3, E3, rfl, by omega, by rw [pad_snoc]; exact hE3, rfl, rfl, inferInstance, rfl⟩
  ·
    obtain rfl : k = (119 - n % 64) % 64 := by omega
    refine .dropTo _ hdr ?_
    generalize hz : List.replicate ((119 - n % 64) % 64) (0 : UInt8) = zs at hE2
    have hzl : zs.length = (119 - n % 64) % 64 := by rw [← hz]; simp
    generalize hm : n + 1 + (119 - n % 64) % 64 = m at hE2
    have hml : (bs ++ 128 :: zs).length = m := by simp [hzl]; omega
    refine x_exit <| .then_exit <| .loop_exit <| .block_exit <| .then_normal <| .s2 0 3 rfl rfl <| zr <| mvS rfl rfl <| tl_y rfl (y_len rfl) <| tl_y rfl (y_of64 rfl) <| tl_y rfl (y_mul64 (b := 8) rfl rfl) <| asI rfl rfl <| zq <| .s2 3 4 rfl rfl ?_
    refine zr2 <| as0 rfl rfl <| zq <| x_block ?_
    refine x_loop (I := fun m' F D M1 L1 => ∃ (k : Nat) (A3 : Option Addr) (c3 : Nat) (E3 : Own), m' = 8 - k ∧ k ≤ 8 ∧ OwnRow 5 1 A3 (m + k) c3 (((bs ++ 128 :: zs) ++ (putB (UInt64.ofInt n * 8).toNat 8).take k).map bv) E3 ∧ D = [] ∧ M = M1 ∧ DropTo L1 (E3 ++ L) ∧ F = [(3, .slice A3 (m + k) c3), (4, u64v (UInt64.ofInt n * 8)), (5, .int .i64 (7 - (k : Int)))]) (8) (F0 := [(3, _), (4, _), (5, _)]) ?_ (.cons rfl (.cons rfl (.cons rfl .nil))) ?_  -- slots [3, 4, 5], written [3, 5]
    · exact ⟨0, A2, c2, E2, rfl, by omega, by rw [List.take_zero, List.append_nil]; exact hE2, rfl, rfl, inferInstance, rfl⟩
    rintro m _ _ M1 L1 ⟨k, A3, c3, E3, rfl, hk, hE3, rfl, rfl, hdr, rfl⟩
    refine zr2 <| mvI rfl rfl <| tl_y rfl (y_geq rfl rfl) <| zq <| x_cond rfl (fun hc2 => ?_) (fun hc2 => ?_)
    ·
      have hk8 : k < 8 := by omega
      refine .dropTo _ hdr <| x_skip <| .then_normal <| x_seq <| x_block <| x_region <| mvS rfl rfl <| mvI rfl rfl <| mvI rfl rfl <| tl_y rfl (y_mulI rfl rfl (by omega)) <| tl_y rfl (y_convN64 rfl (by omega)) ?_
      rw [show (8 * (7 - (k : Int))) = ((8 * (7 - k) : Nat) : Int) by omega]
      refine tl_y rfl (y_shr64 (s := 8 * (7 - k)) rfl rfl) <| tl_y rfl (y_u64u8 rfl) ?_
      rw [shr_byte]
      refine tl_e rfl <| e_buildSlice rfl (by decide) <| fun bA => .to (E3 ++ ((bA, .cells (List.toArray [u8v (UInt8.ofNat ((UInt64.ofInt n * 8).toNat / 256 ^ (7 - k) % 256))]) 5 (0, 0)) :: L)) inferInstance <| tl_e rfl <| e_append (by decide) rfl rfl hE3 (.own inferInstance rfl) rfl (by omega) (by omega) <| fun A4 c4 E4 hE4 => asS rfl rfl <| tl_nil <| .block_normal <| .then_normal <| .s3 3 4 5 rfl rfl rfl <| x_region <| mvI rfl rfl ?_
      refine tl_y rfl (y_subI rfl rfl (by omega)) <| asI rfl rfl <| tl_nil <| .loop_next (m' := 8 - (k + 1)) (by omega) (F' := [(3, _), (4, _), (5, _)]) (.cons rfl (.cons rfl (.cons rfl .nil))) ?_
      exact ⟨k + 1, A4, c4, E4, rfl, by omega, by
        rw [take8 _ _ hk8, ← List.append_assoc, List.map_append]
        exact hE4, rfl, rfl, inferInstance, by rw [show (7 - (k : Int)) - 1 = 7 - ((k + 1 : Nat) : Int) by omega]; rfl⟩
    ·
      obtain rfl : k = 8 := by omega
      refine .dropTo _ hdr ?_
      rw [List.take_of_length_le (by rw [putB_length]; exact Nat.le_refl _)] at hE3
      have hpad : (bs ++ 128 :: zs) ++ putB (UInt64.ofInt n * 8).toNat 8 = bs ++ padB bs.length := by
        have hv : (UInt64.ofInt n * 8).toNat = n * 8 % 18446744073709551616 := by
          rw [UInt64.toNat_mul, show (UInt64.ofInt (n : Int)).toNat = n from by rw [ofInt64, UInt64.toNat_ofNat', Nat.mod_eq_of_lt (by omega)]]; rfl
        rw [padB, hbl, hz, hv]; simp
      rw [hpad] at hE3
      refine .pubRow hE3 <| fun M1 hM1 hT => ?_
      have hTl : (bs ++ padB bs.length).length = m + 8 := by have := hT.len; simpa using this
      have h64 : (m + 8) % 64 = 0 := by omega
      generalize hT' : bs ++ padB bs.length = T at hT hTl
      have hbT : Bytes M1 A3 (m + 8) c3 T := hT
      have hTle := hbT.le
      refine x_exit <| .then_exit <| .loop_exit <| .block_exit <| .then_normal <| .s1 3 rfl <| zr <| tl_y rfl (y_buildArr rfl) <| tl_e rfl <| e_alloc <| fun b5 => tl_e rfl <| e_st rfl rfl (by rfl) (by rfl) <| zq <| zr2 <| as0 rfl rfl <| zq ?_
      refine x_block ?_
      refine x_loop (I := fun m' F D M2 L1 => ∃ (k : Nat), m' = (m + 8) / 64 - k ∧ k ≤ (m + 8) / 64 ∧ D = [] ∧ M1 = M2 ∧ L1 = (b5, .cells (List.toArray (blk H8.init T k).vals) 230 (0, 0)) :: L ∧ F = [(3, .slice A3 (m + 8) c3), (6, .pointer (some ⟨b5, 0, none⟩)), (7, .int .i64 ((64 * k : Nat) : Int))]) ((m + 8) / 64) (F0 := [(3, _), (6, _), (7, _)]) ?_ (.cons rfl (.cons rfl (.cons rfl .nil))) ?_  -- slots [3, 6, 7], written [7]
      · exact ⟨0, rfl, by omega, rfl, rfl, rfl, rfl⟩
      rintro m _ _ M2 L1 ⟨k, rfl, hk, rfl, rfl, rfl, rfl⟩
      refine zr2 <| mvI rfl rfl <| mvS rfl rfl <| tl_y rfl (y_len rfl) <| tl_y rfl (y_lss rfl rfl) <| zq <| x_cond rfl (fun hc3 => ?_) (fun hc3 => ?_)
      ·
        have hk64 : 64 * k + 64 ≤ m + 8 := by omega
        refine x_skip <| .then_normal <| .s3 3 6 7 rfl rfl rfl <| x_seq <| x_block <| x_draw 7 hmix rfl <| zy 0 rfl rfl (y_lg rfl rfl) <| zp 1 rfl rfl (y_move (v := .slice _ _ _) rfl) <| zp 2 rfl rfl (y_move (v := .int _ _) rfl) <| zp 3 rfl rfl (y_move (v := .int _ _) rfl) <| zp 4 rfl rfl (y_addI rfl rfl (by omega)) ?_
        refine zp 5 rfl rfl (y_sliceLH rfl rfl rfl (by omega) (by omega)) ?_
        rw [show ((64 * k : Nat) : Int).toNat = 64 * k by omega, show (((64 * k : Nat) : Int) + 64).toNat = 64 * k + 64 by omega]
        refine ze 6 rfl rfl <| e_call' rfl (RTurn_spec (blk H8.init T k) (hbT.sub (64 * k) (64 * k + 64) (by omega) (by omega)) (by omega)) ?_
        rintro _ _ _ _ ⟨rfl, rfl, rfl⟩
        rw [show 64 * k + 64 - 64 * k = 64 by omega]
        refine ⟨⟨(by first | exact Le.refl _ | assumption), Keeps.mem⟩, ?_⟩
        refine zt 7 rfl rfl <| e_st rfl rfl (by rfl) (by rfl) <| zz <| .block_normal <| .then_normal <| .s3 3 6 7 rfl rfl rfl <| x_region <| mvI rfl rfl <| tl_y rfl (y_addI rfl rfl (by omega)) <| asI rfl rfl <| tl_nil <| .loop_next (m' := (m + 8) / 64 - (k + 1)) (by omega) (F' := [(3, _), (6, _), (7, _)]) (.cons rfl (.cons rfl (.cons rfl .nil))) ?_
        exact ⟨k + 1, rfl, by omega, rfl, rfl, rfl, by rw [show ((64 * k : Nat) : Int) + 64 = ((64 * (k + 1) : Nat) : Int) by omega]⟩
      ·
        obtain rfl : k = (m + 8) / 64 := by omega
        refine x_exit <| .then_exit <| .loop_exit <| .block_exit <| .then_normal <| .s1 6 rfl <| zr <| as0 rfl rfl <| zq <| zr2 <| as0 rfl rfl <| zq <| x_block ?_
        refine x_loop (I := fun m' F D M2 L1 => ∃ (k : Nat) (A4 : Option Addr) (c4 : Nat) (E4 : Own), m' = 8 - k ∧ k ≤ 8 ∧ OwnRow 5 1 A4 (4 * k) c4 (((((blk H8.init T ((m + 8) / 64)).list.take k).flatMap fun x => putB x.toNat 4)).map bv) E4 ∧ D = [] ∧ M1 = M2 ∧ DropTo L1 (E4 ++ ((b5, .cells (List.toArray (blk H8.init T ((m + 8) / 64)).vals) 230 (0, 0)) :: L)) ∧ F = [(6, .pointer (some ⟨b5, 0, none⟩)), (8, .slice A4 (4 * k) c4), (9, .int .i64 k)]) (8) (F0 := [(6, _), (8, _), (9, _)]) ?_ (.cons rfl (.cons rfl (.cons rfl .nil))) ?_  -- slots [6, 8, 9], written [8, 9]
        · exact ⟨0, none, 0, [], rfl, by omega, .nil, rfl, rfl, by rw [List.nil_append]; infer_instance, rfl⟩
        rintro m _ _ M2 L1 ⟨k, A4, c4, E4, rfl, hk, hE4, rfl, rfl, hdr, rfl⟩
        refine zr2 <| mvI rfl rfl <| tl_y rfl (y_lss rfl rfl) <| zq <| x_cond rfl (fun hc4 => ?_) (fun hc4 => ?_)
        ·
          have hk8 : k < 8 := by omega
          refine .dropTo _ hdr ?_
          generalize hS : blk H8.init T ((m + 8) / 64) = S at hE4 ⊢
          have hg : (S.list.map u32v)[k]? = some (u32v (S.list.getD k 0)) := get_u32' _ _ (by show k < 8; omega)
          refine x_skip <| .then_normal <| x_seq <| x_block <| x_draw0 23 ([(b5, .cells (List.toArray S.vals) 230 (0, 0))]) Keeps.mem hmix rfl <| zp 0 rfl rfl (y_move (v := .slice _ _ _) rfl) <| zp 1 rfl rfl (y_move (v := .int _ _) rfl) <| zp 2 rfl rfl (y_indexArr rfl rfl (by omega)) <| zy 3 rfl rfl (y_load rfl rfl (.at_ (.ownAt (i := k) (c := S.list.map u32v) inferInstance hg) (by omega))) <| zp 4 rfl rfl (y_shr32 (s := 24) rfl rfl) ?_
          refine zp 5 rfl rfl (y_u32u8 rfl) <| zp 6 rfl rfl (y_move (v := .int _ _) rfl) <| zp 7 rfl rfl (y_indexArr rfl rfl (by omega)) <| zy 8 rfl rfl (y_load rfl rfl (.at_ (.ownAt (i := k) (c := S.list.map u32v) inferInstance hg) (by omega))) <| zp 9 rfl rfl (y_shr32 (s := 16) rfl rfl) <| zp 10 rfl rfl (y_u32u8 rfl) <| zp 11 rfl rfl (y_move (v := .int _ _) rfl) <| zp 12 rfl rfl (y_indexArr rfl rfl (by omega)) <| zy 13 rfl rfl (y_load rfl rfl (.at_ (.ownAt (i := k) (c := S.list.map u32v) inferInstance hg) (by omega))) ?_
          refine zp 14 rfl rfl (y_shr32 (s := 8) rfl rfl) <| zp 15 rfl rfl (y_u32u8 rfl) <| zp 16 rfl rfl (y_move (v := .int _ _) rfl) <| zp 17 rfl rfl (y_indexArr rfl rfl (by omega)) <| zy 18 rfl rfl (y_load rfl rfl (.at_ (.ownAt (i := k) (c := S.list.map u32v) inferInstance hg) (by omega))) <| zp 19 rfl rfl (y_u32u8 rfl) <| ze 20 rfl rfl <| e_buildSlice rfl (by decide) <| fun bA => ⟨⟨(by first | exact Le.refl _ | assumption), Keeps.mem⟩, ?_⟩
          refine .to (E4 ++ ((bA, .cells (List.toArray [u8v (shr32 (S.list.getD k 0) 24).toUInt8, u8v (shr32 (S.list.getD k 0) 16).toUInt8, u8v (shr32 (S.list.getD k 0) 8).toUInt8, u8v (S.list.getD k 0).toUInt8]) 5 (0, 0)) :: (b5, .cells (List.toArray S.vals) 230 (0, 0)) :: L)) inferInstance <| ze 21 rfl rfl <| e_append (by decide) rfl rfl hE4 (.own inferInstance rfl) rfl (by omega) (by omega) <| fun A6 c6 E6 hE6 => ⟨⟨(by first | exact Le.refl _ | assumption), Keeps.mem⟩, ?_⟩
          refine zp 22 rfl rfl (y_assign (v := .slice _ _ _) rfl) <| zz <| .block_normal <| .then_normal <| .s3 6 8 9 rfl rfl rfl <| x_region <| mvI rfl rfl <| tl_y rfl (y_addI rfl rfl (by omega)) <| asI rfl rfl <| tl_nil <| .loop_next (m' := 8 - (k + 1)) (by omega) (F' := [(6, _), (8, _), (9, _)]) (.cons rfl (.cons rfl (.cons rfl .nil))) ?_
          exact ⟨k + 1, A6, c6, E6, rfl, by omega, by
            rw [take_snoc S.list k 0 (by show k < 8; omega), List.flatMap_append, List.map_append, show 4 * (k + 1) = 4 * k + 4 by omega, show (List.flatMap (fun x : UInt32 => putB x.toNat 4) [S.list.getD k 0]) = putB (S.list.getD k 0).toNat 4 by simp, ← put4_eq]
            exact hE6, rfl, rfl, inferInstance, rfl⟩
        ·
          obtain rfl : k = 8 := by omega
          refine .dropTo _ hdr <| x_exit <| .then_exit <| .loop_exit <| .block_exit <| .then_normal <| .s1 8 rfl <| zr <| mvS rfl rfl <| asS rfl rfl <| zq <| x_ret (.dropTo (E4 ++ L) inferInstance (.pubRow hE4 fun M' hle hr => ret1 rfl rfl (hM1.trans hle) ⟨rfl, A4, c4, rfl, by
            have hsh : sha bs = (((blk H8.init T ((m + 8) / 64)).list.take 8).flatMap fun x => putB x.toNat 4) := by rw [sha, hT', hTl]; rfl
            rw [hsh]; exact hr⟩))
end
end Go.Proofs.YtiimjodbaogjbaaGreatDoor
