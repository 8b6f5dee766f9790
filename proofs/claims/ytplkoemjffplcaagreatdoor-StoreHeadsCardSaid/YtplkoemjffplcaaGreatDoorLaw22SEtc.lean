/-
From a contract to a statement; what came in.
-/
import Derived.Test.YtplkoemjffplcaaGreatDoorStore11Etc
import Derived.Test.YtplkoemjffplcaaGreatDoorHss15Etc
import Derived.Test.YtplkoemjffplcaaGreatDoorOctCutEtc
import Derived.Test.YtplkoemjffplcaaGreatDoorStoreDefEtc
import Derived.Test.YtplkoemjffplcaaGreatDoorEngIEtc
import Derived.WalkKit
import Derived.ProofKit
import Derived.OpenShut
import Derived.ShutString
import Derived.ChangeOld
import Derived.Below
import Derived.Deep.Slices
set_option linter.all false
namespace Go.Proofs.YtplkoemjffplcaaGreatDoor
open Go Go.Eng
def sortL : Nat → List PairV
 | 0 => [⟨7, 4026531845⟩]
 | 1 => [⟨7, 4026531846⟩]
 | 2 => [⟨7, 4026531845⟩, ⟨7, 4026531845⟩]
 | _ => [⟨3, 4026531845⟩]
def sortN (s : Nat) : List UInt8 := List.replicate 16 (UInt8.ofNat (200 + s % 4))
def sortS (n : Nat) : List UInt8 := List.replicate 24 (UInt8.ofNat (100 + n % 4))
section
variable {G : World} {M : Mem} {L : Own}
theorem rep_set (n k : Nat) (a : UInt8) (h : k < n) : (List.replicate k a ++ List.replicate (n - k) (0 : UInt8)).set k a = List.replicate (k + 1) a ++ List.replicate (n - (k + 1)) 0 := by
 have e : List.replicate (n - k) (0 : UInt8) = 0 :: List.replicate (n - (k + 1)) 0 := by rw [show n - k = (n - (k + 1)) + 1 by omega, List.replicate_succ]
 rw [e, List.set_append_right _ _ (by simp), List.length_replicate, Nat.sub_self, List.set_cons_zero, List.replicate_succ', List.append_assoc]; rfl
abbrev byL (b : Nat) (bs : List UInt8) : Nat × Obj := (b, .cells (bs.map bv).toArray 5 (0, 0))
theorem Sort22_spec (s x : UInt8) : Con Tryz.prog 10 #[.int .u8 (s.toNat : Int), .int .u8 (x.toNat : Int)] G M L (fun v M' L' => L' = L ∧ ∃ (A : Option Addr) (n c : Nat) (y z : SlV), v = .tuple #[.slice A n c, .agg #[y.v, z.v]] ∧ Row M' 2 A n c (prow (sortL (s.toNat % 4))) ∧ Bytes M' y.a y.n y.c (sortN s.toNat) ∧ Bytes M' z.a z.n z.c (sortS x.toNat)) noPanic := by
 have hs := s.toNat_lt
 have hx := x.toNat_lt
 have hbvs : ∀ (l : List UInt8) (k : Nat) (a : UInt8), (l.map bv).set k (bv a) = (l.set k a).map bv := fun l k a => by rw [List.map_set]
 refine zfn Tryz.func10 rfl 51 rfl <| zr <| as0 rfl <| tl_e rfl <| e_alloc <| fun b1 => zq <| zr <| tl_y rfl (y_build rfl) <| tl_e rfl <| e_buildSlice rfl (by decide) <| fun b2 => .pub b2 iI <| fun M2 hM2 hb2 => tl_y rfl (y_build rfl) <| tl_e rfl <| e_buildSlice rfl (by decide) <| fun b3 => .pub b3 iI <| fun M3 hM3 hb3 => tl_y rfl (y_build rfl) <| tl_y rfl (y_build rfl) <| tl_e rfl <| e_buildSlice rfl (by decide) <| fun b4 => .pub b4 iI <| fun M4 hM4 hb4 => tl_y rfl (y_build rfl) <| tl_e rfl <| e_buildSlice rfl (by decide) <| fun b5 => .pub b5 iI <| fun M5 hM5 hb5 => tl_e rfl <| e_buildSlice rfl (by decide) <| fun b6 => .pub b6 iI <| fun M6 hM6 hb6 => ?_
 have hd : Le M M6 := hM2.trans (hM3.trans (hM4.trans (hM5.trans hM6)))
 have w2 : Row M6 2 (some ⟨b2, 0, none⟩) 1 1 (prow (sortL 0)) := (Row.whole (s := 2) (m := 1) hb2 rfl (by omega)).mono (hM3.trans (hM4.trans (hM5.trans hM6)))
 have w3 : Row M6 2 (some ⟨b3, 0, none⟩) 1 1 (prow (sortL 1)) := (Row.whole (s := 2) (m := 1) hb3 rfl (by omega)).mono (hM4.trans (hM5.trans hM6))
 have w4 : Row M6 2 (some ⟨b4, 0, none⟩) 2 2 (prow (sortL 2)) := (Row.whole (s := 2) (m := 2) hb4 rfl (by omega)).mono (hM5.trans hM6)
 have w5 : Row M6 2 (some ⟨b5, 0, none⟩) 1 1 (prow (sortL 3)) := (Row.whole (s := 2) (m := 1) hb5 rfl (by omega)).mono hM6
 refine mvI rfl <| tl_y rfl (y_remI rfl rfl (by omega)) ?_
 rw [show (s.toNat : Int) % 4 = ((s.toNat % 4 : Nat) : Int) by omega]
 obtain ⟨k, hk, hk4⟩ : ∃ k, s.toNat % 4 = k ∧ k < 4 := ⟨_, rfl, by omega⟩
 rw [hk]
 have hr := Row.whole (s := 1) (m := 4) (vs := [Value.slice (some ⟨b2, 0, none⟩) 1 1, .slice (some ⟨b3, 0, none⟩) 1 1, .slice (some ⟨b4, 0, none⟩) 2 2, .slice (some ⟨b5, 0, none⟩) 1 1]) hb6 rfl (by omega)
 obtain ⟨g, o, hgo, hcell⟩ := hr.addr (by omega)
 obtain ⟨rfl, rfl⟩ : b6 = g ∧ 0 = o := by simpa using hgo
 obtain ⟨A, n, c, hv, hrow⟩ : ∃ A n c, [Value.slice (some ⟨b2, 0, none⟩) 1 1, .slice (some ⟨b3, 0, none⟩) 1 1, .slice (some ⟨b4, 0, none⟩) 2 2, .slice (some ⟨b5, 0, none⟩) 1 1][k]? = some (.slice A n c) ∧ Row M6 2 A n c (prow (sortL k)) := by
  rcases (by omega : k = 0 ∨ k = 1 ∨ k = 2 ∨ k = 3) with rfl | rfl | rfl | rfl
  ·
   exact ⟨_, _, _, rfl, w2⟩
  ·
   exact ⟨_, _, _, rfl, w3⟩
  ·
   exact ⟨_, _, _, rfl, w4⟩
  exact ⟨_, _, _, rfl, w5⟩
 refine tl_y rfl (y_indexAddr rfl rfl (by omega)) <| tl_y rfl (y_load rfl rfl (.at_ (hcell _ k _ hv) (by omega))) <| asS rfl <| zq <| .s4 0 1 5 6 rfl rfl rfl rfl <| x_seq <| x_meet (I := fun F D M7 L7 => ∃ (b bn bs : Nat), F = [(0, .int .u8 (s.toNat : Int)), (1, .int .u8 (x.toNat : Int)), (5, .pointer (some ⟨b1, 0, none⟩)), (6, .slice A n c), (7, .pointer (some ⟨b, 0, none⟩))] ∧ D = [] ∧ M6 = M7 ∧ DropTo L7 ((b, .cells (List.toArray (seedC (some ⟨bn, 0, none⟩) (Int.toNat 16) (Int.toNat 16) (some ⟨bs, 0, none⟩) (Int.toNat 24) (Int.toNat 24))) 33 (0, 0)) :: (bn, .cells (List.replicate (Int.toNat 16) (Value.int .u8 0)).toArray 5 (0, 0)) :: (bs, .cells (List.replicate (Int.toNat 24) (Value.int .u8 0)).toArray 5 (0, 0)) :: (b1, .cells #[.slice none 0 0, .slice none 0 0] 33 (0, 0)) :: L)) ?_ (fun Jd2 => ?_)
 ·
  rintro _ _ _ L7 ⟨b, bn, bs, rfl, rfl, rfl, hdr⟩
  refine .dropTo _ hdr <| .to ((b, .cells (List.toArray (seedC (some ⟨bn, 0, none⟩) 16 16 (some ⟨bs, 0, none⟩) 24 24)) 33 (0, 0)) :: byL bn (List.replicate 16 0) :: byL bs (List.replicate 24 0) :: (b1, .cells #[.slice none 0 0, .slice none 0 0] 33 (0, 0)) :: L) ⟨by
   have h16 : List.replicate (Int.toNat 16) (Value.int .u8 0) = (List.replicate 16 (0 : UInt8)).map bv := by simp [bv]
   have h24 : List.replicate (Int.toNat 24) (Value.int .u8 0) = (List.replicate 24 (0 : UInt8)).map bv := by simp [bv]
   rw [h16, h24]; exact List.Perm.refl _⟩ ?_
  obtain ⟨u, hu, hu2⟩ : ∃ u : UInt8, UInt8.ofNat (100 + x.toNat % 4) = u ∧ (u.toNat : Int) = 100 + (x.toNat : Int) % 4 := ⟨_, rfl, by rw [UInt8.toNat_ofNat', Nat.mod_eq_of_lt (by omega)]; omega⟩
  obtain ⟨w, hw, hw2⟩ : ∃ w : UInt8, UInt8.ofNat (200 + s.toNat % 4) = w ∧ (w.toNat : Int) = 200 + (s.toNat : Int) % 4 := ⟨_, rfl, by rw [UInt8.toNat_ofNat', Nat.mod_eq_of_lt (by omega)]; omega⟩
  refine zr2 <| as0 rfl <| zq <| x_block ?_
  refine x_loop (I := fun m' F D M7 L7 => ∃ (j : Nat), m' = 24 - j ∧ j ≤ 24 ∧ D = [] ∧ M6 = M7 ∧ (b, .cells (List.toArray (seedC (some ⟨bn, 0, none⟩) 16 16 (some ⟨bs, 0, none⟩) 24 24)) 33 (0, 0)) :: byL bn (List.replicate 16 0) :: byL bs (List.replicate j u ++ List.replicate (24 - j) 0) :: (b1, .cells #[.slice none 0 0, .slice none 0 0] 33 (0, 0)) :: L = L7 ∧ F = [(0, .int .u8 (s.toNat : Int)), (1, .int .u8 (x.toNat : Int)), (5, .pointer (some ⟨b1, 0, none⟩)), (6, .slice A n c), (7, .pointer (some ⟨b, 0, none⟩)), (8, .int .i64 j)]) (24) (F0 := [(0, _), (1, _), (5, _), (6, _), (7, _), (8, _)]) ?_ (cs6 rfl rfl rfl rfl rfl rfl) ?_
  ·
   exact ⟨0, rfl, by omega, rfl, rfl, rfl, rfl⟩
  rintro m _ _ _ _ ⟨j, rfl, hj, rfl, rfl, rfl, rfl⟩
  refine zr2 <| mvI rfl <| tl_y rfl (y_lss rfl rfl) <| zq <| x_cond rfl (fun hc1 => ?_) (fun hc1 => ?_)
  ·
   have hj24 : j < 24 := by omega
   have hlen : (List.replicate j u ++ List.replicate (24 - j) (0 : UInt8)).length = 24 := by simp; omega
   refine x_skip <| .then_normal <| x_seq <| x_block <| x_region <| tFa rfl <| tLd rfl rfl <| mvI rfl <| mvI rfl <| tl_y rfl (y_remI rfl rfl (by omega)) <| tl_y rfl (y_addN8 rfl rfl (by omega)) ?_
   rw [← hu2]
   refine tl_y rfl (y_indexAddr rfl rfl (by omega)) <| tl_e rfl <| e_storeAt (c := (List.replicate j u ++ List.replicate (24 - j) (0 : UInt8)).map bv) rfl rfl rfl iI (by rw [List.length_map, hlen]; omega) iI ?_
   rw [show 0 + ((j : Nat) : Int).toNat * 1 = j by omega, show Value.int .u8 (u.toNat : Int) = bv u from rfl, hbvs, rep_set 24 j u hj24]
   refine tl_nil <| .block_normal <| .then_normal <| .s6 0 1 5 6 7 8 rfl rfl rfl rfl rfl rfl <| x_region <| mvI rfl <| tl_y rfl (y_addI rfl rfl (by omega)) <| asI rfl <| tl_nil <| .loop_next (m' := 24 - (j + 1)) (by omega) (F' := [(0, _), (1, _), (5, _), (6, _), (7, _), (8, _)]) (cs6 rfl rfl rfl rfl rfl rfl) ?_
   exact ⟨j + 1, rfl, by omega, rfl, rfl, rfl, rfl⟩
  obtain rfl : j = 24 := by omega
  refine x_exit <| .then_exit <| .loop_exit <| .block_exit <| .then_normal <| .s4 0 5 6 7 rfl rfl rfl rfl <| zr2 <| as0 rfl <| zq <| x_block ?_
  refine x_loop (I := fun m' F D M7 L7 => ∃ (j : Nat), m' = 16 - j ∧ j ≤ 16 ∧ D = [] ∧ M6 = M7 ∧ (b, .cells (List.toArray (seedC (some ⟨bn, 0, none⟩) 16 16 (some ⟨bs, 0, none⟩) 24 24)) 33 (0, 0)) :: byL bn (List.replicate j w ++ List.replicate (16 - j) 0) :: byL bs (List.replicate 24 u ++ List.replicate (24 - 24) 0) :: (b1, .cells #[.slice none 0 0, .slice none 0 0] 33 (0, 0)) :: L = L7 ∧ F = [(0, .int .u8 (s.toNat : Int)), (5, .pointer (some ⟨b1, 0, none⟩)), (6, .slice A n c), (7, .pointer (some ⟨b, 0, none⟩)), (9, .int .i64 j)]) (16) (F0 := [(0, _), (5, _), (6, _), (7, _), (9, _)]) ?_ (cs5 rfl rfl rfl rfl rfl) ?_
  ·
   exact ⟨0, rfl, by omega, rfl, rfl, rfl, rfl⟩
  rintro m _ _ _ _ ⟨j, rfl, hj, rfl, rfl, rfl, rfl⟩
  refine zr2 <| mvI rfl <| tl_y rfl (y_lss rfl rfl) <| zq <| x_cond rfl (fun hc2 => ?_) (fun hc2 => ?_)
  ·
   have hj16 : j < 16 := by omega
   have hlen : (List.replicate j w ++ List.replicate (16 - j) (0 : UInt8)).length = 16 := by simp; omega
   refine x_skip <| .then_normal <| x_seq <| x_block <| x_region <| tFa rfl <| tLd rfl rfl <| mvI rfl <| mvI rfl <| tl_y rfl (y_remI rfl rfl (by omega)) <| tl_y rfl (y_addN8 rfl rfl (by omega)) ?_
   rw [← hw2]
   refine tl_y rfl (y_indexAddr rfl rfl (by omega)) <| tl_e rfl <| e_storeAt (c := (List.replicate j w ++ List.replicate (16 - j) (0 : UInt8)).map bv) rfl rfl rfl iI (by rw [List.length_map, hlen]; omega) iI ?_
   rw [show 0 + ((j : Nat) : Int).toNat * 1 = j by omega, show Value.int .u8 (w.toNat : Int) = bv w from rfl, hbvs, rep_set 16 j w hj16]
   refine tl_nil <| .block_normal <| .then_normal <| .s5 0 5 6 7 9 rfl rfl rfl rfl rfl <| x_region <| mvI rfl <| tl_y rfl (y_addI rfl rfl (by omega)) <| asI rfl <| tl_nil <| .loop_next (m' := 16 - (j + 1)) (by omega) (F' := [(0, _), (5, _), (6, _), (7, _), (9, _)]) (cs5 rfl rfl rfl rfl rfl) ?_
   exact ⟨j + 1, rfl, by omega, rfl, rfl, rfl, rfl⟩
  obtain rfl : j = 16 := by omega
  refine .pub bn iI <| fun M8 hM8 hb8 => .pub bs iI <| fun M9 hM9 hb9 => ?_
  have hd9 := hd.trans (hM8.trans hM9)
  have y1 : Bytes M9 (some ⟨bn, 0, none⟩) 16 16 (sortN s.toNat) := by
   have := (Row.whole (s := 1) (m := 16) hb8 (by simp) (by omega)).mono hM9
   rw [Nat.sub_self, List.replicate_zero, List.append_nil] at this
   rw [sortN, hw]; exact this
  have y2 : Bytes M9 (some ⟨bs, 0, none⟩) 24 24 (sortS x.toNat) := by
   have := (Row.whole (s := 1) (m := 24) hb9 (by simp) (by omega))
   rw [Nat.sub_self, List.replicate_zero, List.append_nil] at this
   rw [sortS, hu]; exact this
  refine x_exit <| .then_exit <| .loop_exit <| .block_exit <| .then_normal <| .s3 5 6 7 rfl rfl rfl <| x_seq <| x_draw0 3 ((b, .cells (List.toArray (seedC (some ⟨bn, 0, none⟩) 16 16 (some ⟨bs, 0, none⟩) 24 24)) 33 (0, 0)) :: []) Keeps.mem hmix rfl <| pmS 0 rfl rfl <| zy 1 rfl rfl (y_lg rfl rfl) <| paS 2 rfl rfl <| zt 3 rfl rfl <| e_sT rfl rfl ?_
  refine zz <| .then_normal <| .s2 4 5 rfl rfl <| x_ret (retRV (L' := L) (rv2 rfl (rc_tmp rfl) (rc_cellAgg (by rfl) rfl (.own iI iI))) iI hd9 ⟨rfl, A, n, c, ⟨some ⟨bn, 0, none⟩, 16, 16⟩, ⟨some ⟨bs, 0, none⟩, 24, 24⟩, rfl, hrow.mono (hM8.trans hM9), y1, y2⟩)
 have he : Le M6 M6 := Le.refl _
 refine x_draw0 4 ([]) Keeps.mem hmix rfl <| to_three 0 1 3 (by kernel_rfl) ?_ ?_ ?_
 ·
  refine two_e 0 rfl rfl <| e_make1 rfl rfl (by omega) (by omega) (by omega) (by omega) <| fun bn => kp ?_
  refine to_two 1 3 (by kernel_rfl) ?_ ?_
  ·
   refine two_e 1 rfl rfl <| e_make1 rfl rfl (by omega) (by omega) (by omega) (by omega) <| fun bs => kp ?_
   refine zp 2 rfl rfl (y_build rfl) <| ze 3 rfl rfl <| e_alloc <| fun b7 => kp ?_
   refine zt 4 rfl rfl <| e_sT rfl rfl <| zz <| .then_normal <| .sub (F' := [(0, _), (1, _), (5, _), (6, _), (7, _)]) (cs5 rfl rfl rfl rfl rfl) <| Jd2 _ _ _ _ ?_
   exact ⟨_, bn, bs, rfl, rfl, rfl, iI⟩
  refine two_e 3 rfl rfl <| e_alloc <| fun b8 => kp ?_
  refine ze 1 rfl rfl <| e_make1 rfl rfl (by omega) (by omega) (by omega) (by omega) <| fun bs => kp ?_
  refine zp 2 rfl rfl (y_build rfl) <| zt 4 rfl rfl <| e_sT rfl rfl <| zz <| .then_normal <| .sub (F' := [(0, _), (1, _), (5, _), (6, _), (7, _)]) (cs5 rfl rfl rfl rfl rfl) <| Jd2 _ _ _ _ ?_
  exact ⟨_, bn, bs, rfl, rfl, rfl, iI⟩
 ·
  refine two_e 1 rfl rfl <| e_make1 rfl rfl (by omega) (by omega) (by omega) (by omega) <| fun bs => kp ?_
  refine to_two 0 3 (by kernel_rfl) ?_ ?_
  ·
   refine two_e 0 rfl rfl <| e_make1 rfl rfl (by omega) (by omega) (by omega) (by omega) <| fun bn => kp ?_
   refine zp 2 rfl rfl (y_build rfl) <| ze 3 rfl rfl <| e_alloc <| fun b9 => kp ?_
   refine zt 4 rfl rfl <| e_sT rfl rfl <| zz <| .then_normal <| .sub (F' := [(0, _), (1, _), (5, _), (6, _), (7, _)]) (cs5 rfl rfl rfl rfl rfl) <| Jd2 _ _ _ _ ?_
   exact ⟨_, bn, bs, rfl, rfl, rfl, iI⟩
  refine two_e 3 rfl rfl <| e_alloc <| fun b10 => kp ?_
  refine ze 0 rfl rfl <| e_make1 rfl rfl (by omega) (by omega) (by omega) (by omega) <| fun bn => kp ?_
  refine zp 2 rfl rfl (y_build rfl) <| zt 4 rfl rfl <| e_sT rfl rfl <| zz <| .then_normal <| .sub (F' := [(0, _), (1, _), (5, _), (6, _), (7, _)]) (cs5 rfl rfl rfl rfl rfl) <| Jd2 _ _ _ _ ?_
  exact ⟨_, bn, bs, rfl, rfl, rfl, iI⟩
 refine two_e 3 rfl rfl <| e_alloc <| fun b11 => kp ?_
 refine to_two 0 1 (by kernel_rfl) ?_ ?_
 ·
  refine two_e 0 rfl rfl <| e_make1 rfl rfl (by omega) (by omega) (by omega) (by omega) <| fun bn => kp ?_
  refine ze 1 rfl rfl <| e_make1 rfl rfl (by omega) (by omega) (by omega) (by omega) <| fun bs => kp ?_
  refine zp 2 rfl rfl (y_build rfl) <| zt 4 rfl rfl <| e_sT rfl rfl <| zz <| .then_normal <| .sub (F' := [(0, _), (1, _), (5, _), (6, _), (7, _)]) (cs5 rfl rfl rfl rfl rfl) <| Jd2 _ _ _ _ ?_
  exact ⟨_, bn, bs, rfl, rfl, rfl, iI⟩
 refine two_e 1 rfl rfl <| e_make1 rfl rfl (by omega) (by omega) (by omega) (by omega) <| fun bs => kp ?_
 refine ze 0 rfl rfl <| e_make1 rfl rfl (by omega) (by omega) (by omega) (by omega) <| fun bn => kp ?_
 refine zp 2 rfl rfl (y_build rfl) <| zt 4 rfl rfl <| e_sT rfl rfl <| zz <| .then_normal <| .sub (F' := [(0, _), (1, _), (5, _), (6, _), (7, _)]) (cs5 rfl rfl rfl rfl rfl) <| Jd2 _ _ _ _ ?_
 exact ⟨_, bn, bs, rfl, rfl, rfl, iI⟩
end
theorem can0 : canE (sortL 0) 16 24 = 0 := by kernel_rfl
theorem can1 : canE (sortL 1) 16 24 = 0 := by kernel_rfl
theorem can2 : canE (sortL 2) 16 24 = 0 := by kernel_rfl
theorem tot0 : totN (sortL 0) = 2 := by kernel_rfl
theorem tot1 : totN (sortL 1) = 4 := by kernel_rfl
theorem tot2 : totN (sortL 2) = 4 := by kernel_rfl
def tlR (f : Nat → List UInt8) : Nat → Nat → List UInt8
 | 0, _ => []
 | m + 1, i => f i ++ tlR f m (i + 1)
theorem catR_tl (f : Nat → List UInt8) : ∀ m i, catR f (i + m) = catR f i ++ tlR f m i
 | 0, i => by rw [tlR, List.append_nil, Nat.add_zero]
 | m + 1, i => by rw [tlR, ← List.append_assoc, ← catR_succ, ← catR_tl f m (i + 1)]; congr 1; omega
def pfR (l : List PairV) (at_ : List Nat) (name sec text : List UInt8) : Nat → Nat → List PartB
 | 0, _ => []
 | m + 1, i => ⟨pubR l at_ name sec i, sgR l at_ name sec text i, if i + 1 < l.length then pubR l at_ name sec (i + 1) else []⟩ :: pfR l at_ name sec text m (i + 1)
theorem pairC_app {a b : List UInt8} (h : 8 ≤ a.length) : pairC (a ++ b) = pairC a := by
 rw [pairC, pairC, List.drop_append_of_le_length (by omega), List.take_append_of_le_length (by rw [List.length_drop]; omega), List.take_append_of_le_length (by omega)]
section
variable {l : List PairV} {nl sl : Nat} {at_ : List Nat} {name sec text : List UInt8} {x : Nat}
theorem pubR_facts (hok : okL l) (hc : canB l nl sl) (hn : name.length = nl) (hs : sec.length = sl) {i : Nat} (hi : i < l.length) :
  ∃ n w p H, PF (l.getD i p0) n w p H ∧ (seedR l at_ name sec i).1.length = 16 ∧ (pubR l at_ name sec i).length = 24 + n ∧ pairC (pubR l at_ name sec i) = l.getD i p0 ∧ pubN (l.getD i p0) = 24 + n ∧ 24 ≤ n ∧ n ≤ 32 := by
 obtain ⟨h1, h2, h3, h4⟩ := okL_get hok hi
 obtain ⟨n, w, p, H, hx⟩ := okP_facts h1
 have h16 := (seedR_ok hok hc at_ hn hs i (by omega)).1
 obtain ⟨k1, k2, _, _, _⟩ := pub_parts hx h16 (seedR l at_ name sec i).2
 obtain ⟨z1, _, _, _, _⟩ := hx.sizes
 have hn32 := hx.o.n32
 exact ⟨n, w, p, H, hx, h16, k1, k2, z1, by omega, by omega⟩
theorem key_app (hok : okL l) (hc : canB l nl sl) (hn : name.length = nl) (hs : sec.length = sl) {i : Nat} (hi : i < l.length) (b : List UInt8) :
  keyE (pubR l at_ name sec i ++ b) = 0 ∧ keyT (pubR l at_ name sec i ++ b) = pubR l at_ name sec i ∧ keyD (pubR l at_ name sec i ++ b) = b := by
 obtain ⟨n, w, p, H, hx, h16, k1, k2, k3, k4, k5⟩ := pubR_facts (at_ := at_) hok hc hn hs hi
 have e : pairC (pubR l at_ name sec i ++ b) = l.getD i p0 := by rw [pairC_app (by omega), k2]
 refine ⟨?_, ?_, ?_⟩
 ·
  rw [keyE, if_neg (by rw [List.length_append]; omega), e, if_neg (fun h => h hx.ok), if_neg (by rw [List.length_append]; omega)]
 ·
  rw [keyT, e, k3]; exact take_at k1
 rw [keyD, e, k3]; exact drop_at k1
theorem parse_hss (hok : okL l) (hc : canB l nl sl) (hn : name.length = nl) (hs : sec.length = sl) (hat : at_ = atsN (l.map tv) x) : ∀ m i, i + m + 1 = l.length →
  parse m (pubR l at_ name sec i) (tlR (levR l at_ name sec text) (m + 1) i) = (0, pfR l at_ name sec text (m + 1) i)
 | 0, i, hi => by
  obtain ⟨n, w, p, H, hx, h16, k1, k2, k3, k4, k5⟩ := pubR_facts (at_ := at_) (name := name) (sec := sec) hok hc hn hs (i := i) (by omega)
  obtain ⟨z1, _, _, _⟩ := lv_len hok hc at_ text hn hs (i := i) (by omega) hat
  have e : tlR (levR l at_ name sec text) 1 i = sgR l at_ name sec text i := by rw [tlR, tlR, List.append_nil, levR, if_neg (by omega), List.append_nil]
  rw [e, parse, k2, if_neg (by omega), if_neg (by omega), pfR, pfR, if_neg (by omega), sgT, k2, List.take_of_length_le (by omega)]
 | m + 1, i, hi => by
  obtain ⟨n, w, p, H, hx, h16, k1, k2, k3, k4, k5⟩ := pubR_facts (at_ := at_) (name := name) (sec := sec) hok hc hn hs (i := i) (by omega)
  obtain ⟨z1, _, _, _⟩ := lv_len hok hc at_ text hn hs (i := i) (by omega) hat
  have e : tlR (levR l at_ name sec text) (m + 1 + 1) i = sgR l at_ name sec text i ++ (pubR l at_ name sec (i + 1) ++ tlR (levR l at_ name sec text) (m + 1) (i + 1)) := by
   rw [tlR, levR, if_pos (by omega), List.append_assoc]
  obtain ⟨q1, q2, q3⟩ := key_app (at_ := at_) (name := name) (sec := sec) hok hc hn hs (i := i + 1) (by omega) (tlR (levR l at_ name sec text) (m + 1) (i + 1))
  have ih := parse_hss hok hc hn hs hat m (i + 1) (by omega)
  have eT : sgT (pubR l at_ name sec i) (tlR (levR l at_ name sec text) (m + 1 + 1) i) = sgR l at_ name sec text i := by rw [sgT, k2, e]; exact take_at z1
  have eD : sgD (pubR l at_ name sec i) (tlR (levR l at_ name sec text) (m + 1 + 1) i) = pubR l at_ name sec (i + 1) ++ tlR (levR l at_ name sec text) (m + 1) (i + 1) := by rw [sgD, k2, e]; exact drop_at z1
  have e3 : pfR l at_ name sec text (m + 1 + 1) i = ⟨pubR l at_ name sec i, sgR l at_ name sec text i, pubR l at_ name sec (i + 1)⟩ :: pfR l at_ name sec text (m + 1) (i + 1) := by rw [pfR, if_pos (by omega)]
  rw [e3, parse, eT, eD, k2, if_neg (by rw [e, List.length_append]; omega), if_neg (fun h => h q1), q2, q3, ih, if_neg (fun h => h rfl)]
theorem pfR_fits (hok : okL l) (hc : canB l nl sl) (hn : name.length = nl) (hs : sec.length = sl) (hat : at_ = atsN (l.map tv) x) (htl : text.length ≤ 65536) : ∀ m i, i + m = l.length → ∀ p ∈ pfR l at_ name sec text m i, partF text p
 | 0, i, _, p, hp => by cases hp
 | m + 1, i, hi, p, hp => by
  rcases List.mem_cons.1 hp with rfl | hp
  ·
   obtain ⟨n, w, p', H, hx, h16, k1, k2, k3, k4, k5⟩ := pubR_facts (at_ := at_) (name := name) (sec := sec) hok hc hn hs (i := i) (by omega)
   obtain ⟨z1, _, z3, _⟩ := lv_len hok hc at_ text hn hs (i := i) (by omega) hat
   rw [hx.lv] at z3
   have hf : ∀ t : List UInt8, t.length ≤ 65536 → fitK (pubR l at_ name sec i) t.length t (lsigB (l.getD i p0) (seedR l at_ name sec i).1 (seedR l at_ name sec i).2 (at_.getD i 0) t) := fun t ht => lms_fits hx h16 _ t z3 ht
   rw [partF]
   by_cases h1 : i + 1 < l.length
   ·
    obtain ⟨n2, _, _, _, _, _, r1, _, _, r4, r5⟩ := pubR_facts (at_ := at_) (name := name) (sec := sec) hok hc hn hs (i := i + 1) h1
    have hne : pubR l at_ name sec (i + 1) ≠ [] := fun h => by have := congrArg List.length h; rw [r1] at this; simp at this
    have := hf (pubR l at_ name sec (i + 1)) (by omega)
    simp only [if_pos h1, if_neg hne]
    rw [sgR, nextR, if_pos h1]
    exact this
   simp only [if_neg h1, if_pos]
   rw [sgR, nextR, if_neg h1]
   exact hf text htl
  exact pfR_fits hok hc hn hs hat htl m (i + 1) (by omega) p hp
theorem hss_read (h0 : canE l nl sl = 0) (hn : name.length = nl) (hs : sec.length = sl) (hat : at_ = atsN (l.map tv) x) :
  readP (hpubB l name sec) (hsigB l at_ name sec text) = (0, pfR l at_ name sec text l.length 0) := by
 obtain ⟨hok, hc⟩ := canE_zero h0
 have h1 := hok.1
 obtain ⟨n, w, p', H, hx, h16, k1, k2, k3, k4, k5⟩ := pubR_facts (at_ := at_) (name := name) (sec := sec) hok hc hn hs (i := 0) (by omega)
 have e0 : pubB (l.getD 0 p0) name sec = pubR l at_ name sec 0 := rfl
 have p1 : (putB l.length 4).length = 4 := putB_length 4 _
 have p2 : (putB (l.length - 1) 4).length = 4 := putB_length 4 _
 have d1 : (hpubB l name sec).drop 4 = pubR l at_ name sec 0 := drop_at p1
 have d2 : (hpubB l name sec).take 4 = putB l.length 4 := take_at p1
 have d3 : (hsigB l at_ name sec text).drop 4 = tlR (levR l at_ name sec text) l.length 0 := by
  have := catR_tl (levR l at_ name sec text) l.length 0
  rw [Nat.zero_add, catR_zero, List.nil_append] at this
  rw [← this]; exact drop_at p2
 have d4 : (hsigB l at_ name sec text).take 4 = putB (l.length - 1) 4 := take_at p2
 obtain ⟨q1, q2, q3⟩ := key_app (at_ := at_) (name := name) (sec := sec) hok hc hn hs (i := 0) (by omega) []
 rw [List.append_nil] at q1
 have g1 : getB (putB l.length 4) = l.length := by rw [getB_put, Nat.mod_eq_of_lt (by omega)]
 have g2 : getB (putB (l.length - 1) 4) = l.length - 1 := by rw [getB_put, Nat.mod_eq_of_lt (by omega)]
 obtain ⟨m, hm⟩ : ∃ m, l.length = m + 1 := ⟨l.length - 1, by omega⟩
 rw [readP_eq (by rw [hpubB, List.length_append]; omega) (by rw [d1]; exact q1) (by rw [d1, k2, k1, k3]) (by rw [d2, g1]; exact h1) (by rw [hsigB, List.length_append]; omega) (by rw [d2, d4, g1, g2]), d2, g1, d1, d3, hm]
 exact parse_hss hok hc hn hs hat m 0 (by omega)
theorem hss_fits (h0 : canE l nl sl = 0) (hn : name.length = nl) (hs : sec.length = sl) (hat : at_ = atsN (l.map tv) x) (htl : text.length ≤ 65536) : hfit (hpubB l name sec) text (hsigB l at_ name sec text) := by
 obtain ⟨hok, hc⟩ := canE_zero h0
 rw [hfit, hss_read h0 hn hs hat]
 exact ⟨rfl, pfR_fits hok hc hn hs hat htl _ 0 (by omega)⟩
end
theorem createS_within {S S' : DS} {B : Nat} (h : S.within B) {n : Nat} {hd : KeyH} {batch : UInt64} {o : Option KeyS} {e : Int} (hc : createS S n hd batch = ((S', o), e)) : S'.within (B + 9) := by
 have hn := fun a tot => newC_within h (s := sA a) (show (4 : Nat) ≤ 8 by decide) (headB hd.name hd.l hd.sn hd.ss) tot batch
 unfold createS at hc
 split at hc
 ·
  cases hc; exact h.mono (by omega)
 split at hc
 ·
  cases hc; exact h.mono (by omega)
 split at hc
 ·
  cases hc; exact hn _ _
 cases hc; exact hn _ _
theorem signK_within {S : DS} {B : Nat} (h : S.within B) {ks : List (KeyS × Nat)} (hn : ∀ q ∈ ks, q.1.s.n ≤ 8) (nm text : List UInt8) : (signK S ks nm text).S.within (B + 9) := by
 rw [signK]
 split
 ·
  exact h.mono (by omega)
 rename_i q hq
 have ht := takeC_within h (hn q (findP_mem hq).1) q.1.x q.1.head
 split
 ·
  exact h.mono (by omega)
 split
 ·
  exact ht
 exact ht
theorem hsigB_le {pl : List PairV} {name sec text : List UInt8} {x : Nat} (h0 : canE pl name.length sec.length = 0) : (hsigB pl (atsN (pl.map tv) x) name sec text).length ≤ 80804 := by
 obtain ⟨hok, hc⟩ := canE_zero h0
 have hcl : ∀ k, k ≤ pl.length → (catR (levR pl (atsN (pl.map tv) x) name sec text) k).length ≤ k * 10100 := by
  intro k
  induction k with
  | zero => intro _; rw [catR_zero]; exact Nat.zero_le _
  | succ k ih =>
   intro hk
   have h1 := ih (by omega)
   obtain ⟨z1, z2, _, _⟩ := lv_len hok hc _ text rfl rfl (i := k) (by omega) rfl
   have h2 : (levR pl (atsN (pl.map tv) x) name sec text k).length ≤ 10100 := by
    rw [levR, List.length_append, z1]
    split
    ·
     obtain ⟨n2, _, _, _, _, _, r1, _, _, r4, r5⟩ := pubR_facts (at_ := atsN (pl.map tv) x) (name := name) (sec := sec) hok hc rfl rfl (i := k + 1) (by omega)
     omega
    rw [List.length_nil]; omega
   rw [catR_succ, List.length_append]
   omega
 have := hcl _ (Nat.le_refl _)
 have h8 := hok.1.2
 rw [hsigB, List.length_append, putB_length]
 omega
theorem hpubB_le {pl : List PairV} {name sec : List UInt8} (h0 : canE pl name.length sec.length = 0) : (hpubB pl name sec).length ≤ 100 := by
 obtain ⟨hok, hc⟩ := canE_zero h0
 obtain ⟨n2, _, _, _, _, _, r1, _, _, r4, r5⟩ := pubR_facts (at_ := []) (name := name) (sec := sec) hok hc rfl rfl (i := 0) (by have := hok.1.1; omega)
 have e : (pubR pl [] name sec 0) = pubB (pl.getD 0 p0) name sec := rfl
 rw [e] at r1
 rw [hpubB, List.length_append, putB_length]
 omega
structure GoodK (h : KeyH) : Prop where
 can : canE h.l h.sn.length h.ss.length = 0
 name : 1 ≤ h.name.length ∧ h.name.length ≤ 16
theorem GoodK.may {h : KeyH} (g : GoodK h) : mayK h.name.length h.l h.sn.length h.ss.length := ⟨g.name.1, g.name.2, g.can⟩
theorem sort_good {k s x : Nat} (hk : k < 3) (nm : List UInt8) (hn : 1 ≤ nm.length ∧ nm.length ≤ 16) : GoodK ⟨nm, sortL k, sortN s, sortS x⟩ := by
 refine ⟨?_, hn⟩
 show canE (sortL k) (sortN s).length (sortS x).length = 0
 rw [show (sortN s).length = 16 by simp [sortN], show (sortS x).length = 24 by simp [sortS]]
 rcases (by omega : k = 0 ∨ k = 1 ∨ k = 2) with rfl | rfl | rfl
 ·
  exact can0
 ·
  exact can1
 exact can2
theorem sort_tot {k : Nat} (hk : k < 3) : 2 ≤ totN (sortL k) ∧ totN (sortL k) ≤ 4 := by
 rcases (by omega : k = 0 ∨ k = 1 ∨ k = 2) with rfl | rfl | rfl
 ·
  rw [tot0]; omega
 ·
  rw [tot1]; omega
 rw [tot2]; omega
theorem LiveSt.sign {S : DS} {ks : List (KeyS × Nat)} (hl : LiveSt S (ks.map (·.1))) {nm : List UInt8} {q : KeyS × Nat} (hf : findP ks nm = some q) {i : Nat} (hi : (ks.map (·.1))[i]? = some q.1) (hr : q.1.x.retired = false) (hnum : q.1.s.num.toNat < 9223372036854775808) (ht : q.1.x.next.toNat < q.1.x.total.toNat) {text : List UInt8} (htl : text.length ≤ 65536) :
  ∃ S' k', signK S ks nm text = ⟨S', setP ks (k', q.2), hsigB q.1.h.l (atsN (q.1.h.l.map tv) q.1.x.next.toNat) q.1.h.sn q.1.h.ss text, 0⟩ ∧ k'.h = q.1.h ∧ LiveSt S' ((ks.map (·.1)).set i k') ∧ k'.x.next.toNat = q.1.x.next.toNat + 1 ∧ k'.x.total = q.1.x.total ∧ k'.x.retired = false ∧ S'.sure.length = S.sure.length ∧ k'.s.num.toNat ≤ q.1.s.num.toNat + 1 := by
 obtain ⟨S', k', h1, h2, h3, h4, h5, h6, h7, h8, h9, h10⟩ := hl.take hi hr hnum ht
 have hK := hl.live i q.1 hi
 have hcan := hK.good.2.2
 have he : hsigE q.1.h.l q.1.h.sn.length q.1.h.ss.length q.1.x.next.toNat text.length = 0 := by
  rw [hsigE, if_neg (fun h => h hcan), if_neg (by omega), plE, if_pos (canE_zero hcan).1, if_pos (by rw [← hK.tot]; exact ht)]
 refine ⟨S', k', ?_, h2, h4, h5, h6, h8, h9, h10⟩
 rw [signK, hf]
 show (if 65536 < text.length then _ else _) = _
 rw [if_neg (by omega), h1, if_neg (by simp), h3]
 show SignR.mk S' (setP ks (k', q.2)) (hsigV _ _ _ q.1.x.next.toNat _ _ _ _) (hsigE _ _ _ q.1.x.next.toNat _) = _
 rw [hsigV, he, if_pos rfl]
section
variable {G : World} {M : Mem} {L : Own}
theorem awake22_spec (hg : LmG M) (hsh : ShaG M) : Con Tryz.prog 7 #[] G M L (fun v M' L' => L' = L ∧ v = .bool true) noPanic := by
 have hl0 := LiveSt.fresh 16
 have ha : areasN (fresh 16) = 2 := by kernel_rfl
 have hlen : (fresh 16).sure.length = 16 := fresh_len 16
 have hop : openS (fresh 16) = (0, []) := hl0.openS_eq (by rw [ha]; decide)
 have hgk : GoodK ⟨[97], sortL 1, sortN 1, sortS 0⟩ := sort_good (by omega) _ (by decide)
 refine zfn Tryz.func7 rfl 92 rfl <| zr <| as0 rfl <| zq <| zr <| zca rfl (New_spec 16) ?_
 intro _ M2 L1 hM2 hv
 rw [if_neg (by omega)] at hv
 obtain ⟨d, ⟨r2, hd2, rfl⟩, rfl⟩ := hv
 have hd := hM2
 change IsDisk M2 r2 (fresh 16) at hd2
 refine mvU rfl <| zx rfl <| zx rfl <| asP rfl <| asI rfl <| zq <| .s1 1 rfl <| zr2 <| mvP rfl <| tl_y rfl (y_eqNilPtr rfl rfl) <| zq <| x_false rfl (rfl) <| x_skip <| .then_normal <| zr <| mvP rfl <| zca rfl (sOpen_spec (hg.mono hd) (hsh.mono hd) (S := fresh 16) hd2) ?_
 rintro v M3 L3 hM3 hv
 replace hd := hd.trans hM3
 obtain ⟨sp, mp, r3, E, rfl, h3, hE, rfl⟩ : ∃ sp mp r3 E, v = .tuple #[.pointer (some ⟨sp, 0, none⟩), .int .i64 0] ∧ IsDisk M3 r3 (fresh 16) ∧ KeysAt M3 d [] E ∧ L3 = dL d r3 (fresh 16) (stL sp d 2 mp :: mpL mp [] :: (E ++ L)) := by
  rcases hv with ⟨sp, mp, r3, ks, E, ho, rfl, h3, hE, rfl⟩ | ⟨_, hno, _⟩
  ·
   rw [hop] at ho
   obtain rfl : ks = [] := by simpa using ho
   rw [ha]
   exact ⟨sp, mp, r3, E, rfl, h3, hE, rfl⟩
  rw [hop] at hno; exact absurd rfl hno
 refine mvU rfl <| zx rfl <| zx rfl <| asP rfl <| asI rfl <| zq <| .s2 3 4 rfl rfl <| zr2 <| mvP rfl <| tl_y rfl (y_eqNilPtr rfl rfl) <| mvB rfl <| tl_set (s := 28) (u := .bool false) rfl (rfl) <| mvI rfl <| tl_y rfl (y_neq rfl rfl) <| tPf rfl rfl <| zq <| .s2 3 31 rfl rfl <| x_false rfl (rfl) <| x_skip <| .then_normal <| zr <| zca rfl (Sort22_spec 1 0) ?_
 rintro _ M4 _ hM4 ⟨rfl, A4, n4, c4, y, z, rfl, hr4, hy4, hz4⟩
 replace hd := hd.trans hM4
 change Row M4 2 A4 n4 c4 (prow (sortL 1)) at hr4
 change Bytes M4 y.a y.n y.c (sortN 1) at hy4
 change Bytes M4 z.a z.n z.c (sortS 0) at hz4
 refine mvU rfl <| zx rfl <| zx rfl <| tl_e rfl <| e_alloc <| fun b1 => asS rfl <| tl_e rfl <| e_sT rfl rfl <| zq <| .s3 3 5 6 rfl rfl rfl <| zr <| mvP rfl <| mvS rfl <| tLg rfl rfl <| zca rfl (Con.to (dL d r3 (fresh 16) (stL sp d 2 mp :: mpL mp [] :: (E ++ ((b1, .cells #[y.v, z.v] 33 (0, 0)) :: L)))) iI (sCreate_spec (nm := [97]) (hg.mono hd) (hsh.mono hd) (h3.mono hM4) (by rw [hlen]; omega) (within_fresh 16) (by omega) (hE.mono hM4) hr4 hy4 hz4 2)) ?_
 rintro v M5 L5 hM5 hv
 replace hd := hd.trans hM5
 obtain ⟨S1, k1, e1, k1h, k1x, k1n, hl1, hlen1⟩ := hl0.create hgk.may (batch := 2) (by decide) (by simp) (by rw [ha]; decide)
 rw [ha] at e1
 rw [List.nil_append] at hl1
 obtain ⟨kp, r5, E5, rfl, h5, hE5, rfl⟩ : ∃ kp r5 E5, v = .int .i64 0 ∧ IsDisk M5 r5 S1 ∧ KeysAt M5 d [(k1, kp)] E5 ∧ L5 = dL d r5 S1 (stL sp d 2 mp :: mpL mp [(k1, kp)] :: (E5 ++ ((b1, .cells #[y.v, z.v] 33 (0, 0)) :: L))) := by
  rcases hv with ⟨S', k, kp, r', E', hc, rfl, h1, h2, rfl⟩ | ⟨S', e, r', hc, _, _⟩
  ·
   rw [e1] at hc
   obtain ⟨⟨rfl, hk⟩, _⟩ := Prod.mk.inj hc |>.imp Prod.mk.inj id
   obtain rfl := Option.some.inj hk
   exact ⟨kp, r', E', rfl, h1, h2, rfl⟩
  rw [e1] at hc
  cases hc
 have hw1 := createS_within (within_fresh 16) e1
 have ha1 : areasN S1 = 2 := by rw [areasN_eq hlen1]; exact ha
 have hr5 := hr4.mono hM5
 have hy5 := hy4.mono hM5
 have hz5 := hz4.mono hM5
 refine asI rfl <| zq <| .s4 3 5 6 7 rfl rfl rfl rfl <| zr <| mvP rfl <| mvS rfl <| tLg rfl rfl <| zca rfl (sCreate_spec (nm := [97]) (hg.mono hd) (hsh.mono hd) h5 (by rw [hlen1, hlen]; omega) hw1 (by omega) hE5 hr5 hy5 hz5 2) ?_
 rintro v M6 L6 hM6 hv
 replace hd := hd.trans hM6
 have h10 := hl1.freeTwice (nm := [97]) (by simp [k1h])
 rw [ha1] at h10
 have e2 : createS S1 2 ⟨[97], sortL 1, sortN 1, sortS 0⟩ 2 = ((S1, none), 10) := by
  rw [createS, if_neg (fun h => h ⟨hgk.may, by decide, by decide⟩)]
  show (if (freeS S1 [97] 2).1 ≠ 0 then ((S1, none), (freeS S1 [97] 2).1) else _) = _
  rw [h10, if_pos (by decide)]
 obtain ⟨r6, rfl, h6, rfl⟩ : ∃ r6, v = .int .i64 10 ∧ IsDisk M6 r6 S1 ∧ L6 = dL d r6 S1 (stL sp d 2 mp :: mpL mp [(k1, kp)] :: (E5 ++ ((b1, .cells #[y.v, z.v] 33 (0, 0)) :: L))) := by
  rcases hv with ⟨S', k, kp, r', E', hc, _, _⟩ | ⟨S', e, r', hc, _, rfl, h1, rfl⟩
  ·
   rw [e2] at hc; cases hc
  rw [e2] at hc
  obtain ⟨⟨rfl, _⟩, rfl⟩ := Prod.mk.inj hc |>.imp Prod.mk.inj id
  exact ⟨r', rfl, h1, rfl⟩
 have hE6 := hE5.mono hM6
 have hfd : findP [(k1, kp)] [97] = some (k1, kp) := by rw [findP, if_pos (by rw [k1h])]
 refine asI rfl <| zq <| .s3 3 7 8 rfl rfl rfl <| zr <| mvP rfl <| zca rfl (sPublic_spec (nm := [97]) (hg.mono hd) hE6) ?_
 rintro _ M7 _ hM7 ⟨rfl, A7, m7, c7, rfl, hp7⟩
 replace hd := hd.trans hM7
 have hpk : publicK [(k1, kp)] [97] = (hpubB (sortL 1) (sortN 1) (sortS 0), 0) := by
  rw [publicK, hfd]
  show (hpubV k1.h.l _ _ _ _, canE k1.h.l _ _) = _
  rw [k1h]
  show (hpubV (sortL 1) (sortN 1).length (sortS 0).length (sortN 1) (sortS 0), canE (sortL 1) (sortN 1).length (sortS 0).length) = _
  rw [hpubV, hgk.can, if_pos rfl]
 rw [hpk] at hp7
 rw [hpk]
 have hE7 := hE6.mono hM7
 have h7 := h6.mono hM7
 refine mvU rfl <| zx rfl <| zx rfl <| asS rfl <| asI rfl <| zq <| .s5 3 7 8 9 10 rfl rfl rfl rfl rfl <| zr <| mvP rfl <| tl_e rfl <| e_buildSlice rfl (by decide) <| fun b7 => tl_e rfl <| e_convMark rfl iI <| fun M8 fr8 hM8 hb8 => ?_
 replace hd := hd.trans hM8
 have ht8 : Bytes M8 (some ⟨b7, 0, none⟩) 1 1 [120] := Row.whole hb8 rfl (by omega)
 have hl1' : LiveSt S1 ([(k1, kp)].map (·.1)) := hl1
 have htt := sort_tot (k := 1) (by omega)
 have htot : k1.x.total.toNat = totN (sortL 1) := by rw [k1x]; show (UInt64.ofNat (totN (sortL 1))).toNat = _; rw [UInt64.toNat_ofNat', Nat.mod_eq_of_lt (totN_lt _)]
 have hnx : k1.x.next = 0 := by rw [k1x]; rfl
 obtain ⟨S2, k2, e3, k2h, hl2, _, _, _, hlen2, _⟩ := hl1'.sign hfd (i := 0) rfl (by rw [k1x]; rfl) (by rw [k1n]; decide) (by rw [htot, hnx]; show 0 < _; omega) (text := [120]) (by decide)
 have hok1 : ∀ q ∈ [(k1, kp)], OkS S1 q.1.s := fun q hq => by
  obtain rfl : q = (k1, kp) := by simpa using hq
  exact hl1.ok k1 (by simp)
 refine zca rfl (Con.to (dL d r6 S1 (stL sp d 2 mp :: mpL mp [(k1, kp)] :: (E5 ++ ((b1, .cells #[y.v, z.v] 33 (0, 0)) :: L)))) iI (sSign_spec (nm := [97]) (hg.mono hd) (hsh.mono hd) (h7.mono hM8) hw1 (by omega) (hE7.mono hM8) hok1 ht8)) ?_
 rintro _ M9 _ hM9 ⟨A9, m9, c9, r9, E9, rfl, hs9, h9, hE9, rfl⟩
 replace hd := hd.trans hM9
 rw [e3] at hs9 h9 hE9
 rw [e3]
 have hset : setP [(k1, kp)] (k2, kp) = [(k2, kp)] := by rw [setP, if_pos (by rw [k2h])]
 change KeysAt M9 d (setP [(k1, kp)] (k2, kp)) E9 at hE9
 rw [hset] at hE9
 rw [hset]
 have hw2 := signK_within hw1 (ks := [(k1, kp)]) (fun q hq => by
  obtain rfl : q = (k1, kp) := by simpa using hq
  have := (hl1.live 0 k1 rfl).n
  show k1.s.n ≤ 8
  omega) [97] [120]
 rw [e3] at hw2
 have hl2' : LiveSt S2 [k2] := hl2
 have hok2 : ∀ q ∈ [(k2, kp)], OkS S2 q.1.s := fun q hq => by
  obtain rfl : q = (k2, kp) := by simpa using hq
  exact hl2'.ok k2 (by simp)
 have hfn : findP [(k2, kp)] [98] = none := by rw [findP, if_neg (by rw [k2h]; show ¬ k1.h.name = [98]; rw [k1h]; decide)]; rfl
 have e4 : signK S2 [(k2, kp)] [98] [] = ⟨S2, [(k2, kp)], [], 11⟩ := by rw [signK, hfn]
 refine mvU rfl <| zx rfl <| zx rfl <| asS rfl <| asI rfl <| zq <| .s7 3 7 8 9 10 11 12 rfl rfl rfl rfl rfl rfl rfl <| zr <| mvP rfl <| zca rfl (sSign_spec (nm := [98]) (hg.mono hd) (hsh.mono hd) h9 hw2 (by omega) hE9 hok2 (show Bytes M9 none 0 0 [] from Row.nil _ _)) ?_
 rintro _ M10 _ hM10 ⟨A10, m10, c10, r10, E10, rfl, hs10, h10', hE10, rfl⟩
 replace hd := hd.trans hM10
 rw [e4] at hs10 h10' hE10
 rw [e4]
 refine mvU rfl <| zx rfl <| zx rfl <| asS rfl <| asI rfl <| zq <| .s8 3 7 8 9 10 11 12 14 rfl rfl rfl rfl rfl rfl rfl rfl <| zr <| mvI rfl <| tl_y rfl (y_eql rfl rfl) <| mvB rfl <| tl_set (s := 63) (u := .bool true) rfl (rfl) <| mvI rfl <| tl_y rfl (y_eql rfl rfl) <| tPt rfl rfl <| mvB rfl <| tl_set (s := 67) (u := .bool true) rfl (rfl) <| mvI rfl <| tl_y rfl (y_eql rfl rfl) <| tPt rfl rfl <| mvB rfl <| tl_set (s := 71) (u := .bool true) rfl (rfl) <| mvI rfl <| tl_y rfl (y_eql rfl rfl) <| tPt rfl rfl <| mvB rfl <| tl_set (s := 75) (u := .bool true) rfl (rfl) <| mvS rfl <| tl_e rfl <| e_buildSlice rfl (by decide) <| fun b8 => tl_e rfl <| e_convMark rfl iI <| fun M11 fr11 hM11 hb11 => ?_
 replace hd := hd.trans hM11
 have ht11 : Bytes M11 (some ⟨b8, 0, none⟩) 1 1 [120] := Row.whole hb11 rfl (by omega)
 have hfit : hfit (hpubB (sortL 1) (sortN 1) (sortS 0)) [120] (hsigB k1.h.l (atsN (k1.h.l.map tv) k1.x.next.toNat) k1.h.sn k1.h.ss [120]) := by
  rw [k1h]
  exact hss_fits hgk.can rfl rfl rfl (by decide)
 have hpl := hp7.size
 have hsl := hs9.size
 refine mvS rfl <| zca rfl (Fits_hspec (hg.mono hd) (hp7.mono (hM8.trans (hM9.trans (hM10.trans hM11)))) ht11 (hs9.mono (hM10.trans hM11)) (by rw [← hp7.size]; exact Nat.le_trans (hpubB_le hgk.can) (by omega)) (by rw [← hs9.size]; exact Nat.le_trans (hsigB_le (show canE k1.h.l k1.h.sn.length k1.h.ss.length = 0 by rw [k1h]; exact hgk.can)) (by omega))) ?_
 rintro _ M12 _ hM12 ⟨rfl, rfl⟩
 replace hd := hd.trans hM12
 rw [decide_eq_true hfit]
 refine tPt rfl rfl <| mvB rfl <| tl_set (s := 82) (u := .bool true) rfl (rfl) <| mvI rfl <| tl_y rfl (y_eql rfl rfl) <| tPt rfl rfl <| mvB rfl <| tl_set (s := 86) (u := .bool true) rfl (rfl) <| mvP rfl <| zca rfl (sNames_spec (ks := [(k2, kp)]) (by simp) (by simp)) ?_
 rintro _ M13 _ hM13 ⟨rfl, ns, A13, c13, rfl, _, _, hr13⟩
 replace hd := hd.trans hM13
 refine tLen rfl <| tl_y rfl (y_eql rfl rfl) <| tPt rfl rfl <| asB rfl <| zq <| .s1 0 rfl <| x_ret (.dropTo L iI (ret1 rfl rfl hd ⟨rfl, rfl⟩))
end
theorem parsed_two {M : Mem} {bs n1 n2 : List UInt8} {x y z x' y' z' : SlV} {e e' : Int} (h : ParsedAt M bs n1 x y z e) (h' : ParsedAt M bs n2 x' y' z' e') :
  n1 = n2 ∧ e = e' ∧ (e = 0 → goodH bs ∧ n1 = nameH bs ∧ Row M 2 x.a x.n x.c (prow (lH bs)) ∧ Bytes M y.a y.n y.c (snH bs) ∧ Bytes M z.a z.n z.c (ssH bs)) ∧
   ∃ l sn ss, Row M 2 x.a x.n x.c (prow l) ∧ Row M 2 x'.a x'.n x'.c (prow l) ∧ Bytes M y.a y.n y.c sn ∧ Bytes M y'.a y'.n y'.c sn ∧ Bytes M z.a z.n z.c ss ∧ Bytes M z'.a z'.n z'.c ss := by
 rcases h with ⟨g, rfl, rfl, h1, h2, h3⟩ | ⟨g, rfl, rfl, rfl, rfl, rfl⟩
 ·
  rcases h' with ⟨g', rfl, rfl, h1', h2', h3'⟩ | ⟨g', _⟩
  ·
   exact ⟨rfl, rfl, fun _ => ⟨g, rfl, h1, h2, h3⟩, _, _, _, h1, h1', h2, h2', h3, h3'⟩
  exact absurd g g'
 rcases h' with ⟨g', _⟩ | ⟨g', rfl, rfl, rfl, rfl, rfl⟩
 ·
  exact absurd g' g
 exact ⟨rfl, rfl, fun h => (by cases h), [], [], [], Row.nil _ _, Row.nil _ _, Row.nil _ _, Row.nil _ _, Row.nil _ _, Row.nil _ _⟩
theorem ParsedAt.mono {M M' : Mem} {bs nm : List UInt8} {x y z : SlV} {e : Int} (h : ParsedAt M bs nm x y z e) (hle : Le M M') : ParsedAt M' bs nm x y z e := by
 rcases h with ⟨g, h1, h2, h3, h4, h5⟩ | h
 ·
  exact .inl ⟨g, h1, h2, h3.mono hle, h4.mono hle, h5.mono hle⟩
 exact .inr h
section
variable {G : World} {M : Mem} {L : Own} {NA SA BA LA : Option Addr} {nl nc sl_ sc bl bc ln lc : Nat} {sn ss nm bs : List UInt8} {l : List PairV}
theorem StoreHeads_spec (hg : LmG M) (hsh : ShaG M) (hl : Row M 2 LA ln lc (prow l)) (hname : Bytes M NA nl nc sn) (hsec : Bytes M SA sl_ sc ss) (hB : Bytes M BA bl bc bs) :
  Con Tryz.prog 5 #[.string (sB nm), .slice LA ln lc, .agg #[.slice NA nl nc, .slice SA sl_ sc, .slice BA bl bc]] G M L (fun v M' L' => v = .bool true) noPanic := by
 have hnz := sB_size nm
 refine zfn Tryz.func5 rfl 188 rfl <| zr <| tl_e rfl <| e_box rfl <| fun b1 => as0 rfl <| zq <| zr2 <| zca rfl (awake22_spec hg hsh) ?_
 rintro _ M1 _ hM1 ⟨rfl, rfl⟩
 have hd := hM1
 refine tl_y rfl (y_not rfl) <| zq <| x_false rfl (rfl) <| x_skip <| .then_normal <| zr2 <| mvT rfl <| tl_y rfl (y_lenStr rfl) <| tl_y rfl (y_gtr rfl rfl) <| mvB rfl <| tl_cases (s := 29) rfl (fun hk1 => ?_) (fun hk1 => ?_)
 ·
  refine sk3 rfl rfl rfl <| tPt rfl rfl <| mvB rfl <| sk5 rfl rfl rfl rfl rfl <| tPt rfl rfl <| mvB rfl <| sk5 rfl rfl rfl rfl rfl <| tPt rfl rfl <| mvB rfl <| sk4 rfl rfl rfl rfl <| tPt rfl rfl <| zq <| .s5 0 1 5 6 53 rfl rfl rfl rfl rfl <| x_true rfl rfl <| zr <| as0 rfl <| zq <| .s1 6 rfl <| x_ret (.then_ret (ret1 rfl rfl hd rfl))
 refine mvS rfl <| tLen rfl <| tl_y rfl (y_gtr rfl rfl) <| tPf rfl rfl <| mvB rfl <| tl_cases (s := 34) rfl (fun hk2 => ?_) (fun hk2 => ?_)
 ·
  refine sk5 rfl rfl rfl rfl rfl <| tPt rfl rfl <| mvB rfl <| sk5 rfl rfl rfl rfl rfl <| tPt rfl rfl <| mvB rfl <| sk4 rfl rfl rfl rfl <| tPt rfl rfl <| zq <| .s5 0 1 5 6 53 rfl rfl rfl rfl rfl <| x_true rfl rfl <| zr <| as0 rfl <| zq <| .s1 6 rfl <| x_ret (.then_ret (ret1 rfl rfl hd rfl))
 refine tFa rfl <| tFa rfl <| tLd rfl rfl <| tLen rfl <| tl_y rfl (y_gtr rfl rfl) <| tPf rfl rfl <| mvB rfl <| tl_cases (s := 41) rfl (fun hk3 => ?_) (fun hk3 => ?_)
 ·
  refine sk5 rfl rfl rfl rfl rfl <| tPt rfl rfl <| mvB rfl <| sk4 rfl rfl rfl rfl <| tPt rfl rfl <| zq <| .s5 0 1 5 6 53 rfl rfl rfl rfl rfl <| x_true rfl rfl <| zr <| as0 rfl <| zq <| .s1 6 rfl <| x_ret (.then_ret (ret1 rfl rfl hd rfl))
 refine tFa rfl <| tFa rfl <| tLd rfl rfl <| tLen rfl <| tl_y rfl (y_gtr rfl rfl) <| tPf rfl rfl <| mvB rfl <| tl_cases (s := 48) rfl (fun hk4 => ?_) (fun hk4 => ?_)
 ·
  refine sk4 rfl rfl rfl rfl <| tPt rfl rfl <| zq <| .s5 0 1 5 6 53 rfl rfl rfl rfl rfl <| x_true rfl rfl <| zr <| as0 rfl <| zq <| .s1 6 rfl <| x_ret (.then_ret (ret1 rfl rfl hd rfl))
 refine tFa rfl <| tLd rfl rfl <| tLen rfl <| tl_y rfl (y_gtr rfl rfl) <| tPf rfl rfl <| zq <| .s5 0 1 5 6 53 rfl rfl rfl rfl rfl <| x_cond rfl (fun hc2 => ?_) (fun hc2 => ?_)
 ·
  refine zr <| as0 rfl <| zq <| .s1 6 rfl <| x_ret (.then_ret (ret1 rfl rfl hd rfl))
 have hb300 : bl ≤ 300 := by omega
 refine x_skip <| .then_normal <| zr <| mvT rfl <| mvS rfl <| tFa rfl <| tLg rfl rfl <| zca rfl (shead_spec (nm := nm) (hg.mono hd) (hl.mono hd) (hname.mono hd) (hsec.mono hd)) ?_
 rintro _ M5 _ hM5 ⟨rfl, A5, c5, rfl, h5⟩
 replace hd := hd.trans hM5
 refine mvU rfl <| zx rfl <| zx rfl <| asS rfl <| asI rfl <| zq <| .s6 0 1 5 6 7 8 rfl rfl rfl rfl rfl rfl <| zr <| mvT rfl <| mvS rfl <| tFa rfl <| tLg rfl rfl <| zca rfl (R22Head_spec (nm := nm) (hl.mono hd) (hname.mono hd) (hsec.mono hd)) ?_
 rintro _ M6 _ hM6 ⟨rfl, A6, c6, rfl, h6⟩
 replace hd := hd.trans hM6
 refine mvU rfl <| zx rfl <| zx rfl <| asS rfl <| asI rfl <| zq <| .s7 0 5 6 7 8 9 10 rfl rfl rfl rfl rfl rfl rfl <| zr <| tFa rfl <| tLd rfl rfl <| zca rfl (sParse_spec (hg.mono hd) (hB.mono hd) (by omega)) ?_
 rintro _ M7 _ hM7 ⟨rfl, n7, x, y, z, g, rfl, hp7⟩
 replace hd := hd.trans hM7
 refine mvU rfl <| zx rfl <| zx rfl <| zx rfl <| zx rfl <| tl_e rfl <| e_alloc <| fun b2 => asT rfl <| asS rfl <| tl_e rfl <| e_sT rfl rfl <| asI rfl <| zq <| .sub (F' := [(0, _), (5, _), (6, _), (7, _), (8, _), (9, _), (10, _), (11, _), (12, _), (13, _), (14, _)]) (cs11 rfl rfl rfl rfl rfl rfl rfl rfl rfl rfl rfl) <| zr <| tFa rfl <| tLd rfl rfl <| zca rfl (R22Parse_spec (hB.mono hd) (by omega)) ?_
 rintro _ M8 _ hM8 ⟨rfl, n8, x', y', z', g', rfl, hp8⟩
 replace hd := hd.trans hM8
 obtain ⟨rfl, rfl, hgood, pl, pn, ps, hx, hx', hy, hy', hz, hz'⟩ := parsed_two (hp7.mono hM8) hp8
 have hxl : pl.length = x.n := by have := hx.len; rw [prow, flat_len pcl] at this; omega
 have hxl' : pl.length = x'.n := by have := hx'.len; rw [prow, flat_len pcl] at this; omega
 replace h5 := h5.mono (hM6.trans (hM7.trans hM8))
 replace h6 := h6.mono (hM7.trans hM8)
 refine mvU rfl <| zx rfl <| zx rfl <| tl_e rfl <| e_alloc <| fun b3 => tl_e rfl <| e_sT rfl rfl <| asI rfl <| zq <| .sub (F' := [(0, _), (5, _), (6, _), (7, _), (8, _), (9, _), (10, _), (11, _), (12, _), (13, _), (14, _), (15, _), (16, _)]) (.cons rfl (.cons rfl (.cons rfl (.cons rfl (.cons rfl (.cons rfl (.cons rfl (.cons rfl (.cons rfl (.cons rfl (.cons rfl (.cons rfl (.cons rfl .nil))))))))))))) <| zr2 <| mvS rfl <| mvS rfl <| zca rfl (same_spec h5 h6) ?_
 rintro _ _ _ _ ⟨rfl, rfl, rfl⟩
 rw [decide_eq_true rfl]
 refine tl_y rfl (y_not rfl) <| mvB rfl <| tl_set (s := 88) (u := .bool false) rfl (rfl) <| mvI rfl <| mvI rfl <| tl_y rfl (y_neq rfl rfl) <| tPf rfl rfl <| mvB rfl <| tl_set (s := 93) (u := .bool false) rfl (by simp) <| mvT rfl <| tFa rfl <| tLd rfl rfl <| tl_y rfl (y_neqStr rfl rfl) <| tPf rfl rfl <| mvB rfl <| tl_set (s := 99) (u := .bool false) rfl (by simp) <| mvI rfl <| mvI rfl <| tl_y rfl (y_neq rfl rfl) <| tPf rfl rfl <| mvB rfl <| tl_set (s := 104) (u := .bool false) rfl (by simp) <| mvS rfl <| tLen rfl <| tFa rfl <| tLd rfl rfl <| tLen rfl <| tl_y rfl (y_neq rfl rfl) <| tPf rfl rfl <| mvB rfl <| tl_set (s := 112) (u := .bool false) rfl (by rw [decide_eq_false]; omega) <| tFa rfl <| tLd rfl rfl <| tFa rfl <| tFa rfl <| tLd rfl rfl <| zca rfl (same_spec hy hy') ?_
 rintro _ _ _ _ ⟨rfl, rfl, rfl⟩
 rw [decide_eq_true rfl]
 refine tl_y rfl (y_not rfl) <| tPf rfl rfl <| mvB rfl <| tl_set (s := 121) (u := .bool false) rfl (rfl) <| tFa rfl <| tLd rfl rfl <| tFa rfl <| tFa rfl <| tLd rfl rfl <| zca rfl (same_spec hz hz') ?_
 rintro _ _ _ _ ⟨rfl, rfl, rfl⟩
 rw [decide_eq_true rfl]
 refine tl_y rfl (y_not rfl) <| tPf rfl rfl <| zq <| .sub (F' := [(0, _), (5, _), (6, _), (7, _), (8, _), (11, _), (12, _), (13, _), (14, _), (15, _), (129, _)]) (cs11 rfl rfl rfl rfl rfl rfl rfl rfl rfl rfl rfl) <| x_false rfl (rfl) <| x_skip <| .then_normal <| zr2 <| as0 rfl <| zq <| x_block ?_
 refine x_loop (I := fun m' F D M9 L9 => ∃ (k : Nat), m' = pl.length - k ∧ k ≤ pl.length ∧ M8 = M9 ∧ D = [] ∧ (b3, .cells (List.toArray (keyC n7 x' y' z')) 58 (0, 0)) :: (b2, .cells #[y.v, z.v] 33 (0, 0)) :: (b1, .cells #[.slice NA nl nc, .slice SA sl_ sc, .slice BA bl bc] 52 (0, 0)) :: L = L9 ∧ F = [(0, .string (sB nm)), (5, .pointer (some ⟨b1, 0, none⟩)), (6, .bool false), (7, .slice A5 (headV nm l sn ss).length c5), (8, .int .i64 (headE nm l sn ss)), (11, .string (sB n7)), (12, x.v), (13, .pointer (some ⟨b2, 0, none⟩)), (14, .int .i64 g), (15, .pointer (some ⟨b3, 0, none⟩)), (17, .int .i64 k)]) (pl.length) (F0 := [(0, _), (5, _), (6, _), (7, _), (8, _), (11, _), (12, _), (13, _), (14, _), (15, _), (17, _)]) ?_ (cs11 rfl rfl rfl rfl rfl rfl rfl rfl rfl rfl rfl) ?_
 ·
  exact ⟨0, rfl, Nat.zero_le _, rfl, rfl, rfl, rfl⟩
 rintro m _ _ _ _ ⟨k, rfl, hk, rfl, rfl, rfl, rfl⟩
 refine zr2 <| mvI rfl <| mvS rfl <| tLen rfl <| tl_y rfl (y_lss rfl rfl) <| zq <| x_cond rfl (fun hc4 => ?_) (fun hc4 => ?_)
 ·
  have hkn : k < pl.length := by omega
  obtain ⟨p, hp⟩ : ∃ p, pl[k]? = some p := ⟨_, List.getElem?_eq_getElem (by omega)⟩
  have hk1 : k < x.n := by omega
  have hk2 : k < x'.n := by omega
  have hk9 : k < 9223372036854775807 := by have := hx.max; have := hx.le; omega
  obtain ⟨xa, xn, xc⟩ := x
  obtain ⟨xa', xn', xc'⟩ := x'
  obtain ⟨g1, o1, rfl, hcell1⟩ := hx.cellsN (by show 0 < xn; simp only at hxl; omega)
  obtain ⟨g2, o2, rfl, hcell2⟩ := hx'.cellsN (by show 0 < xn'; simp only at hxl'; omega)
  simp only at hxl hxl'
  have hc1' := fun L => hcell1 L (k * 2) 2 (by rw [prow, flat_len pcl]; omega)
  have hc2' := fun L => hcell2 L (k * 2) 2 (by rw [prow, flat_len pcl]; omega)
  simp only [prow, flat_take pcl pl k p hp] at hc1' hc2'
  refine x_skip <| .then_normal <| .sub (F' := [(0, _), (5, _), (6, _), (7, _), (8, _), (11, _), (12, _), (13, _), (14, _), (15, _), (17, _)]) (cs11 rfl rfl rfl rfl rfl rfl rfl rfl rfl rfl rfl) <| x_seq <| x_block <| x_seq <| x_draw0 10 ([(b3, .cells (List.toArray (keyC n7 ⟨some ⟨g2, o2, none⟩, xn', xc'⟩ y' z')) 58 (0, 0))]) Keeps.mem hmix rfl ?_
  refine pmS 0 rfl rfl <| pmI 1 rfl rfl <| zp 2 rfl rfl (y_indexAddr rfl rfl ⟨by omega, Int.ofNat_lt.2 hk1⟩) <| zy 3 rfl rfl (y_loadAgg rfl rfl (.at_ (hc1' _) (by omega))) <| pFa 4 rfl rfl <| pLd 5 rfl rfl rfl <| pmI 6 rfl rfl <| zp 7 rfl rfl (y_indexAddr rfl rfl ⟨by omega, Int.ofNat_lt.2 hk2⟩) <| zy 8 rfl rfl (y_loadAgg rfl rfl (.at_ (hc2' _) (by omega))) ?_
  refine zp 9 rfl rfl (y_neqS rfl rfl eqs63) <| zz <| .then_normal <| .sub (F' := [(0, _), (5, _), (6, _), (7, _), (8, _), (11, _), (12, _), (13, _), (14, _), (15, _), (17, _), (145, _)]) (cs12 rfl rfl rfl rfl rfl rfl rfl rfl rfl rfl rfl rfl) <| x_false rfl (by simp) <| x_skip <| .block_normal <| .then_normal <| x_region <| mvI rfl <| tl_y rfl (y_addI rfl rfl (by omega)) ?_
  refine asI rfl <| tl_nil <| .loop_next (m' := pl.length - (k + 1)) (by omega) (F' := [(0, _), (5, _), (6, _), (7, _), (8, _), (11, _), (12, _), (13, _), (14, _), (15, _), (17, _)]) (cs11 rfl rfl rfl rfl rfl rfl rfl rfl rfl rfl rfl) ?_
  exact ⟨k + 1, rfl, by omega, rfl, rfl, rfl, rfl⟩
 have hq := hd
 have hA := h5
 refine x_exit <| .then_exit <| .loop_exit <| .block_exit <| .then_normal <| .s8 0 5 7 8 11 12 13 14 rfl rfl rfl rfl rfl rfl rfl rfl <| zr2 <| mvI rfl <| tl_y rfl (y_eql rfl rfl) <| zq <| x_cond rfl (fun hc6 => ?_) (fun hc6 => ?_)
 ·
  obtain ⟨g1, g2, g3, g4, g5⟩ := hgood (by simpa using hc6)
  have hV : headV n7 (lH bs) (snH bs) (ssH bs) = bs := by rw [g2, headV, if_pos g1.2]; exact headB_parse g1.1
  have hE : headE n7 (lH bs) (snH bs) (ssH bs) = 0 := by rw [g2, headE, if_pos g1.2]
  refine zr <| mvT rfl <| mvS rfl <| tLg rfl rfl <| zca rfl (shead_spec (nm := n7) (hg.mono hq) g3 g4 g5) ?_
  rintro _ M12 _ hM12 ⟨rfl, A12, c12, rfl, h12⟩
  replace hq := hq.trans hM12
  replace hA := hA.mono hM12
  rw [hV] at h12
  rw [hV, hE]
  refine mvU rfl <| zx rfl <| zx rfl <| asS rfl <| asI rfl <| zq <| .s6 0 5 7 8 18 19 rfl rfl rfl rfl rfl rfl <| zr <| mvI rfl <| tl_y rfl (y_neq rfl rfl) <| mvB rfl <| tl_set (s := 157) (u := .bool false) rfl (rfl) <| mvS rfl <| tFa rfl <| tLd rfl rfl <| zca rfl (same_spec h12 (hB.mono hq)) ?_
  rintro _ _ _ _ ⟨rfl, rfl, rfl⟩
  rw [decide_eq_true rfl]
  refine tl_y rfl (y_not rfl) <| tPf rfl rfl <| zq <| .s5 0 5 7 8 163 rfl rfl rfl rfl rfl <| x_false rfl (rfl) <| x_skip <| .then_normal <| zr2 <| mvI rfl <| tl_y rfl (y_neq rfl rfl) <| zq <| x_cond rfl (fun hc8 => ?_) (fun hc8 => ?_)
  ·
   refine zr <| as0 rfl <| zq <| .s1 6 rfl <| x_ret (.then_ret (ret1 rfl rfl hq rfl))
  have hmay : mayK nm.length l sn.length ss.length := by
   apply Classical.byContradiction
   intro h
   exact hc8 (by rw [headE, if_neg h]; simp)
  have hV5 : headV nm l sn ss = headB nm l sn ss := if_pos hmay
  obtain ⟨p1, p2, p3, p4, p5⟩ := parse_headB hmay
  have hAl : (headV nm l sn ss).length ≤ 1099511627776 := by
   obtain ⟨f1, f2, f3, f4, f5⟩ := mayK_facts hmay
   have := headB_len nm l sn ss
   have := hmay.2.1
   rw [hV5]; omega
  refine x_skip <| .then_normal <| .s3 0 5 7 rfl rfl rfl <| zr <| mvS rfl <| zca rfl (sParse_spec (hg.mono hq) hA hAl) ?_
  rintro _ M13 _ hM13 ⟨rfl, n13, x13, y13, z13, g13, rfl, hp13⟩
  replace hq := hq.trans hM13
  obtain ⟨rfl, rfl, hz13⟩ : g13 = 0 ∧ n13 = nm ∧ Bytes M13 z13.a z13.n z13.c ss := by
   rcases hp13 with ⟨_, h1, h2, h3, h4, h5⟩ | ⟨h1, _⟩
   ·
    rw [hV5] at h2 h5
    rw [p2] at h2
    rw [p5] at h5
    exact ⟨h1, h2, h5⟩
   rw [hV5] at h1; exact absurd p1 h1
  refine mvU rfl <| zx rfl <| zx rfl <| zx rfl <| zx rfl <| tl_e rfl <| e_alloc <| fun b4 => asT rfl <| asS rfl <| tl_e rfl <| e_sT rfl rfl <| asI rfl <| zq <| .s5 0 5 20 22 23 rfl rfl rfl rfl rfl <| zr <| mvI rfl <| tl_y rfl (y_eql rfl rfl) <| mvB rfl <| tl_set (s := 175) (u := .bool true) rfl (rfl) <| mvT rfl <| mvT rfl <| tl_y rfl (y_eqlStr rfl rfl) <| tPt rfl rfl <| mvB rfl <| tl_set (s := 180) (u := .bool true) rfl (by simp) <| tFa rfl <| tLd rfl rfl <| tFa rfl <| tFa rfl <| tLd rfl rfl <| zca rfl (same_spec hz13 (hsec.mono hq)) ?_
  rintro _ _ _ _ ⟨rfl, rfl, rfl⟩
  rw [decide_eq_true rfl]
  refine tPt rfl rfl <| asB rfl <| zq <| .s1 6 rfl <| x_ret (ret1 rfl rfl hq rfl)
 refine x_skip <| .then_normal <| .s4 0 5 7 8 rfl rfl rfl rfl <| zr2 <| mvI rfl <| tl_y rfl (y_neq rfl rfl) <| zq <| x_cond rfl (fun hc9 => ?_) (fun hc9 => ?_)
 ·
  refine zr <| as0 rfl <| zq <| .s1 6 rfl <| x_ret (.then_ret (ret1 rfl rfl hq rfl))
 have hmay : mayK nm.length l sn.length ss.length := by
  apply Classical.byContradiction
  intro h
  exact hc9 (by rw [headE, if_neg h]; simp)
 have hV5 : headV nm l sn ss = headB nm l sn ss := if_pos hmay
 obtain ⟨p1, p2, p3, p4, p5⟩ := parse_headB hmay
 have hAl : (headV nm l sn ss).length ≤ 1099511627776 := by
  obtain ⟨f1, f2, f3, f4, f5⟩ := mayK_facts hmay
  have := headB_len nm l sn ss
  have := hmay.2.1
  rw [hV5]; omega
 refine x_skip <| .then_normal <| zr <| mvS rfl <| zca rfl (sParse_spec (hg.mono hq) hA hAl) ?_
 rintro _ M13 _ hM13 ⟨rfl, n13, x13, y13, z13, g13, rfl, hp13⟩
 replace hq := hq.trans hM13
 obtain ⟨rfl, rfl, hz13⟩ : g13 = 0 ∧ n13 = nm ∧ Bytes M13 z13.a z13.n z13.c ss := by
  rcases hp13 with ⟨_, h1, h2, h3, h4, h5⟩ | ⟨h1, _⟩
  ·
   rw [hV5] at h2 h5
   rw [p2] at h2
   rw [p5] at h5
   exact ⟨h1, h2, h5⟩
  rw [hV5] at h1; exact absurd p1 h1
 refine mvU rfl <| zx rfl <| zx rfl <| zx rfl <| zx rfl <| tl_e rfl <| e_alloc <| fun b5 => asT rfl <| asS rfl <| tl_e rfl <| e_sT rfl rfl <| asI rfl <| zq <| .s5 0 5 20 22 23 rfl rfl rfl rfl rfl <| zr <| mvI rfl <| tl_y rfl (y_eql rfl rfl) <| mvB rfl <| tl_set (s := 175) (u := .bool true) rfl (rfl) <| mvT rfl <| mvT rfl <| tl_y rfl (y_eqlStr rfl rfl) <| tPt rfl rfl <| mvB rfl <| tl_set (s := 180) (u := .bool true) rfl (by simp) <| tFa rfl <| tLd rfl rfl <| tFa rfl <| tFa rfl <| tLd rfl rfl <| zca rfl (same_spec hz13 (hsec.mono hq)) ?_
 rintro _ _ _ _ ⟨rfl, rfl, rfl⟩
 rw [decide_eq_true rfl]
 refine tPt rfl rfl <| asB rfl <| zq <| .s1 6 rfl <| x_ret (ret1 rfl rfl hq rfl)
end
end Go.Proofs.YtplkoemjffplcaaGreatDoor
namespace Go.Eng
open Go.ChangeShapes Go.WideShapes Go.ChangeAt Go.RowKit
def memOf (W : World) : Mem := fun b => W.heap[b]?
theorem st_start (W : World) : St W (memOf W) [] W := ⟨rfl, rfl, rfl, fun b o h => h, fun p hp => (by cases hp), by simp⟩
theorem below_of {W W' : World} {M' : Mem} {L' : Own} (hle : Le (memOf W) M') (h : St W M' L' W') : Below W.heap.size W W' := by
 have hb : ∀ k, k < W.heap.size → W'.heap[k]? = W.heap[k]? := fun k hk => by
  have h1 : W.heap[k]? = some W.heap[k] := Array.getElem?_eq_getElem hk
  rw [h1]
  exact h.ro k _ (hle k _ h1)
 refine ⟨h.os, h.tape, h.output, ?_, hb⟩
 rcases Nat.eq_zero_or_pos W.heap.size with h0 | h0
 ·
  omega
 have h2 := hb (W.heap.size - 1) (by omega)
 have hlt : W.heap.size - 1 < W.heap.size := by omega
 rw [Array.getElem?_eq_getElem hlt] at h2
 have h3 := (Array.getElem?_eq_some_iff.1 h2).1
 omega
theorem calls_of_con {P : Program} {f : FuncId} {args : Array Value} {W : World} (h : Con P f args W (memOf W) [] (fun v _ _ => v = .bool true) noPanic) : Calls P f args W fun e W' => e = .returned (.bool true) ∧ Below W.heap.size W W' :=
 (h.calls W (st_start W)).mono fun e W' he => by
  cases e with
  | returned v => obtain ⟨M', L', a, b, rfl⟩ := he; exact ⟨rfl, below_of a b⟩
  | panicked c => obtain ⟨M', L', a, b, c⟩ := he; exact c.elim
  | outgrown => exact he.elim
section
variable {H : Type} {enc : TypeId × Value → H} {P : Program} {W : World} {t : TypeId} {cs : List Value}
def Rd (enc : TypeId × Value → H) (P : Program) (W : World) (t : TypeId) (cs : List Value) : Prop := ∃ fuel x, DataW.trod enc P W 0 (fun _ => true) true fuel t cs = some x
theorem TI.cellsOf {d : TypeDesc} {z : Value} {s b : Nat} (h : TI P t d z s b) : P.cellsOf t = s := by
 obtain ⟨i, hi, _, hs, _⟩ := h.parts
 simp [Program.cellsOf, hi, hs]
theorem Rd.int {k : IntKind} {z : Value} {s b : Nat} [ti : TI P t (.int k) z s b] (h : Rd enc P W t cs) : ∃ n, cs = [.int k n] ∧ (Lit.int k n).wf = true := by
 obtain ⟨fuel, x, h⟩ := h
 cases fuel with
 | zero => cases h
 | succ fuel =>
  unfold DataW.trod at h
  simp only [ti.und] at h
  split at h <;> simp_all
theorem Rd.bool {z : Value} {s b : Nat} [ti : TI P t .bool z s b] (h : Rd enc P W t cs) : ∃ n, cs = [.bool n] := by
 obtain ⟨fuel, x, h⟩ := h
 cases fuel with
 | zero => cases h
 | succ fuel =>
  unfold DataW.trod at h
  simp only [ti.und] at h
  split at h <;> simp_all
theorem Rd.string {z : Value} {s b : Nat} [ti : TI P t .string z s b] (h : Rd enc P W t cs) : ∃ n : ByteArray, cs = [.string n] ∧ n.size ≤ maxLen := by
 obtain ⟨fuel, x, h⟩ := h
 cases fuel with
 | zero => cases h
 | succ fuel =>
  unfold DataW.trod at h
  simp only [ti.und] at h
  split at h <;> simp_all
theorem mapM_some {α β : Type} {f : α → Option β} : ∀ {l : List α} {r : List β}, l.mapM f = some r → ∀ a ∈ l, ∃ b, f a = some b
 | [], _, _, a, ha => by cases ha
 | x :: l, r, h, a, ha => by
  rw [List.mapM_cons] at h
  simp only [Option.bind_eq_bind, Option.bind_eq_some_iff] at h
  obtain ⟨b, hb, rs, hrs, _⟩ := h
  rcases List.mem_cons.1 ha with rfl | ha
  ·
   exact ⟨b, hb⟩
  exact mapM_some hrs a ha
theorem Rd.array {m : Nat} {e : TypeId} {z z' : Value} {s b s' b' : Nat} {d' : TypeDesc} [ti : TI P t (.array m e) z s b] [te : TI P e d' z' s' b'] (h : Rd enc P W t cs) : cs.length = s ∧ ∀ i, i < m → Rd enc P W e ((cs.drop (i * s')).take s') := by
 obtain ⟨fuel, x, h⟩ := h
 cases fuel with
 | zero => cases h
 | succ fuel =>
  unfold DataW.trod at h
  simp only [ti.und, ti.cellsOf, te.cellsOf] at h
  split at h
  ·
   rename_i hl
   obtain ⟨y, hy, _⟩ := Option.map_eq_some_iff.1 h
   refine ⟨hl, fun i hi => ?_⟩
   obtain ⟨b, hb⟩ := mapM_some hy i (List.mem_range.2 hi)
   exact ⟨fuel, b, hb⟩
  cases h
theorem Rd.struct {fs : Array Field} {z : Value} {s b : Nat} [ti : TI P t (.struct fs) z s b] (h : Rd enc P W t cs) : cs.length = s ∧ ∀ f ∈ fs.toList, Rd enc P W f.type ((cs.drop f.offset).take (P.cellsOf f.type)) := by
 obtain ⟨fuel, x, h⟩ := h
 cases fuel with
 | zero => cases h
 | succ fuel =>
  unfold DataW.trod at h
  simp only [ti.und, ti.cellsOf] at h
  split at h
  ·
   rename_i hl
   obtain ⟨y, hy, _⟩ := Option.map_eq_some_iff.1 h
   refine ⟨hl, fun f hf => ?_⟩
   obtain ⟨b, hb⟩ := mapM_some hy f hf
   exact ⟨fuel, b, hb⟩
  cases h
theorem Rd.slice {e : TypeId} {z z' : Value} {s b s' b' : Nat} {d' : TypeDesc} [ti : TI P t (.slice e) z s b] [te : TI P e d' z' s' b'] (hs : 0 < s') (h : Rd enc P W t cs) :
  ∃ A len cap vs, cs = [.slice A len cap] ∧ Row (memOf W) s' A len cap vs ∧ ∀ i, i < len → Rd enc P W e ((vs.drop (i * s')).take s') := by
 obtain ⟨fuel, x, h⟩ := h
 rcases Deep.open_slice ti.und h with ⟨rfl, _⟩ | ⟨a, len, cap, m, n, D, Pl, rfl, hb, hl, hm, hmm, _, hx⟩
 ·
  exact ⟨none, 0, 0, [], rfl, Row.nil _ _, fun i hi => by omega⟩
 rw [te.cellsOf] at hx
 have hcap : cap ≤ 9223372036854775807 := by unfold maxLen at hm; omega
 have hlm : len ≤ m := by rw [hmm]; split <;> omega
 have hx : ∀ i, i < len → ∃ cs', W.cells? 0 (a.add (i * s')) s' = some cs' ∧ DataW.trod enc P W 0 (fun _ => true) true n e cs' = some (D i, Pl i) := fun i hi => hx i (by omega)
 rcases Nat.eq_zero_or_pos len with h0 | h0
 ·
  subst h0
  exact ⟨some a, 0, cap, [], rfl, Row.empty _ _ _ hcap, fun i hi => by omega⟩
 have hspot : a.spot = none := by
  obtain ⟨cs', h1, _⟩ := hx 0 h0
  obtain ⟨_, hlen, hc⟩ := World.cells?_some h1
  have := hc 0 hs
  have hg : cs'[0]? = some (cs'[0]'(by omega)) := List.getElem?_eq_getElem (by omega)
  rw [hg] at this
  have := World.cell?_spot this
  revert this
  unfold Addr.add
  simp
 obtain ⟨bl, off, sp⟩ := a
 simp only at hspot
 subst hspot
 simp only [add_plain] at hx
 -- the cells
 have hcell : ∀ i, i < len * s' → ∃ v, W.cell? ⟨bl, off + i, none⟩ = some v := fun i hi => by
  obtain ⟨cs', h1, _⟩ := hx (i / s') (Nat.div_lt_of_lt_mul (by rwa [Nat.mul_comm]))
  obtain ⟨_, hlen, hc⟩ := World.cells?_some h1
  have hmod := Nat.mod_lt i hs
  have := hc (i % s') hmod
  rw [add_plain, Nat.add_assoc, Nat.add_comm (i / s' * s'), Nat.mod_add_div' i s', List.getElem?_eq_getElem (by omega)] at this
  exact ⟨_, this⟩
 have hblock : ∃ c T fr, W.heap[bl]? = some (.cells c T fr) := by
  obtain ⟨v, hv⟩ := hcell 0 (Nat.mul_pos h0 hs)
  unfold World.cell? at hv
  split at hv
  ·
   rename_i c T fr hh; exact ⟨c, T, fr, hh⟩
  cases hv
 obtain ⟨c, T, fr, hh⟩ := hblock
 have hc : ∀ i, i < len * s' → c[off + i]? = some (c.getD (off + i) default) ∧ W.cell? ⟨bl, off + i, none⟩ = some (c.getD (off + i) default) := fun i hi => by
  obtain ⟨v, hv⟩ := hcell i hi
  have hv' := hv
  unfold World.cell? at hv
  simp only [hh, Option.isSome_none, Bool.false_eq_true, if_false] at hv
  have : c.getD (off + i) default = v := by simp [Array.getD_eq_getD_getElem?, hv]
  rw [this]
  exact ⟨hv, hv'⟩
 refine ⟨some ⟨bl, off, none⟩, len, cap, (List.range (len * s')).map fun i => c.getD (off + i) default, rfl, ⟨by simp, hl, hcap, fun _ => ⟨bl, off, c, T, fr, rfl, hh, fun j v hj => ?_⟩⟩, fun i hi => ?_⟩
 ·
  rw [List.getElem?_map] at hj
  obtain ⟨k, hk, rfl⟩ := Option.map_eq_some_iff.1 hj
  have hlt := (List.getElem?_eq_some_iff.1 hk).1
  rw [List.getElem?_range (by simpa using hlt)] at hk
  cases hk
  exact (hc _ (by simpa using hlt)).1
 obtain ⟨cs', h1, h2⟩ := hx i hi
 have : ((((List.range (len * s')).map fun i => c.getD (off + i) default).drop (i * s')).take s') = cs' := by
  obtain ⟨_, hlen, hcc⟩ := World.cells?_some h1
  have hle : (i + 1) * s' ≤ len * s' := Nat.mul_le_mul_right _ hi
  rw [Nat.add_mul, Nat.one_mul] at hle
  apply List.ext_getElem?
  intro j
  rw [List.getElem?_take]
  split
  ·
   rename_i hj
   rw [List.getElem?_drop, List.getElem?_map, List.getElem?_range (by omega)]
   have h3 := hcc j hj
   rw [add_plain, Nat.add_assoc] at h3
   rw [← h3, (hc (i * s' + j) (by omega)).2]
   rfl
  rw [List.getElem?_eq_none (by omega)]
 rw [this]
 exact ⟨n, _, h2⟩
theorem one_of {v : Value} {base : Nat} {r : Reach} {d : TypeDesc} {z : Value} {s b : Nat} [ti : TI P t d z s b] (hd : aggD d = false) (h : Value.okWide P W r base t v) {x : Value} (hc : v.cells.toList = [x]) : v = x := by
 cases v with
 | agg c =>
  exfalso
  simp only [Value.okWide, ti.und] at h
  cases d <;> simp_all [aggD, Cell.okWide, Cell.ok]
 | _ => simpa [Value.cells] using hc
theorem agg_of {v : Value} {base : Nat} {r : Reach} {d : TypeDesc} {z : Value} {s b : Nat} [ti : TI P t d z s b] (hd : aggD d = true) (h : Value.okWide P W r base t v) : v = .agg v.cells.toList.toArray := by
 simp only [Value.okWide, ti.und] at h
 cases d <;> simp_all [aggD]
 all_goals (obtain ⟨cs, rfl, _⟩ := h; simp [Value.cells])
theorem u8_of {n : Int} (h : (Lit.int .u8 n).wf = true) : ∃ c : UInt8, n = (c.toNat : Int) := by
 simp [Lit.wf, IntKind.min, IntKind.max, IntKind.signed, IntKind.bits] at h
 exact ⟨UInt8.ofNat n.toNat, by simp [UInt8.toNat_ofNat']; omega⟩
theorem ints_of {k : IntKind} : ∀ (vs : List Value), (∀ i, i < vs.length → ∃ n, (vs.drop i).take 1 = [.int k n] ∧ (Lit.int k n).wf = true) → ∃ ts : List Int, vs = ts.map (.int k) ∧ ∀ t ∈ ts, (Lit.int k t).wf = true
 | [], _ => ⟨[], rfl, fun t h => by cases h⟩
 | v :: vs, h => by
  obtain ⟨n, h1, h2⟩ := h 0 (by simp)
  obtain ⟨ts, rfl, ht⟩ := ints_of vs (fun i hi => by simpa using h (i + 1) (by simpa using hi))
  refine ⟨n :: ts, by simpa using h1, fun t hm => ?_⟩
  rcases List.mem_cons.1 hm with rfl | hm
  ·
   exact h2
  exact ht t hm
theorem Rd.ints {k : IntKind} {e : TypeId} {z z' : Value} {s b b' : Nat} [ti : TI P t (.slice e) z s b] [te : TI P e (.int k) z' 1 b'] (h : Rd enc P W t cs) :
  ∃ (A : Option Addr) (len cap : Nat) (ts : List Int), cs = [.slice A len cap] ∧ Row (memOf W) 1 A len cap (ts.map (.int k)) ∧ ∀ n ∈ ts, (Lit.int k n).wf = true := by
 obtain ⟨A, len, cap, vs, rfl, hr, hx⟩ := h.slice (by omega)
 have hl := hr.len
 obtain ⟨ts, rfl, ht⟩ := ints_of (k := k) vs (fun i hi => by
  have := (hx i (by omega)).int
  simpa using this)
 exact ⟨A, len, cap, ts, rfl, hr, ht⟩
theorem u8s_of : ∀ (ts : List Int), (∀ t ∈ ts, (Lit.int .u8 t).wf = true) → ∃ bs : List UInt8, ts.map (Value.int .u8) = bs.map bv
 | [], _ => ⟨[], rfl⟩
 | t :: ts, h => by
  obtain ⟨c, rfl⟩ := u8_of (h t List.mem_cons_self)
  obtain ⟨bs, hb⟩ := u8s_of ts (fun x hx => h x (List.mem_cons_of_mem _ hx))
  exact ⟨c :: bs, by rw [List.map_cons, List.map_cons, hb]; rfl⟩
theorem Rd.bytes {e : TypeId} {z z' : Value} {s b b' : Nat} [ti : TI P t (.slice e) z s b] [te : TI P e (.int .u8) z' 1 b'] (h : Rd enc P W t cs) :
  ∃ (A : Option Addr) (len cap : Nat) (bs : List UInt8), cs = [.slice A len cap] ∧ Bytes (memOf W) A len cap bs := by
 obtain ⟨A, len, cap, ts, rfl, hr, ht⟩ := h.ints (k := .u8)
 obtain ⟨bs, hb⟩ := u8s_of ts ht
 exact ⟨A, len, cap, bs, rfl, by rw [Bytes, ← hb]; exact hr⟩
end
end Go.Eng
