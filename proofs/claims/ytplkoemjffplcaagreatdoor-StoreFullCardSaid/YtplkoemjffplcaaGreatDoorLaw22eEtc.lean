/-
From a contract to a statement; what came in. What is listed of package-level variables.
-/
import Derived.Test.YtplkoemjffplcaaGreatDoorStoreLive2Etc
import Derived.Test.YtplkoemjffplcaaGreatDoorEngIEtc
import Derived.WalkKit
import Derived.ProofKit
import Derived.OpenShut
import Derived.ShutString
import Derived.ChangeOld
import Derived.Below
import Derived.Deep.Slices
import Derived.LaidMore
import Derived.LaidLaws
import Derived.MakeChecks
import Derived.Stop.Joined
import Derived.SevenTiedAt
import Derived.Test.YtplkoemjffplcaaGreatDoorTypes1Etc
import Derived.Test.YtplkoemjffplcaaGreatDoorShaEtc
import Derived.Test.YtplkoemjffplcaaGreatDoorChecked
import Derived.Test.YtplkoemjffplcaaGreatDoorRows
import Derived.Test.YtplkoemjffplcaaGreatDoorOncePureEtc
import Derived.ChangeSame
import Derived.SizedLaws
import Derived.Deep.Strs
import Derived.Test.YtplkoemjffplcaaGreatDoorLaw11Etc
import Derived.Test.YtplkoemjffplcaaGreatDoorHss11Etc
import Derived.Test.YtplkoemjffplcaaGreatDoorHss7Etc
import Derived.Test.YtplkoemjffplcaaGreatDoorChainEtc
import Derived.Test.YtplkoemjffplcaaGreatDoorShakeEtc
import Derived.Test.YtplkoemjffplcaaGreatDoorEngWEtc
import Derived.Test.YtplkoemjffplcaaGreatDoorTreePureEtc
import Derived.Test.YtplkoemjffplcaaGreatDoorSlotsPureEtc
import Derived.Test.YtplkoemjffplcaaGreatDoorLms3Etc
set_option linter.all false
namespace Go.Proofs.YtplkoemjffplcaaGreatDoor
open Go Go.Eng
def moreN : List UInt8 := [109, 111, 114, 101]
theorem more_new (n : Nat) : moreN ∉ nmsF n := fun hm => by
 obtain ⟨j, hj, e⟩ := List.mem_map.1 hm
 have := congrArg List.length e
 simp [nmF, moreN] at this
section
variable {G : World} {M : Mem} {L : Own}
theorem StoreFull_spec (hg : LmG M) (hsh : ShaG M) (ax : UInt8) :
  Con Tryz.prog 4 #[.int .u8 (ax.toNat : Int)] G M L (fun v M' L' => v = .bool true) noPanic := by
 have hax := ax.toNat_lt
 obtain ⟨N, eN, hN⟩ : ∃ N : Nat, (N : Int) = 1 + (ax.toNat : Int) % 9 ∧ (1 ≤ N ∧ N ≤ 9) := ⟨1 + ax.toNat % 9, by omega, by omega⟩
 obtain ⟨n, e8n, hn⟩ : ∃ n, min N 8 = n ∧ (1 ≤ n ∧ n ≤ 8 ∧ n ≤ N) := ⟨_, rfl, by omega⟩
 have enI : (if (8 : Int) < (N : Int) then 8 else (N : Int)) = (n : Int) := by split <;> omega
 have hl0 := LiveSt.fresh (8 * N)
 have hlen : (fresh (8 * N)).sure.length = 8 * N := fresh_len (8 * N)
 have ha : areasN (fresh (8 * N)) = n := by rw [areasN, hlen]; omega
 obtain ⟨S0, hS0⟩ : ∃ S0, fresh (8 * N) = S0 := ⟨_, rfl⟩
 have hw0 : S0.within 0 := by rw [← hS0]; exact within_fresh _
 refine zfn Tryz.func4 rfl 123 rfl <| zr <| as0 rfl <| zq <| zr2 <| zca rfl (awake22_spec hg hsh) ?_
 rintro _ M1 L hM1 ⟨rfl, rfl⟩
 have hd := hM1
 refine tl_y rfl (y_not rfl) <| zq <| x_false rfl (rfl) <| x_skip <| .then_normal <| zr <| mvI rfl <| tl_y rfl (y_convI rfl (by omega)) <| tl_y rfl (y_remI rfl rfl (by omega)) <| tl_y rfl (y_addI rfl rfl (by omega)) ?_
 rw [← eN]
 refine asI rfl <| zq <| .s2 2 3 rfl rfl <| zr <| mvI rfl <| tl_y rfl (y_mulI rfl rfl (by omega)) ?_
 refine zca rfl (New_spec (8 * (N : Int))) ?_
 intro _ M2 L1 hM2 hv
 rw [if_neg (by omega)] at hv
 obtain ⟨d, ⟨r2, hd2, rfl⟩, rfl⟩ := hv
 replace hd := hd.trans hM2
 rw [show (8 * (N : Int)).toNat = 8 * N by omega] at hd2 ⊢
 refine mvU rfl <| zx rfl <| zx rfl <| asP rfl <| asI rfl <| zq <| .s3 2 3 4 rfl rfl rfl <| zr2 <| mvP rfl <| tl_y rfl (y_eqNilPtr rfl rfl) <| zq <| x_false rfl (rfl) <| x_skip <| .then_normal <| zr <| mvP rfl <| zca rfl (open_live (hg.mono hd) (hsh.mono hd) hd2 hl0 ha (by omega)) ?_
 rintro _ M3 _ hM3 ⟨sp, mp, r3, ks0, E, rfl, hks0, h3, hE, rfl⟩
 replace hd := hd.trans hM3
 obtain rfl := map_nil' hks0
 rw [hS0] at h3 hl0 hlen ha ⊢
 refine mvU rfl <| zx rfl <| zx rfl <| asP rfl <| asI rfl <| zq <| .s4 2 3 4 6 rfl rfl rfl rfl <| zr2 <| mvP rfl <| tl_y rfl (y_eqNilPtr rfl rfl) <| zq <| x_false rfl (rfl) <| x_skip <| .then_normal <| zr <| zca rfl (Sort22_spec 0 0) ?_
 rintro _ M4 _ hM4 ⟨rfl, A4, n4, c4, y, z, rfl, hr4, hy4, hz4⟩
 replace hd := hd.trans hM4
 obtain ⟨l, sn, ss, hcan, hr4, hy4, hz4⟩ : ∃ l sn ss, canE l sn.length ss.length = 0 ∧ Row M4 2 A4 n4 c4 (prow l) ∧ Bytes M4 y.a y.n y.c sn ∧ Bytes M4 z.a z.n z.c ss := ⟨_, _, _, (sort_good (k := 0) (s := 0) (x := 0) (by omega) [97] (by decide)).can, hr4, hy4, hz4⟩
 have hmay : ∀ nm : List UInt8, 1 ≤ nm.length → nm.length ≤ 16 → mayK nm.length l sn.length ss.length := fun nm h1 h2 => ⟨h1, h2, hcan⟩
 refine mvU rfl <| zx rfl <| zx rfl <| tl_e rfl <| e_alloc <| fun b1 => asS rfl <| tl_e rfl <| e_sT rfl rfl <| zq <| .s6 2 3 4 6 8 9 rfl rfl rfl rfl rfl rfl <| zr <| tl_e rfl <| e_buildSlice rfl (by decide) <| fun b2 => .pub b2 iI <| fun M5 hM5 hb5 => ?_
 replace hd := hd.trans hM5
 replace hr4 := hr4.mono hM5
 replace hy4 := hy4.mono hM5
 replace hz4 := hz4.mono hM5
 have hr := Row.whole (s := 1) (m := 8) (vs := [Value.string (sB (nmF 0)), .string (sB (nmF 1)), .string (sB (nmF 2)), .string (sB (nmF 3)), .string (sB (nmF 4)), .string (sB (nmF 5)), .string (sB (nmF 6)), .string (sB (nmF 7))]) hb5 rfl (by omega)
 have hvs : ∀ i, i < 8 → [Value.string (sB (nmF 0)), .string (sB (nmF 1)), .string (sB (nmF 2)), .string (sB (nmF 3)), .string (sB (nmF 4)), .string (sB (nmF 5)), .string (sB (nmF 6)), .string (sB (nmF 7))][i]? = some (.string (sB (nmF i))) := fun i hi => by
  rcases (by omega : i = 0 ∨ i = 1 ∨ i = 2 ∨ i = 3 ∨ i = 4 ∨ i = 5 ∨ i = 6 ∨ i = 7) with rfl | rfl | rfl | rfl | rfl | rfl | rfl | rfl <;> rfl
 have hcell : ∀ M', Le M5 M' → ∀ (L : Own) (i : Nat), i < 8 → CellAt M' L ⟨b2, 0 + i, none⟩ (.string (sB (nmF i))) := fun M' hle L i hi => by
  obtain ⟨g, o, hgo, hc⟩ := (hr.mono hle).addr (by omega)
  obtain ⟨rfl, rfl⟩ : b2 = g ∧ 0 = o := by simpa using hgo
  exact hc L i _ (hvs i hi)
 refine .to (dL d r3 S0 (stL sp d n mp :: mpL mp [] :: (E ++ ((b1, .cells #[y.v, z.v] 33 (0, 0)) :: L)))) iI <| asS rfl <| zq <| zr2 <| as0 rfl <| zq <| x_block ?_
 refine x_loop (I := fun m' F D M6 L6 => ∃ (i : Nat) (S : DS) (ks : List (KeyS × Nat)) (r : DRep) (E6 : Own), m' = n - i ∧ i ≤ n ∧ Le M5 M6 ∧ LiveSt S (ks.map (·.1)) ∧ S.within (9 * i) ∧ S.sure.length = 8 * N ∧ ks.map (·.1.h.name) = nmsF i ∧ IsDisk M6 r S ∧ KeysAt M6 d ks E6 ∧ D = [] ∧ L6 = dL d r S (stL sp d n mp :: mpL mp ks :: (E6 ++ ((b1, .cells #[y.v, z.v] 33 (0, 0)) :: L))) ∧ F = [(2, .bool false), (3, .int .i64 (N : Int)), (4, .pointer (some ⟨d, 0, none⟩)), (6, .pointer (some ⟨sp, 0, none⟩)), (8, .slice A4 n4 c4), (9, .pointer (some ⟨b1, 0, none⟩)), (10, .slice (some ⟨b2, 0, none⟩) 8 8), (11, .int .i64 (i : Int))]) (n) (F0 := [(2, _), (3, _), (4, _), (6, _), (8, _), (9, _), (10, _), (11, _)]) ?_ (cs8 rfl rfl rfl rfl rfl rfl rfl rfl) ?_
 ·
  exact ⟨0, S0, [], r3, E, rfl, Nat.zero_le _, Le.refl _, hl0, hw0, hlen, rfl, h3.mono (hM4.trans hM5), hE.mono (hM4.trans hM5), rfl, rfl, rfl⟩
 rintro m _ _ M6 _ ⟨i, S, ks, r, E6, rfl, hi, hM6, hls, hw, hls8, hnm, h6, hE6, rfl, rfl, rfl⟩
 refine zr2 <| mvI rfl <| mvI rfl <| tl_y rfl (y_min rfl rfl) ?_
 rw [enI]
 refine tl_y rfl (y_lss rfl rfl) <| zq <| x_cond rfl (fun hc4 => ?_) (fun hc4 => ?_)
 ·
  have hin : i < n := by omega
  have hkl : ks.length = i := by rw [← List.length_map (f := fun q : KeyS × Nat => q.1.h.name), hnm, nmsF_len]
  have haS : areasN S = n := by rw [areasN, hls8]; omega
  refine x_skip <| .then_normal <| .s8 2 3 4 6 8 9 10 11 rfl rfl rfl rfl rfl rfl rfl rfl <| x_seq <| x_block <| x_seq <| x_draw0 9 ((b1, .cells #[y.v, z.v] 33 (0, 0)) :: []) Keeps.mem hmix rfl <| pmP 0 rfl rfl <| pmS 1 rfl rfl <| pmI 2 rfl rfl <| zp 3 rfl rfl (y_indexAddr rfl rfl ⟨by omega, by omega⟩) ?_
  refine zy 4 rfl rfl (y_load rfl rfl (.at_ (hcell _ hM6 _ i (by omega)) (by omega))) <| pmS 5 rfl rfl <| zy 6 rfl rfl (y_lg rfl rfl) ?_
  refine ze 7 rfl rfl <| e_call' rfl (create_live (nm := nmF i) (hg.mono (hd.trans hM6)) (hsh.mono (hd.trans hM6)) h6 hw (by omega) hE6 hls haS (hr4.mono hM6) (hy4.mono hM6) (hz4.mono hM6) 1 (by decide) (hmay _ (by simp [nmF]) (by simp [nmF])) (by rw [hnm]; exact nmF_new (by omega)) (by omega)) ?_
  rintro _ M7 _ hM7 ⟨S1, q1, kp, r7, E7, rfl, q1h, q1x, q1n, hl1, hlen1, hw1, h7, hE7, rfl⟩
  refine ⟨⟨hM7, Keeps.mem⟩, ?_⟩
  refine zp 8 rfl rfl (y_neq rfl rfl) <| zz <| .then_normal <| .sub (F' := [(2, _), (3, _), (4, _), (6, _), (8, _), (9, _), (10, _), (11, _), (57, _)]) (cs9 rfl rfl rfl rfl rfl rfl rfl rfl rfl) <| x_false rfl (rfl) <| x_skip <| .block_normal <| .then_normal <| x_region <| mvI rfl <| tl_y rfl (y_addI rfl rfl (by omega)) <| asI rfl <| tl_nil <| .loop_next (m' := n - (i + 1)) (by omega) (F' := [(2, _), (3, _), (4, _), (6, _), (8, _), (9, _), (10, _), (11, _)]) (cs8 rfl rfl rfl rfl rfl rfl rfl rfl) ?_
  exact ⟨i + 1, S1, ks ++ [(q1, kp)], r7, E7, rfl, by omega, hM6.trans hM7, hl1, within_mono hw1 (by omega), by rw [hlen1]; exact hls8, by rw [List.map_append, hnm, nmsF_succ]; show nmsF i ++ [q1.h.name] = _; rw [q1h], h7, hE7, rfl, rfl, rfl⟩
 obtain rfl : i = n := by omega
 have hkl : ks.length = i := by rw [← List.length_map (f := fun q : KeyS × Nat => q.1.h.name), hnm, nmsF_len]
 have haS : areasN S = i := by rw [areasN, hls8]; omega
 refine x_exit <| .then_exit <| .loop_exit <| .block_exit <| .then_normal <| .s7 2 3 4 6 8 9 10 rfl rfl rfl rfl rfl rfl rfl <| zr2 <| mvP rfl <| mvS rfl <| tLg rfl rfl <| zca rfl (create_not (nm := moreN) (hg.mono (hd.trans hM6)) (hsh.mono (hd.trans hM6)) h6 hw (by omega) hE6 hls haS (hr4.mono hM6) (hy4.mono hM6) (hz4.mono hM6) 1 (by decide) (hmay _ (by decide) (by decide)) (.inr ⟨by rw [hnm]; exact more_new _, by omega, rfl⟩)) ?_
 rintro _ M7 _ hM7 ⟨r7, rfl, h7, rfl⟩
 have hm7 := hM6.trans hM7
 refine tl_y rfl (y_neq rfl rfl) <| mvB rfl <| tl_set (s := 63) (u := .bool false) rfl (rfl) <| mvP rfl <| mvS rfl <| tLg rfl rfl <| zca rfl (create_not (nm := nmF 0) (hg.mono (hd.trans hm7)) (hsh.mono (hd.trans hm7)) h7 hw (by omega) (hE6.mono hM7) hls haS (hr4.mono hm7) (hy4.mono hm7) (hz4.mono hm7) 1 (by decide) (hmay _ (by decide) (by decide)) (.inl ⟨by rw [hnm]; exact List.mem_map.2 ⟨0, by rw [List.mem_range]; omega, rfl⟩, rfl⟩)) ?_
 rintro _ M8 _ hM8 ⟨r8, rfl, h8, rfl⟩
 have hm8 := hm7.trans hM8
 refine tl_y rfl (y_neq rfl rfl) <| tPf rfl rfl <| zq <| .s6 2 3 4 6 10 69 rfl rfl rfl rfl rfl rfl <| x_false rfl (rfl) <| x_skip <| .then_normal <| zr <| mvP rfl <| zca rfl (open_live (hg.mono (hd.trans hm8)) (hsh.mono (hd.trans hm8)) h8 hls haS (by omega)) ?_
 rintro _ M9 _ hM9 ⟨sp', mp', r9, ks9, E9, rfl, hks9, h9, hE9, rfl⟩
 have hm9 := hm8.trans hM9
 have hnm9 : ks9.map (·.1.h.name) = nmsF i := by
  rw [← names_map, hks9, ← hnm, ← names_map, List.map_map]; rfl
 have hkl9 : ks9.length = i := by rw [← List.length_map (f := fun q : KeyS × Nat => q.1.h.name), hnm9, nmsF_len]
 refine mvU rfl <| zx rfl <| zx rfl <| asP rfl <| asI rfl <| zq <| .s5 2 3 6 10 12 rfl rfl rfl rfl rfl <| zr2 <| mvP rfl <| tl_y rfl (y_eqNilPtr rfl rfl) <| zq <| x_false rfl (rfl) <| x_skip <| .then_normal <| zr <| mvP rfl <| zca rfl (Con.to (dL d r9 S (stL sp d i mp :: mpL mp ks :: (E6 ++ (stL sp' d i mp' :: mpL mp' ks9 :: (E9 ++ ((b1, .cells #[y.v, z.v] 33 (0, 0)) :: L)))))) iI (sNames_spec (by omega) (by omega))) ?_
 rintro _ M10 _ hM10 ⟨rfl, ns, A10, c10, rfl, hp10, hs10, hr10⟩
 have hm10 := hm9.trans hM10
 have e10 : ns = (nmsF i).reverse := by
  rw [hkl] at hs10
  exact srt_eq ((hnm ▸ hp10).trans (List.reverse_perm _).symm) hs10 (nmsF_sorted (by omega)) (by rw [hp10.length_eq, List.length_map, hkl])
 rw [hkl] at hr10 ⊢
 subst e10
 refine asS rfl <| zq <| .s5 2 3 10 12 14 rfl rfl rfl rfl rfl <| zr <| mvP rfl <| zca rfl (Con.to (dL d r9 S (stL sp' d i mp' :: mpL mp' ks9 :: (E9 ++ (stL sp d i mp :: mpL mp ks :: (E6 ++ ((b1, .cells #[y.v, z.v] 33 (0, 0)) :: L)))))) iI (sNames_spec (by omega) (by omega))) ?_
 rintro _ M11 _ hM11 ⟨rfl, ns', A11, c11, rfl, hp11, hs11, hr11⟩
 have hm11 := hm10.trans hM11
 have e11 : ns' = (nmsF i).reverse := by
  rw [hkl9] at hs11
  exact srt_eq ((hnm9 ▸ hp11).trans (List.reverse_perm _).symm) hs11 (nmsF_sorted (by omega)) (by rw [hp11.length_eq, List.length_map, hkl9])
 rw [hkl9] at hr11 ⊢
 subst e11
 replace hr10 := hr10.mono hM11
 obtain ⟨g1, o1, rfl, hcell1⟩ := hr10.addr (by omega)
 obtain ⟨g2, o2, rfl, hcell2⟩ := hr11.addr (by omega)
 have hget : ∀ j, j < i → (strR (nmsF i).reverse)[j]? = some (.string (sB (nmF (i - 1 - j)))) := fun j hj => by
  rw [strR, List.getElem?_map, List.getElem?_eq_getElem (by rw [List.length_reverse, nmsF_len]; exact hj), ← nth_get (by rw [List.length_reverse, nmsF_len]; exact hj), nmsF_rev hj]; rfl
 refine asS rfl <| zq <| zr2 <| mvS rfl <| tLen rfl <| mvI rfl <| tl_y rfl (y_min rfl rfl) ?_
 rw [enI]
 refine tl_y rfl (y_neq rfl rfl) <| mvB rfl <| tl_set (s := 86) (u := .bool false) rfl (by rw [decide_eq_false]; simp) <| mvS rfl <| tLen rfl <| mvS rfl <| tLen rfl <| tl_y rfl (y_neq rfl rfl) <| tPf rfl rfl <| zq <| .s6 2 3 10 14 15 92 rfl rfl rfl rfl rfl rfl <| x_false rfl (by rw [decide_eq_false]; simp) <| x_skip <| .then_normal <| zr2 <| as0 rfl <| zq <| x_block ?_
 refine x_loop (I := fun m' F D M12 L12 => ∃ (j : Nat), m' = i - j ∧ j ≤ i ∧ M11 = M12 ∧ D = [] ∧ F = [(2, .bool false), (3, .int .i64 (N : Int)), (10, .slice (some ⟨b2, 0, none⟩) 8 8), (14, .slice (some ⟨g1, o1, none⟩) i c10), (15, .slice (some ⟨g2, o2, none⟩) i c11), (16, .int .i64 (j : Int))]) (i) (F0 := [(2, _), (3, _), (10, _), (14, _), (15, _), (16, _)]) ?_ (cs6 rfl rfl rfl rfl rfl rfl) ?_
 ·
  exact ⟨0, rfl, Nat.zero_le _, rfl, rfl, rfl⟩
 rintro m _ _ _ L12 ⟨j, rfl, hj, rfl, rfl, rfl⟩
 refine zr2 <| mvI rfl <| mvS rfl <| tLen rfl <| tl_y rfl (y_lss rfl rfl) <| zq <| x_cond rfl (fun hc9 => ?_) (fun hc9 => ?_)
 ·
  have hji : j < i := by omega
  refine x_skip <| .then_normal <| .s6 2 3 10 14 15 16 rfl rfl rfl rfl rfl rfl <| x_seq <| x_block <| x_seq <| x_draw0 24 ([]) Keeps.mem hmix rfl <| pmS 0 rfl rfl <| pmI 1 rfl rfl <| zp 2 rfl rfl (y_indexAddr rfl rfl ⟨by omega, by omega⟩) <| zy 3 rfl rfl (y_load rfl rfl (.at_ (hcell1 _ j _ (hget j hji)) (by omega))) ?_
  refine pmS 4 rfl rfl <| pmI 5 rfl rfl <| zp 6 rfl rfl (y_indexAddr rfl rfl ⟨by omega, by omega⟩) <| zy 7 rfl rfl (y_load rfl rfl (.at_ (hcell2 _ j _ (hget j hji)) (by omega))) <| zp 8 rfl rfl (y_neqStr rfl rfl) <| pmB 9 rfl rfl <| to_set (s := 108) (u := .bool false) rfl (by simp) <| pmS 10 rfl rfl <| pmI 11 rfl rfl ?_
  refine zp 12 rfl rfl (y_indexAddr rfl rfl ⟨by omega, by omega⟩) <| zy 13 rfl rfl (y_load rfl rfl (.at_ (hcell1 _ j _ (hget j hji)) (by omega))) <| pmS 14 rfl rfl <| pmI 15 rfl rfl <| zp 16 rfl rfl (y_min rfl rfl) ?_
  rw [enI]
  refine zp 17 rfl rfl (y_subI rfl rfl (by omega)) <| pmI 18 rfl rfl <| zp 19 rfl rfl (y_subI rfl rfl (by omega)) <| zp 20 rfl rfl (y_indexAddr rfl rfl ⟨by omega, by omega⟩) <| zy 21 rfl rfl (y_load rfl rfl (.at_ (hcell _ hm11 _ (i - 1 - j) (by omega)) (by omega))) <| zp 22 rfl rfl (y_neqStr rfl rfl) <| zp 23 rfl rfl (y_pickF rfl rfl) <| zz <| .then_normal <| .s7 2 3 10 14 15 16 122 rfl rfl rfl rfl rfl rfl rfl ?_
  refine x_false rfl (by simp) <| x_skip <| .block_normal <| .then_normal <| x_region <| mvI rfl <| tl_y rfl (y_addI rfl rfl (by omega)) <| asI rfl <| tl_nil <| .loop_next (m' := i - (j + 1)) (by omega) (F' := [(2, _), (3, _), (10, _), (14, _), (15, _), (16, _)]) (cs6 rfl rfl rfl rfl rfl rfl) ?_
  exact ⟨j + 1, rfl, by omega, rfl, rfl, rfl⟩
 refine x_exit <| .then_exit <| .loop_exit <| .block_exit <| .then_normal <| .s0 <| zr <| as0 rfl <| zq <| x_ret (ret1 rfl rfl (hd.trans hm11) rfl)
end
end Go.Proofs.YtplkoemjffplcaaGreatDoor
namespace Go.Eng
open Go.ChangeShapes Go.WideShapes Go.ChangeAt Go.RowKit
def memOf (W : World) : Mem := fun b => W.heap[b]?
theorem st_start (W : World) : St W (memOf W) [] W := ⟨rfl, rfl, rfl, fun b o h => h, fun p hp => (by cases hp), by simp⟩
theorem below_of {W W' : World} {M' : Mem} {L' : Own} (hle : Le (memOf W) M') (h : St W M' L' W') : Below W.heap.size W W' := by
 have hb : ∀ k, k < W.heap.size → W'.heap[k]? = W.heap[k]? := fun k hk => by
  have h1 : W.heap[k]? = some W.heap[k] := Array.getElem?_eq_getElem hk
  rw [h1]
  exact h.ro k _ (hle k _ h1)
 refine ⟨h.os, h.tape, h.output, ?_, hb⟩
 rcases Nat.eq_zero_or_pos W.heap.size with h0 | h0
 ·
  omega
 have h2 := hb (W.heap.size - 1) (by omega)
 have hlt : W.heap.size - 1 < W.heap.size := by omega
 rw [Array.getElem?_eq_getElem hlt] at h2
 have h3 := (Array.getElem?_eq_some_iff.1 h2).1
 omega
theorem calls_of_con {P : Program} {f : FuncId} {args : Array Value} {W : World} (h : Con P f args W (memOf W) [] (fun v _ _ => v = .bool true) noPanic) : Calls P f args W fun e W' => e = .returned (.bool true) ∧ Below W.heap.size W W' :=
 (h.calls W (st_start W)).mono fun e W' he => by
  cases e with
  | returned v => obtain ⟨M', L', a, b, rfl⟩ := he; exact ⟨rfl, below_of a b⟩
  | panicked c => obtain ⟨M', L', a, b, c⟩ := he; exact c.elim
  | outgrown => exact he.elim
section
variable {H : Type} {enc : TypeId × Value → H} {P : Program} {W : World} {t : TypeId} {cs : List Value}
def Rd (enc : TypeId × Value → H) (P : Program) (W : World) (t : TypeId) (cs : List Value) : Prop := ∃ fuel x, DataW.trod enc P W 0 (fun _ => true) true fuel t cs = some x
theorem TI.cellsOf {d : TypeDesc} {z : Value} {s b : Nat} (h : TI P t d z s b) : P.cellsOf t = s := by
 obtain ⟨i, hi, _, hs, _⟩ := h.parts
 simp [Program.cellsOf, hi, hs]
theorem Rd.int {k : IntKind} {z : Value} {s b : Nat} [ti : TI P t (.int k) z s b] (h : Rd enc P W t cs) : ∃ n, cs = [.int k n] ∧ (Lit.int k n).wf = true := by
 obtain ⟨fuel, x, h⟩ := h
 cases fuel with
 | zero => cases h
 | succ fuel =>
  unfold DataW.trod at h
  simp only [ti.und] at h
  split at h <;> simp_all
theorem Rd.bool {z : Value} {s b : Nat} [ti : TI P t .bool z s b] (h : Rd enc P W t cs) : ∃ n, cs = [.bool n] := by
 obtain ⟨fuel, x, h⟩ := h
 cases fuel with
 | zero => cases h
 | succ fuel =>
  unfold DataW.trod at h
  simp only [ti.und] at h
  split at h <;> simp_all
theorem Rd.string {z : Value} {s b : Nat} [ti : TI P t .string z s b] (h : Rd enc P W t cs) : ∃ n : ByteArray, cs = [.string n] ∧ n.size ≤ maxLen := by
 obtain ⟨fuel, x, h⟩ := h
 cases fuel with
 | zero => cases h
 | succ fuel =>
  unfold DataW.trod at h
  simp only [ti.und] at h
  split at h <;> simp_all
theorem mapM_some {α β : Type} {f : α → Option β} : ∀ {l : List α} {r : List β}, l.mapM f = some r → ∀ a ∈ l, ∃ b, f a = some b
 | [], _, _, a, ha => by cases ha
 | x :: l, r, h, a, ha => by
  rw [List.mapM_cons] at h
  simp only [Option.bind_eq_bind, Option.bind_eq_some_iff] at h
  obtain ⟨b, hb, rs, hrs, _⟩ := h
  rcases List.mem_cons.1 ha with rfl | ha
  ·
   exact ⟨b, hb⟩
  exact mapM_some hrs a ha
theorem Rd.array {m : Nat} {e : TypeId} {z z' : Value} {s b s' b' : Nat} {d' : TypeDesc} [ti : TI P t (.array m e) z s b] [te : TI P e d' z' s' b'] (h : Rd enc P W t cs) : cs.length = s ∧ ∀ i, i < m → Rd enc P W e ((cs.drop (i * s')).take s') := by
 obtain ⟨fuel, x, h⟩ := h
 cases fuel with
 | zero => cases h
 | succ fuel =>
  unfold DataW.trod at h
  simp only [ti.und, ti.cellsOf, te.cellsOf] at h
  split at h
  ·
   rename_i hl
   obtain ⟨y, hy, _⟩ := Option.map_eq_some_iff.1 h
   refine ⟨hl, fun i hi => ?_⟩
   obtain ⟨b, hb⟩ := mapM_some hy i (List.mem_range.2 hi)
   exact ⟨fuel, b, hb⟩
  cases h
theorem Rd.struct {fs : Array Field} {z : Value} {s b : Nat} [ti : TI P t (.struct fs) z s b] (h : Rd enc P W t cs) : cs.length = s ∧ ∀ f ∈ fs.toList, Rd enc P W f.type ((cs.drop f.offset).take (P.cellsOf f.type)) := by
 obtain ⟨fuel, x, h⟩ := h
 cases fuel with
 | zero => cases h
 | succ fuel =>
  unfold DataW.trod at h
  simp only [ti.und, ti.cellsOf] at h
  split at h
  ·
   rename_i hl
   obtain ⟨y, hy, _⟩ := Option.map_eq_some_iff.1 h
   refine ⟨hl, fun f hf => ?_⟩
   obtain ⟨b, hb⟩ := mapM_some hy f hf
   exact ⟨fuel, b, hb⟩
  cases h
theorem Rd.slice {e : TypeId} {z z' : Value} {s b s' b' : Nat} {d' : TypeDesc} [ti : TI P t (.slice e) z s b] [te : TI P e d' z' s' b'] (hs : 0 < s') (h : Rd enc P W t cs) :
  ∃ A len cap vs, cs = [.slice A len cap] ∧ Row (memOf W) s' A len cap vs ∧ ∀ i, i < len → Rd enc P W e ((vs.drop (i * s')).take s') := by
 obtain ⟨fuel, x, h⟩ := h
 rcases Deep.open_slice ti.und h with ⟨rfl, _⟩ | ⟨a, len, cap, m, n, D, Pl, rfl, hb, hl, hm, hmm, _, hx⟩
 ·
  exact ⟨none, 0, 0, [], rfl, Row.nil _ _, fun i hi => by omega⟩
 rw [te.cellsOf] at hx
 have hcap : cap ≤ 9223372036854775807 := by unfold maxLen at hm; omega
 have hlm : len ≤ m := by rw [hmm]; split <;> omega
 have hx : ∀ i, i < len → ∃ cs', W.cells? 0 (a.add (i * s')) s' = some cs' ∧ DataW.trod enc P W 0 (fun _ => true) true n e cs' = some (D i, Pl i) := fun i hi => hx i (by omega)
 rcases Nat.eq_zero_or_pos len with h0 | h0
 ·
  subst h0
  exact ⟨some a, 0, cap, [], rfl, Row.empty _ _ _ hcap, fun i hi => by omega⟩
 have hspot : a.spot = none := by
  obtain ⟨cs', h1, _⟩ := hx 0 h0
  obtain ⟨_, hlen, hc⟩ := World.cells?_some h1
  have := hc 0 hs
  have hg : cs'[0]? = some (cs'[0]'(by omega)) := List.getElem?_eq_getElem (by omega)
  rw [hg] at this
  have := World.cell?_spot this
  revert this
  unfold Addr.add
  simp
 obtain ⟨bl, off, sp⟩ := a
 simp only at hspot
 subst hspot
 simp only [add_plain] at hx
 -- the cells
 have hcell : ∀ i, i < len * s' → ∃ v, W.cell? ⟨bl, off + i, none⟩ = some v := fun i hi => by
  obtain ⟨cs', h1, _⟩ := hx (i / s') (Nat.div_lt_of_lt_mul (by rwa [Nat.mul_comm]))
  obtain ⟨_, hlen, hc⟩ := World.cells?_some h1
  have hmod := Nat.mod_lt i hs
  have := hc (i % s') hmod
  rw [add_plain, Nat.add_assoc, Nat.add_comm (i / s' * s'), Nat.mod_add_div' i s', List.getElem?_eq_getElem (by omega)] at this
  exact ⟨_, this⟩
 have hblock : ∃ c T fr, W.heap[bl]? = some (.cells c T fr) := by
  obtain ⟨v, hv⟩ := hcell 0 (Nat.mul_pos h0 hs)
  unfold World.cell? at hv
  split at hv
  ·
   rename_i c T fr hh; exact ⟨c, T, fr, hh⟩
  cases hv
 obtain ⟨c, T, fr, hh⟩ := hblock
 have hc : ∀ i, i < len * s' → c[off + i]? = some (c.getD (off + i) default) ∧ W.cell? ⟨bl, off + i, none⟩ = some (c.getD (off + i) default) := fun i hi => by
  obtain ⟨v, hv⟩ := hcell i hi
  have hv' := hv
  unfold World.cell? at hv
  simp only [hh, Option.isSome_none, Bool.false_eq_true, if_false] at hv
  have : c.getD (off + i) default = v := by simp [Array.getD_eq_getD_getElem?, hv]
  rw [this]
  exact ⟨hv, hv'⟩
 refine ⟨some ⟨bl, off, none⟩, len, cap, (List.range (len * s')).map fun i => c.getD (off + i) default, rfl, ⟨by simp, hl, hcap, fun _ => ⟨bl, off, c, T, fr, rfl, hh, fun j v hj => ?_⟩⟩, fun i hi => ?_⟩
 ·
  rw [List.getElem?_map] at hj
  obtain ⟨k, hk, rfl⟩ := Option.map_eq_some_iff.1 hj
  have hlt := (List.getElem?_eq_some_iff.1 hk).1
  rw [List.getElem?_range (by simpa using hlt)] at hk
  cases hk
  exact (hc _ (by simpa using hlt)).1
 obtain ⟨cs', h1, h2⟩ := hx i hi
 have : ((((List.range (len * s')).map fun i => c.getD (off + i) default).drop (i * s')).take s') = cs' := by
  obtain ⟨_, hlen, hcc⟩ := World.cells?_some h1
  have hle : (i + 1) * s' ≤ len * s' := Nat.mul_le_mul_right _ hi
  rw [Nat.add_mul, Nat.one_mul] at hle
  apply List.ext_getElem?
  intro j
  rw [List.getElem?_take]
  split
  ·
   rename_i hj
   rw [List.getElem?_drop, List.getElem?_map, List.getElem?_range (by omega)]
   have h3 := hcc j hj
   rw [add_plain, Nat.add_assoc] at h3
   rw [← h3, (hc (i * s' + j) (by omega)).2]
   rfl
  rw [List.getElem?_eq_none (by omega)]
 rw [this]
 exact ⟨n, _, h2⟩
theorem one_of {v : Value} {base : Nat} {r : Reach} {d : TypeDesc} {z : Value} {s b : Nat} [ti : TI P t d z s b] (hd : aggD d = false) (h : Value.okWide P W r base t v) {x : Value} (hc : v.cells.toList = [x]) : v = x := by
 cases v with
 | agg c =>
  exfalso
  simp only [Value.okWide, ti.und] at h
  cases d <;> simp_all [aggD, Cell.okWide, Cell.ok]
 | _ => simpa [Value.cells] using hc
theorem u8_of {n : Int} (h : (Lit.int .u8 n).wf = true) : ∃ c : UInt8, n = (c.toNat : Int) := by
 simp [Lit.wf, IntKind.min, IntKind.max, IntKind.signed, IntKind.bits] at h
 exact ⟨UInt8.ofNat n.toNat, by simp [UInt8.toNat_ofNat']; omega⟩
theorem ints_of {k : IntKind} : ∀ (vs : List Value), (∀ i, i < vs.length → ∃ n, (vs.drop i).take 1 = [.int k n] ∧ (Lit.int k n).wf = true) → ∃ ts : List Int, vs = ts.map (.int k) ∧ ∀ t ∈ ts, (Lit.int k t).wf = true
 | [], _ => ⟨[], rfl, fun t h => by cases h⟩
 | v :: vs, h => by
  obtain ⟨n, h1, h2⟩ := h 0 (by simp)
  obtain ⟨ts, rfl, ht⟩ := ints_of vs (fun i hi => by simpa using h (i + 1) (by simpa using hi))
  refine ⟨n :: ts, by simpa using h1, fun t hm => ?_⟩
  rcases List.mem_cons.1 hm with rfl | hm
  ·
   exact h2
  exact ht t hm
theorem Rd.ints {k : IntKind} {e : TypeId} {z z' : Value} {s b b' : Nat} [ti : TI P t (.slice e) z s b] [te : TI P e (.int k) z' 1 b'] (h : Rd enc P W t cs) :
  ∃ (A : Option Addr) (len cap : Nat) (ts : List Int), cs = [.slice A len cap] ∧ Row (memOf W) 1 A len cap (ts.map (.int k)) ∧ ∀ n ∈ ts, (Lit.int k n).wf = true := by
 obtain ⟨A, len, cap, vs, rfl, hr, hx⟩ := h.slice (by omega)
 have hl := hr.len
 obtain ⟨ts, rfl, ht⟩ := ints_of (k := k) vs (fun i hi => by
  have := (hx i (by omega)).int
  simpa using this)
 exact ⟨A, len, cap, ts, rfl, hr, ht⟩
theorem u8s_of : ∀ (ts : List Int), (∀ t ∈ ts, (Lit.int .u8 t).wf = true) → ∃ bs : List UInt8, ts.map (Value.int .u8) = bs.map bv
 | [], _ => ⟨[], rfl⟩
 | t :: ts, h => by
  obtain ⟨c, rfl⟩ := u8_of (h t List.mem_cons_self)
  obtain ⟨bs, hb⟩ := u8s_of ts (fun x hx => h x (List.mem_cons_of_mem _ hx))
  exact ⟨c :: bs, by rw [List.map_cons, List.map_cons, hb]; rfl⟩
theorem Rd.bytes {e : TypeId} {z z' : Value} {s b b' : Nat} [ti : TI P t (.slice e) z s b] [te : TI P e (.int .u8) z' 1 b'] (h : Rd enc P W t cs) :
  ∃ (A : Option Addr) (len cap : Nat) (bs : List UInt8), cs = [.slice A len cap] ∧ Bytes (memOf W) A len cap bs := by
 obtain ⟨A, len, cap, ts, rfl, hr, ht⟩ := h.ints (k := .u8)
 obtain ⟨bs, hb⟩ := u8s_of ts ht
 exact ⟨A, len, cap, bs, rfl, by rw [Bytes, ← hb]; exact hr⟩
end
section
variable {P : Program} {W : World}
theorem laidVars_mem : ∀ {laid : List (String × DataW Unit)} {ps : List MemPlace}, DataW.LaidVars P W laid ps → ∀ {n d}, (n, d) ∈ laid → ∃ g t cs fuel p, P.globalNamed n = some g ∧ (P.globals[g]?).map (·.type) = some t ∧ W.var? P n = some cs ∧ DataW.trod (fun _ => ()) P W 0 (fun _ => true) false fuel t cs.toList = some (d, p)
 | [], _, _, n, d, hm => by cases hm
 | (n0, d0) :: r, ps, h, n, d, hm => by
  obtain ⟨g, t, cs, fuel, p, q, h1, h2, h3, h4, h5, _⟩ := h
  rcases List.mem_cons.1 hm with he | hm
  ·
   cases he; exact ⟨g, t, cs, fuel, p, h1, h2, h3, h4⟩
  exact laidVars_mem h5 hm
theorem var_heap {n : String} {g : Nat} {cs : Array Value} (hg : P.globalNamed n = some g) (h : W.var? P n = some cs) : ∃ T fr, memOf W g = some (.cells cs T fr) := by
 simp only [World.var?, hg, Option.bind_some] at h
 unfold memOf
 split at h
 ·
  rename_i c t fr hb
  cases h
  exact ⟨t, fr, hb⟩
 cases h
theorem map_lits {k : IntKind} : ∀ {ns : List Int} {cs : List Value}, cs.length = ns.length → (∀ i, i < ns.length → ∃ x, (cs.drop i).take 1 = [Value.int k x] ∧ ns[i]? = some x) → cs = ns.map (.int k)
 | [], [], _, _ => rfl
 | [], _ :: _, h, _ => by simp at h
 | _ :: _, [], h, _ => by simp at h
 | n :: ns, c :: cs, h, hx => by
  obtain ⟨x, h1, h2⟩ := hx 0 (by simp)
  simp at h1 h2
  have h3 := map_lits (k := k) (ns := ns) (cs := cs) (by simpa using h) (fun i hi => by simpa using hx (i + 1) (by simpa using hi))
  rw [h1, h2, h3]
  rfl
theorem trod_ints {t e : TypeId} {m : Nat} {k : IntKind} {z z' : Value} {s b b' fuel : Nat} [ti : TI P t (.array m e) z s b] [te : TI P e (.int k) z' 1 b'] {ns : List Int} {cs : List Value} {p : List MemPlace} {sp : Nat → Bool} {held : Bool} {enc : TypeId × Value → Unit}
  (h : DataW.trod enc P W 0 sp held fuel t cs = some (.agg (ns.map fun x => .lit (.int k x)), p)) (hs : s = m) : cs = ns.map (.int k) := by
 obtain ⟨xs, m', rfl, hx, hl, hn, hel⟩ := DataW.trod_array ti.und h
 rw [ti.cellsOf, hs] at hl
 simp only [Prod.mk.injEq, DataW.agg.injEq] at hx
 have hln : ns.length = m := by rw [← hn]; simpa using congrArg List.length hx.1
 refine map_lits (by omega) (fun i hi => ?_)
 have h1 := hel i (by omega)
 rw [te.cellsOf, Nat.mul_one] at h1
 rw [List.getElem?_eq_getElem (show i < xs.length by omega)] at h1
 obtain ⟨x, e1, e2, _⟩ := DataW.trod_int te.und h1
 refine ⟨x, e1, ?_⟩
 have h2 := congrArg (fun l => l[i]?) hx.1
 simp only [List.getElem?_map] at h2
 rw [List.getElem?_eq_getElem (show i < xs.length by omega), List.getElem?_eq_getElem hi] at h2
 simp only [Option.map_some, Option.some.injEq, e2, DataW.lit.injEq, Lit.int.injEq, true_and] at h2
 rw [List.getElem?_eq_getElem hi, h2]
theorem laid_ints {laid : List (String × DataW Unit)} (h : laidMet P laid W) {n : String} {g : Nat} {t e : TypeId} {m : Nat} {k : IntKind} {z z' : Value} {s b b' : Nat} (ns : List Int) (hm : (n, DataW.agg (ns.map fun x => .lit (.int k x))) ∈ laid) (hg : P.globalNamed n = some g)
  (ht : (P.globals[g]?).map (·.type) = some t) (ti : TI P t (.array m e) z s b) (te : TI P e (.int k) z' 1 b') (hs : s = m) : ∃ T fr, memOf W g = some (.cells (ns.map (.int k)).toArray T fr) := by
 obtain ⟨ps, hv, _⟩ := h
 obtain ⟨g', t', cs, fuel, p, h1, h2, h3, h4⟩ := laidVars_mem hv hm
 obtain rfl := Option.some.inj (hg.symm.trans h1)
 obtain rfl := Option.some.inj (ht.symm.trans h2)
 obtain ⟨T, fr, hh⟩ := var_heap hg h3
 have := trod_ints h4 hs
 refine ⟨T, fr, ?_⟩
 rw [hh, ← this]
end
end Go.Eng
namespace Go.Proofs.YtplkoemjffplcaaGreatDoor
open Go Go.Eng Go.ChangeShapes Go.WideShapes Go.ChangeAt Go.RowKit
theorem own : ownKnob Tryz.prog.godebug = none := by kernel_rfl
theorem laidOut : laidOutB Tryz.prog = true := by kernel_rfl
set_option maxRecDepth 100000 in
theorem shutBool {H : Type} {enc : TypeId × Value → H} {W : World} {base : Nat} {sp : Nat → Bool} {held : Bool} (b : Bool) : DataW.Trod enc Tryz.prog W base sp held 4 (.bool b) (.lit (.bool b)) [] := ⟨1, by simp [DataW.trod, Value.cells, Tryz.underlying4]⟩
set_option maxRecDepth 100000 in
theorem byte_arg {H : Type} {enc : TypeId × Value → H} {W : World} {v : Value} {r : Reach} {b : Nat} (k : Value.okWide Tryz.prog W r b 5 v) (h : Rd enc Tryz.prog W 5 v.cells.toList) : ∃ c : UInt8, v = .int .u8 c.toNat := by
 obtain ⟨n, e, w⟩ := h.int
 obtain rfl := one_of rfl k e
 obtain ⟨c, rfl⟩ := u8_of w
 exact ⟨c, rfl⟩
section
variable {W : World}
theorem shaG_of {laid : List (String × DataW Unit)} (h : laidMet Tryz.prog laid W) (h1 : ("tearoff/sha2.k", Rows.laid_tearoff_sha2_k) ∈ laid) (h2 : ("tearoff/sha2.first", Rows.laid_tearoff_sha2_first) ∈ laid) : ShaG (memOf W) := by
 refine ⟨?_, ?_⟩
 ·
  obtain ⟨T, fr, hc⟩ := laid_ints h (kT.map fun x => (x.toNat : Int)) h1 (show Tryz.prog.globalNamed "tearoff/sha2.k" = some 6 by kernel_rfl) (show (Tryz.prog.globals[6]?).map (·.type) = some 354 by kernel_rfl) ti354 ti61 rfl
  refine ⟨_, T, fr, hc, fun j hj => ?_⟩
  rw [List.getElem?_toArray, List.map_map]
  exact get_u32' kT j hj
 obtain ⟨T, fr, hc⟩ := laid_ints h (H8.init.list.map fun x => (x.toNat : Int)) h2 (show Tryz.prog.globalNamed "tearoff/sha2.first" = some 5 by kernel_rfl) (show (Tryz.prog.globals[5]?).map (·.type) = some 344 by kernel_rfl) ti344 ti61 rfl
 exact ⟨T, fr, hc⟩
end
set_option maxRecDepth 100000
section
variable {H : Type} {enc : TypeId × Value → H} {W : World}
theorem kecG_of {laid : List (String × DataW Unit)} (h : laidMet Tryz.prog laid W) (h1 : ("tearoff/keccak.rc", Rows.laid_tearoff_keccak_rc) ∈ laid) (h2 : ("tearoff/keccak.turns", Rows.laid_tearoff_keccak_turns) ∈ laid) : KecG (memOf W) := by
 refine ⟨?_, ?_⟩
 ·
  obtain ⟨T, fr, hc⟩ := laid_ints h (kRc.map fun x => (x.toNat : Int)) h1 (show Tryz.prog.globalNamed "tearoff/keccak.rc" = some 8 by kernel_rfl) (show (Tryz.prog.globals[8]?).map (·.type) = some 368 by kernel_rfl) ti368 ti38 rfl
  refine ⟨_, T, fr, hc, fun j hj => ?_⟩
  rw [List.getElem?_toArray, List.map_map]
  exact get_u64' kRc j hj
 obtain ⟨T, fr, hc⟩ := laid_ints h (kTurns.map fun (x : Nat) => (x : Int)) h2 (show Tryz.prog.globalNamed "tearoff/keccak.turns" = some 7 by kernel_rfl) (show (Tryz.prog.globals[7]?).map (·.type) = some 367 by kernel_rfl) ti367 ti3 rfl
 refine ⟨_, T, fr, hc, fun j hj => ?_⟩
 rw [List.getElem?_toArray, List.map_map, List.getElem?_map, List.getElem?_eq_getElem (show j < kTurns.length from hj), List.getD_eq_getElem?_getD, List.getElem?_eq_getElem (show j < kTurns.length from hj)]
 rfl
theorem trod_pair {t it : TypeId} {z z' : Value} {b b' fuel : Nat} {f0 f1 : Field} {cs : List Value} {a c : Int} {p : List MemPlace} {sp : Nat → Bool} {held : Bool} {enc : TypeId × Value → Unit} [ti : TI Tryz.prog t (.struct #[f0, f1]) z 2 b] [te : TI Tryz.prog it (.int .i64) z' 1 b']
  (e0 : f0.type = it ∧ f0.offset = 0) (e1 : f1.type = it ∧ f1.offset = 1) (h : DataW.trod enc Tryz.prog W 0 sp held fuel t cs = some (.agg [.lit (.int .i64 a), .lit (.int .i64 c)], p)) : cs = [.int .i64 a, .int .i64 c] := by
 obtain ⟨y0, y1, n, hx, hl, h0, h1⟩ := trod_struct2 ti.und h
 rw [ti.cellsOf] at hl
 rw [e0.1, e0.2, te.cellsOf] at h0
 rw [e1.1, e1.2, te.cellsOf] at h1
 obtain ⟨x, g1, g2, _⟩ := DataW.trod_int te.und h0
 obtain ⟨x', g1', g2', _⟩ := DataW.trod_int te.und h1
 simp only [Prod.mk.injEq, DataW.agg.injEq, List.cons.injEq, and_true] at hx
 match cs, hl with
 | [c0, c1], _ =>
  simp at g1 g1'
  rw [g2, g2'] at hx
  simp only [DataW.lit.injEq, Lit.int.injEq, true_and] at hx
  rw [g1, g1', hx.1.1, hx.1.2]
theorem setG_of {laid : List (String × DataW Unit)} (h : laidMet Tryz.prog laid W) (h1 : ("tearoff/sets.sums", Rows.laid_tearoff_sets_sums) ∈ laid) (h2 : ("tearoff/sets.widths", Rows.laid_tearoff_sets_widths) ∈ laid) : SetG (memOf W) := by
 refine ⟨?_, ?_⟩
 ·
  obtain ⟨ps, hv, _⟩ := h
  obtain ⟨g', t', cs, fuel, p, e1, e2, e3, e4⟩ := laidVars_mem hv h1
  obtain rfl := Option.some.inj ((show Tryz.prog.globalNamed "tearoff/sets.sums" = some 3 by kernel_rfl).symm.trans e1)
  obtain rfl := Option.some.inj ((show (Tryz.prog.globals[3]?).map (·.type) = some 274 by kernel_rfl).symm.trans e2)
  obtain ⟨T, fr, hh⟩ := var_heap e1 e3
  obtain ⟨xs, m', hx', hx, hl, hn, hel⟩ := DataW.trod_array (ti274 : TI Tryz.prog 274 _ _ _ _).und e4
  rw [TI.cellsOf (ti274 : TI Tryz.prog 274 _ _ _ _)] at hl
  rw [TI.cellsOf (ti223 : TI Tryz.prog 223 _ _ _ _)] at hel
  unfold Rows.laid_tearoff_sets_sums at hx
  refine ⟨T, fr, ?_⟩
  rw [hh]
  obtain ⟨cl, rfl⟩ : ∃ cl : List Value, cs = cl.toArray := ⟨cs.toList, by simp⟩
  match xs, hn with
  | [x0, x1, x2, x3], _ =>
   simp only [Prod.mk.injEq, DataW.agg.injEq, List.map_cons, List.map_nil, List.cons.injEq, and_true] at hx
   have k0 := hel 0 (by omega)
   have k1 := hel 1 (by omega)
   have k2 := hel 2 (by omega)
   have k3 := hel 3 (by omega)
   match cl, hl with
   | [c0, c1, c2, c3, c4, c5, c6, c7], _ =>
    simp at k0 k1 k2 k3
    obtain ⟨q0, q0'⟩ := x0
    obtain ⟨q1, q1'⟩ := x1
    obtain ⟨q2, q2'⟩ := x2
    obtain ⟨q3, q3'⟩ := x3
    obtain ⟨⟨rfl, rfl, rfl, rfl⟩, _⟩ := hx
    have r0 := trod_pair (te := ti3) ⟨rfl, rfl⟩ ⟨rfl, rfl⟩ k0
    have r1 := trod_pair (te := ti3) ⟨rfl, rfl⟩ ⟨rfl, rfl⟩ k1
    have r2 := trod_pair (te := ti3) ⟨rfl, rfl⟩ ⟨rfl, rfl⟩ k2
    have r3 := trod_pair (te := ti3) ⟨rfl, rfl⟩ ⟨rfl, rfl⟩ k3
    simp only [List.cons.injEq, and_true] at r0 r1 r2 r3
    rw [r0.1, r0.2, r1.1, r1.2, r2.1, r2.2, r3.1, r3.2]
 obtain ⟨T, fr, hc⟩ := laid_ints h [1, 2, 4, 8] h2 (show Tryz.prog.globalNamed "tearoff/sets.widths" = some 0 by kernel_rfl) (show (Tryz.prog.globals[0]?).map (·.type) = some 226 by kernel_rfl) ti226 ti3 rfl
 exact ⟨T, fr, hc⟩
end
section
variable {H : Type} {enc : TypeId × Value → H} {P : Program} {W : World} {t : TypeId} {cs : List Value}
def RdW (enc : TypeId × Value → H) (P : Program) (W : World) (t : TypeId) (cs : List Value) : Prop := ∃ fuel d ps, DataW.trod enc P W 0 (fun _ => true) true fuel t cs = some (d, ps) ∧ ∀ n ∈ d.weights P t, n ≤ reachBytes
theorem RdW.rd (h : RdW enc P W t cs) : Rd enc P W t cs := let ⟨n, d, ps, h, _⟩ := h; ⟨n, _, h⟩
theorem rdW_of {v : Value} {d : DataW H} {ps : List MemPlace} (h : DataW.Trod enc P W 0 (fun _ => true) true t v d ps) (hw : ∀ n ∈ d.weights P t, n ≤ reachBytes) : RdW enc P W t v.cells.toList := let ⟨n, h⟩ := h; ⟨n, _, _, h, hw⟩
theorem rdW_at {ts : List TypeId} {ds : List (DataW H)} (hz : (DataW.weightsEach P ts ds).all (· ≤ reachBytes) = true) (j : Nat) {v : Value} {d : DataW H} {ps : List MemPlace} (ht : ts[j]? = some t) (hd : ds[j]? = some d) (h : DataW.Trod enc P W 0 (fun _ => true) true t v d ps) : RdW enc P W t v.cells.toList :=
 rdW_of h fun n hn => by simpa using List.all_eq_true.1 hz n (DataW.weights_mem_each ht hd n hn)
theorem _root_.Go.Eng.TI.bytesOf {d : TypeDesc} {z : Value} {s b : Nat} (h : TI P t d z s b) : P.bytesOf t = b := by
 obtain ⟨i, hi, _, _, hb⟩ := h.parts
 simp [Program.bytesOf, hi, hb]
theorem weightsAll_mem {e : TypeId} {d : DataW H} {n : Nat} : ∀ {ds : List (DataW H)}, d ∈ ds → n ∈ d.weights P e → n ∈ DataW.weightsAll P e ds
 | [], h, _ => by cases h
 | x :: ds, h, hn => by
  simp only [DataW.weightsAll, List.mem_append]
  rcases List.mem_cons.1 h with rfl | h
  ·
   exact .inl hn
  exact .inr (weightsAll_mem h hn)
theorem RdW.slice {e : TypeId} {z z' : Value} {s b s' b' : Nat} {d' : TypeDesc} [ti : TI P t (.slice e) z s b] [te : TI P e d' z' s' b'] (hs : 0 < s') (h : RdW enc P W t cs) :
  ∃ A len cap vs, cs = [.slice A len cap] ∧ Row (memOf W) s' A len cap vs ∧ len * b' ≤ reachBytes ∧ ∀ i, i < len → RdW enc P W e ((vs.drop (i * s')).take s') := by
 obtain ⟨fuel, d, ps, h, hwt⟩ := h
 rcases Deep.open_slice ti.und h with ⟨rfl, _⟩ | ⟨a, len, cap, m, n, D, Pl, rfl, hb, hl, hm, hmm, hdd, hx⟩
 ·
  exact ⟨none, 0, 0, [], rfl, Row.nil _ _, by simp, fun i hi => by omega⟩
 obtain ⟨rfl, rfl⟩ := Prod.mk.inj hdd
 have hsz : len * b' ≤ reachBytes := by
  have h1 := hwt ((((List.range len).map D).length + ((List.range (m - len)).map fun j => D (len + j)).length) * P.bytesOf e) (by simp [DataW.weights, ti.und])
  rw [te.bytesOf] at h1
  refine Nat.le_trans (Nat.mul_le_mul_right _ ?_) h1
  simp
 have hwe : ∀ i, i < len → ∀ k ∈ (D i).weights P e, k ≤ reachBytes := fun i hi k hk => hwt k (by
  simp only [DataW.weights, ti.und, List.mem_cons, List.mem_append]
  exact .inr (.inl (weightsAll_mem (List.mem_map.2 ⟨i, List.mem_range.2 hi, rfl⟩) hk)))
 rw [te.cellsOf] at hx
 have hcap : cap ≤ 9223372036854775807 := by unfold maxLen at hm; omega
 have hlm : len ≤ m := by rw [hmm]; split <;> omega
 have hx : ∀ i, i < len → ∃ cs', W.cells? 0 (a.add (i * s')) s' = some cs' ∧ DataW.trod enc P W 0 (fun _ => true) true n e cs' = some (D i, Pl i) := fun i hi => hx i (by omega)
 rcases Nat.eq_zero_or_pos len with h0 | h0
 ·
  subst h0
  exact ⟨some a, 0, cap, [], rfl, Row.empty _ _ _ hcap, hsz, fun i hi => by omega⟩
 have hspot : a.spot = none := by
  obtain ⟨cs', h1, _⟩ := hx 0 h0
  obtain ⟨_, hlen, hc⟩ := World.cells?_some h1
  have := hc 0 hs
  have hg : cs'[0]? = some (cs'[0]'(by omega)) := List.getElem?_eq_getElem (by omega)
  rw [hg] at this
  have := World.cell?_spot this
  revert this
  unfold Addr.add
  simp
 obtain ⟨bl, off, sp⟩ := a
 simp only at hspot
 subst hspot
 simp only [Eng.add_plain] at hx
 have hcell : ∀ i, i < len * s' → ∃ v, W.cell? ⟨bl, off + i, none⟩ = some v := fun i hi => by
  obtain ⟨cs', h1, _⟩ := hx (i / s') (Nat.div_lt_of_lt_mul (by rwa [Nat.mul_comm]))
  obtain ⟨_, hlen, hc⟩ := World.cells?_some h1
  have hmod := Nat.mod_lt i hs
  have := hc (i % s') hmod
  rw [Eng.add_plain, Nat.add_assoc, Nat.add_comm (i / s' * s'), Nat.mod_add_div' i s', List.getElem?_eq_getElem (by omega)] at this
  exact ⟨_, this⟩
 have hblock : ∃ c T fr, W.heap[bl]? = some (.cells c T fr) := by
  obtain ⟨v, hv⟩ := hcell 0 (Nat.mul_pos h0 hs)
  unfold World.cell? at hv
  split at hv
  ·
   rename_i c T fr hh; exact ⟨c, T, fr, hh⟩
  cases hv
 obtain ⟨c, T, fr, hh⟩ := hblock
 have hc : ∀ i, i < len * s' → c[off + i]? = some (c.getD (off + i) default) ∧ W.cell? ⟨bl, off + i, none⟩ = some (c.getD (off + i) default) := fun i hi => by
  obtain ⟨v, hv⟩ := hcell i hi
  have hv' := hv
  unfold World.cell? at hv
  simp only [hh, Option.isSome_none, Bool.false_eq_true, if_false] at hv
  have : c.getD (off + i) default = v := by simp [Array.getD_eq_getD_getElem?, hv]
  rw [this]
  exact ⟨hv, hv'⟩
 refine ⟨some ⟨bl, off, none⟩, len, cap, (List.range (len * s')).map fun i => c.getD (off + i) default, rfl, ⟨by simp, hl, hcap, fun _ => ⟨bl, off, c, T, fr, rfl, hh, fun j v hj => ?_⟩⟩, hsz, fun i hi => ?_⟩
 ·
  rw [List.getElem?_map] at hj
  obtain ⟨k, hk, rfl⟩ := Option.map_eq_some_iff.1 hj
  have hlt := (List.getElem?_eq_some_iff.1 hk).1
  rw [List.getElem?_range (by simpa using hlt)] at hk
  cases hk
  exact (hc _ (by simpa using hlt)).1
 obtain ⟨cs', h1, h2⟩ := hx i hi
 have : ((((List.range (len * s')).map fun i => c.getD (off + i) default).drop (i * s')).take s') = cs' := by
  obtain ⟨_, hlen, hcc⟩ := World.cells?_some h1
  have hle : (i + 1) * s' ≤ len * s' := Nat.mul_le_mul_right _ hi
  rw [Nat.add_mul, Nat.one_mul] at hle
  apply List.ext_getElem?
  intro j
  rw [List.getElem?_take]
  split
  ·
   rename_i hj
   rw [List.getElem?_drop, List.getElem?_map, List.getElem?_range (by omega)]
   have h3 := hcc j hj
   rw [Eng.add_plain, Nat.add_assoc] at h3
   rw [← h3, (hc (i * s' + j) (by omega)).2]
   rfl
  rw [List.getElem?_eq_none (by omega)]
 rw [this]
 exact ⟨n, _, _, h2, hwe i hi⟩
theorem RdW.bytes {e : TypeId} {z z' : Value} {s b : Nat} [ti : TI P t (.slice e) z s b] [te : TI P e (.int .u8) z' 1 1] (h : RdW enc P W t cs) :
  ∃ (A : Option Addr) (len cap : Nat) (bs : List UInt8), cs = [.slice A len cap] ∧ Bytes (memOf W) A len cap bs ∧ len ≤ 140737488355328 := by
 obtain ⟨A, len, cap, bs, rfl, hb⟩ := Rd.bytes (te := te) h.rd
 obtain ⟨A', len', cap', vs, e1, _, hz, _⟩ := RdW.slice (te := te) (by omega) h
 have e2 : len = len' := by simp at e1; exact e1.2.1
 exact ⟨A, len, cap, bs, rfl, hb, by unfold reachBytes at hz; omega⟩
end
section
variable {H : Type} {enc : TypeId × Value → H} {W : World}
theorem sums_of {laid : List (String × DataW Unit)} (h : laidMet Tryz.prog laid W) (h1 : ("tearoff/sets.sums", Rows.laid_tearoff_sets_sums) ∈ laid) : ∃ T fr, memOf W 3 = some (.cells #[.int .i64 0, .int .i64 32, .int .i64 0, .int .i64 24, .int .i64 1, .int .i64 32, .int .i64 1, .int .i64 24] T fr) := by
 obtain ⟨ps, hv, _⟩ := h
 obtain ⟨g', t', cs, fuel, p, e1, e2, e3, e4⟩ := laidVars_mem hv h1
 obtain rfl := Option.some.inj ((show Tryz.prog.globalNamed "tearoff/sets.sums" = some 3 by kernel_rfl).symm.trans e1)
 obtain rfl := Option.some.inj ((show (Tryz.prog.globals[3]?).map (·.type) = some 274 by kernel_rfl).symm.trans e2)
 obtain ⟨T, fr, hh⟩ := var_heap e1 e3
 obtain ⟨xs, m', hx', hx, hl, hn, hel⟩ := DataW.trod_array (ti274 : TI Tryz.prog 274 _ _ _ _).und e4
 rw [TI.cellsOf (ti274 : TI Tryz.prog 274 _ _ _ _)] at hl
 rw [TI.cellsOf (ti223 : TI Tryz.prog 223 _ _ _ _)] at hel
 unfold Rows.laid_tearoff_sets_sums at hx
 refine ⟨T, fr, ?_⟩
 rw [hh]
 obtain ⟨cl, rfl⟩ : ∃ cl : List Value, cs = cl.toArray := ⟨cs.toList, by simp⟩
 match xs, hn with
 | [x0, x1, x2, x3], _ =>
  simp only [Prod.mk.injEq, DataW.agg.injEq, List.map_cons, List.map_nil, List.cons.injEq, and_true] at hx
  have k0 := hel 0 (by omega)
  have k1 := hel 1 (by omega)
  have k2 := hel 2 (by omega)
  have k3 := hel 3 (by omega)
  match cl, hl with
  | [c0, c1, c2, c3, c4, c5, c6, c7], _ =>
   simp at k0 k1 k2 k3
   obtain ⟨q0, q0'⟩ := x0
   obtain ⟨q1, q1'⟩ := x1
   obtain ⟨q2, q2'⟩ := x2
   obtain ⟨q3, q3'⟩ := x3
   obtain ⟨⟨rfl, rfl, rfl, rfl⟩, _⟩ := hx
   have r0 := trod_pair (te := ti3) ⟨rfl, rfl⟩ ⟨rfl, rfl⟩ k0
   have r1 := trod_pair (te := ti3) ⟨rfl, rfl⟩ ⟨rfl, rfl⟩ k1
   have r2 := trod_pair (te := ti3) ⟨rfl, rfl⟩ ⟨rfl, rfl⟩ k2
   have r3 := trod_pair (te := ti3) ⟨rfl, rfl⟩ ⟨rfl, rfl⟩ k3
   simp only [List.cons.injEq, and_true] at r0 r1 r2 r3
   rw [r0.1, r0.2, r1.1, r1.2, r2.1, r2.2, r3.1, r3.2]
theorem setT_of {laid : List (String × DataW Unit)} (h : laidMet Tryz.prog laid W) (h1 : ("tearoff/sets.sums", Rows.laid_tearoff_sets_sums) ∈ laid) (h2 : ("tearoff/sets.heights", Rows.laid_tearoff_sets_heights) ∈ laid) (h3 : ("tearoff/sets.own", Rows.laid_tearoff_sets_own) ∈ laid) : SetT (memOf W) := by
 refine ⟨sums_of h h1, ?_, ?_⟩
 ·
  obtain ⟨T, fr, hc⟩ := laid_ints h [5, 10, 15, 20, 25] h2 (show Tryz.prog.globalNamed "tearoff/sets.heights" = some 2 by kernel_rfl) (show (Tryz.prog.globals[2]?).map (·.type) = some 269 by kernel_rfl) ti269 ti3 rfl
  exact ⟨T, fr, hc⟩
 obtain ⟨T, fr, hc⟩ := laid_ints h [1, 2, 3, 4] h3 (show Tryz.prog.globalNamed "tearoff/sets.own" = some 1 by kernel_rfl) (show (Tryz.prog.globals[1]?).map (·.type) = some 226 by kernel_rfl) ti226 ti3 rfl
 exact ⟨T, fr, hc⟩
end
section
variable {H : Type} {enc : TypeId × Value → H} {W : World}
theorem lmG_of {laid : List (String × DataW Unit)} (e : laid = [("tearoff/keccak.rc", Rows.laid_tearoff_keccak_rc), ("tearoff/keccak.turns", Rows.laid_tearoff_keccak_turns), ("tearoff/sets.sums", Rows.laid_tearoff_sets_sums), ("tearoff/sets.widths", Rows.laid_tearoff_sets_widths), ("tearoff/sets.heights", Rows.laid_tearoff_sets_heights), ("tearoff/sets.own", Rows.laid_tearoff_sets_own), ("tearoff/sha2.k", Rows.laid_tearoff_sha2_k), ("tearoff/sha2.first", Rows.laid_tearoff_sha2_first)]) (h : laidMet Tryz.prog laid W) : LmG (memOf W) :=
 ⟨⟨shaG_of h (by rw [e]; simp) (by rw [e]; simp), kecG_of h (by rw [e]; simp) (by rw [e]; simp), setG_of h (by rw [e]; simp) (by rw [e]; simp)⟩, setT_of h (by rw [e]; simp) (by rw [e]; simp) (by rw [e]; simp)⟩
end
section
variable {H : Type} {enc : TypeId × Value → H} {W : World}
theorem sfull_con {v0 : Value} {r : Reach} {b : Nat} (hl : laidMet Tryz.prog Rows.storeFullRow.laid W) (k0 : Value.okWide Tryz.prog W r b 5 v0)
  (h0 : RdW enc Tryz.prog W 5 v0.cells.toList) :
  Con Tryz.prog 4 #[v0] W (memOf W) [] (fun v _ _ => v = .bool true) noPanic := by
 obtain ⟨x, rfl⟩ := byte_arg k0 h0.rd
 exact StoreFull_spec (lmG_of rfl hl) (lmG_of rfl hl).ch.sha x
end
end Go.Proofs.YtplkoemjffplcaaGreatDoor
