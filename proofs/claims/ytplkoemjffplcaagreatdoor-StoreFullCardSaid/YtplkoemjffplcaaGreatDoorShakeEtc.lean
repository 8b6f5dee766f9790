/-
Contracts of functions, each proved by a walk through its code.
-/
import Derived.Test.YtplkoemjffplcaaGreatDoorEngWEtc
import Derived.Test.YtplkoemjffplcaaGreatDoorTypes1Etc
import Derived.Test.YtplkoemjffplcaaGreatDoorEngIEtc
set_option linter.all false
namespace Go.Proofs.YtplkoemjffplcaaGreatDoor
open Go Go.Eng
section
variable {G : World} {M : Mem} {L : Own}
theorem mix_spec (hg : KecG M) {s : List UInt64} (hs : s.length = 25) {A : Option Addr} {c : Nat} {bs : List UInt8} (h : Bytes M A 136 c bs) :
  Con Tryz.prog 282 #[.agg (s.map u64v).toArray, .slice A 136 c] G M L (fun r M' L' => M = M' ∧ L = L' ∧ r = .agg ((kPerm (sMix s bs 136) 24).map u64v).toArray) noPanic := by
 have hbl := h.size
 obtain ⟨g, o, rfl, hca⟩ := h.byte (by omega)
 refine zfn Tryz.func282 rfl 29 rfl <| zr <| tl_e rfl <| e_box rfl <| fun b1 => tl_e rfl <| e_alloc <| fun b2 => zq <| zr2 <| mvS rfl <| tLen rfl <| mv0 rfl <| zq <| x_block ?_
 refine x_loop (I := fun m' F D M2 L1 => ∃ k : Nat, m' = 136 - k ∧ k ≤ 136 ∧ D = [] ∧ M = M2 ∧ L1 = kB b2 (List.replicate 25 0) :: kB b1 (sMix s bs k) :: L ∧ F = [(2, .pointer (some ⟨b1, 0, none⟩)), (4, .pointer (some ⟨b2, 0, none⟩)), (7, .slice (some ⟨g, o, none⟩) 136 c), (8, .int .i64 136), (9, .int .i64 k)]) (136) (F0 := [(2, _), (4, _), (7, _), (8, _), (9, _)]) ?_ (cs5 rfl rfl rfl rfl rfl) ?_
 ·
  exact ⟨0, rfl, by omega, rfl, rfl, rfl, rfl⟩
 rintro m _ _ M2 L1 ⟨k, rfl, hk, rfl, rfl, rfl, rfl⟩
 refine zr <| tl_y rfl (y_lss rfl rfl) <| zq <| x_seq <| x_cond rfl (fun hc1 => ?_) (fun hc1 => ?_)
 ·
  refine x_skip <| .then_normal <| x_seq <| x_block <| zr <| mvI rfl <| tl_y rfl (y_indexAddr rfl rfl (by omega)) <| tl_y rfl (y_load rfl rfl (.at_ (hca _ k (by omega)) (by omega))) <| asI rfl <| asI rfl <| zq <| .s7 2 4 5 6 7 8 9 rfl rfl rfl rfl rfl rfl rfl <| x_draw 12 hmix rfl ?_
  refine pmI 0 rfl rfl <| zp 1 rfl rfl (y_quoI rfl rfl (by omega)) <| zp 2 rfl rfl (y_indexArr rfl rfl (by omega)) <| zy 3 rfl rfl (y_load rfl rfl (.at_ (.ownAt (i := k / 8) (c := (sMix s bs k).map u64v) iI (get_u64' _ _ (by rw [sMix_length]; omega))) (by omega))) <| pmI 4 rfl rfl <| zp 5 rfl rfl (y_u8u64 rfl) <| pmI 6 rfl rfl <| zp 7 rfl rfl (y_remI rfl rfl (by omega)) ?_
  refine zp 8 rfl rfl (y_mulI rfl rfl (by omega)) ?_
  rw [show (8 * ((k : Int) % 8)) = ((8 * (k % 8) : Nat) : Int) by omega]
  refine zp 9 rfl rfl (y_shl64 rfl rfl) <| zp 10 rfl rfl (y_xor64 rfl rfl) <| zp 11 rfl rfl (y_indexArr rfl rfl (by omega)) <| zt 12 rfl rfl <| e_storeAt (c := (sMix s bs k).map u64v) rfl rfl rfl iI (by rw [List.length_map, sMix_length]; omega) iI ?_
  rw [show 0 + ((k : Int) / 8).toNat * 1 = k / 8 by omega, ← List.map_set]
  refine zz <| .block_normal <| .then_normal <| .s5 2 4 7 8 9 rfl rfl rfl rfl rfl <| x_region <| tl_y rfl (y_addI rfl rfl (by omega)) <| mvI rfl <| tl_nil <| .loop_next (m' := 136 - (k + 1)) (by omega) (F' := [(2, _), (4, _), (7, _), (8, _), (9, _)]) (cs5 rfl rfl rfl rfl rfl) ?_
  exact ⟨k + 1, rfl, by omega, rfl, rfl, rfl, rfl⟩
 obtain rfl : k = 136 := by omega
 have hml : (sMix s bs 136).length = 25 := by rw [sMix_length, hs]
 refine x_exit <| .then_exit <| .loop_exit <| .block_exit <| .then_normal <| .s2 2 4 rfl rfl <| zr <| tl_y rfl (y_loadAgg rfl rfl (.whole iI (by simp [hml]))) <| zca rfl (Permute_spec hg hml) ?_
 rintro _ _ _ _ ⟨rfl, rfl, rfl⟩
 refine tl_e rfl <| e_store rfl rfl (by simp [kPerm_length, hml]) (u64_one _) iI (.whole (by simp [kPerm_length, hml])) iI <| zq <| x_ret (retRV (L' := L) (rv1 rfl (rc_cellAgg (by rfl) rfl (.whole iI (by simp [kPerm_length, hml])))) iI lR ⟨rfl, rfl, rfl⟩)
theorem give_spec {s : List UInt64} (hs : s.length = 25) :
  Con Tryz.prog 283 #[.agg (s.map u64v).toArray] G M L (fun r M' L' => L = L' ∧ ∃ A c, r = .slice A 136 c ∧ Bytes M' A 136 c (sGive s 136)) noPanic := by
 refine zfn Tryz.func283 rfl 25 rfl <| zr <| tl_e rfl <| e_box rfl <| fun b1 => as0 rfl <| zq <| zr <| tl_e rfl <| e_make1 rfl rfl (by omega) (by omega) (by omega) (by omega) <| fun b2 => asS rfl <| zq <| zr2 <| mvS rfl <| tLen rfl <| mv0 rfl <| zq <| .s4 1 3 7 8 rfl rfl rfl rfl <| x_block ?_
 refine x_loop (I := fun m' F D M2 L1 => ∃ k : Nat, m' = 136 - k ∧ k ≤ 136 ∧ D = [] ∧ M = M2 ∧ L1 = (b2, .cells ((sGive s k).map bv ++ List.replicate (136 - k) (Value.int .u8 0)).toArray 5 (0, 0)) :: kB b1 s :: L ∧ F = [(1, .pointer (some ⟨b1, 0, none⟩)), (3, .slice (some ⟨b2, 0, none⟩) 136 136), (7, .int .i64 136), (8, .int .i64 k)]) (136) (F0 := [(1, _), (3, _), (7, _), (8, _)]) ?_ (cs4 rfl rfl rfl rfl) ?_
 ·
  exact ⟨0, rfl, by omega, rfl, rfl, rfl, rfl⟩
 rintro m _ _ M2 L1 ⟨k, rfl, hk, rfl, rfl, rfl, rfl⟩
 refine zr <| tl_y rfl (y_lss rfl rfl) <| zq <| x_seq <| x_cond rfl (fun hc1 => ?_) (fun hc1 => ?_)
 ·
  refine x_skip <| .then_normal <| x_seq <| x_block <| zr <| mvI rfl <| asI rfl <| zq <| x_region <| mvS rfl <| mvI rfl <| mvI rfl <| tl_y rfl (y_quoI rfl rfl (by omega)) <| tl_y rfl (y_indexArr rfl rfl (by omega)) <| tl_y rfl (y_load rfl rfl (.at_ (.ownAt (i := k / 8) (c := s.map u64v) iI (get_u64' _ _ (by omega))) (by omega))) <| mvI rfl <| tl_y rfl (y_remI rfl rfl (by omega)) <| tl_y rfl (y_mulI rfl rfl (by omega)) ?_
  rw [show (8 * ((k : Int) % 8)) = ((8 * (k % 8) : Nat) : Int) by omega]
  refine tl_y rfl (y_shr64 rfl rfl) <| tl_y rfl (y_u64u8 rfl) <| tl_y rfl (y_indexAddr rfl rfl (by omega)) <| tl_e rfl <| e_storeAt (c := (sGive s k).map bv ++ List.replicate (136 - k) (.int .u8 0)) rfl rfl rfl iI (by simp [sGive_length]; omega) iI ?_
  have hset := set_zero (a := sGive s k) (m := 136) (v := sByte s k) (by rw [sGive_length]; omega)
  rw [sGive_length] at hset
  rw [show 0 + ((k : Int)).toNat * 1 = k by omega, show (u8v (shr64 (s.getD (k / 8) 0) (8 * (k % 8))).toUInt8) = .int .u8 ((sByte s k).toNat : Int) from rfl, hset, ← sGive_succ]
  refine tl_nil <| .block_normal <| .then_normal <| .s4 1 3 7 8 rfl rfl rfl rfl <| x_region <| tl_y rfl (y_addI rfl rfl (by omega)) <| mvI rfl <| tl_nil <| .loop_next (m' := 136 - (k + 1)) (by omega) (F' := [(1, _), (3, _), (7, _), (8, _)]) (cs4 rfl rfl rfl rfl) ?_
  exact ⟨k + 1, rfl, by omega, rfl, rfl, rfl, rfl⟩
 obtain rfl : k = 136 := by omega
 rw [show (sGive s 136).map bv ++ List.replicate (136 - 136) (Value.int .u8 0) = (sGive s 136).map bv by simp]
 refine x_exit <| .then_exit <| .loop_exit <| .block_exit <| .then_normal <| .s1 3 rfl <| zr <| mvS rfl <| asS rfl <| zq <| x_ret (.pub b2 iI (fun M1 hM1 hb2 => .dropTo L iI (ret1 rfl rfl hM1 ⟨rfl, _, _, rfl, Row.whole hb2 (by simp [sGive_length]) (by omega)⟩)))
theorem pad31_snoc (bs : List UInt8) (k : Nat) : (bs ++ 31 :: List.replicate (k + 1) 0).map bv = (bs ++ 31 :: List.replicate k 0).map bv ++ [Value.int .u8 0] := by rw [List.replicate_succ']; simp [bv]
theorem pad31_first (bs : List UInt8) : (bs ++ 31 :: List.replicate 0 0).map bv = bs.map bv ++ [Value.int .u8 31] := by simp [bv]
abbrev rdL (p : Nat) (s : List UInt64) (A : Option Addr) (n c : Nat) : Nat × Obj := (p, .cells (s.map u64v ++ [Value.slice A n c]).toArray 359 (0, 0))
theorem ShNew_spec (hg : KecG M) {A : Option Addr} {n c : Nat} {bs : List UInt8} (h : Bytes M A n c bs) (hn : n ≤ 1099511627776) :
  Con Tryz.prog 277 #[.slice A n c] G M L (fun r M' L' => ∃ p A' c', r = .pointer (some ⟨p, 0, none⟩) ∧ L' = rdL p (shk0 bs) A' 136 c' :: L ∧ Bytes M' A' 136 c' (sGive (shk0 bs) 136)) noPanic := by
 have hbl := h.size
 have hz : sPadZ bs = 135 - n % 136 := by rw [sPadZ, hbl]
 refine zfn Tryz.func277 rfl 54 rfl <| zr <| as0 rfl <| zq <| zr <| mvS rfl <| zca rfl (bytesClone_own h.in_ (by omega)) ?_
 rintro _ _ _ _ ⟨rfl, A1, c1, E1, rfl, hE1, rfl⟩
 refine tl_e rfl <| e_buildSlice rfl (by decide) <| fun b2 => .to (E1 ++ ((b2, .cells #[.int .u8 31] 5 (0, 0)) :: L)) iI <| tl_e rfl <| e_append (by decide) rfl rfl hE1 (.own iI rfl) rfl (by omega) (by omega) <| fun A2 c2 E2 hE2 => asS rfl <| zq <| .s1 3 rfl <| x_seq <| x_block ?_
 refine x_loop (I := fun m' F D M1 L1 => ∃ (k : Nat) (A2 : Option Addr) (c2 : Nat) (E2 : Own), m' = sPadZ bs - k ∧ k ≤ sPadZ bs ∧ OwnRow 5 1 A2 (n + 1 + k) c2 ((bs ++ 31 :: List.replicate k 0).map bv) E2 ∧ D = [] ∧ M = M1 ∧ DropTo L1 (E2 ++ L) ∧ F = [(3, .slice A2 (n + 1 + k) c2)]) (sPadZ bs) (F0 := [(3, _)]) ?_ (.cons rfl .nil) ?_
 ·
  exact ⟨0, A2, c2, E2, rfl, by omega, by rw [pad31_first]; exact hE2, rfl, rfl, iI, rfl⟩
 rintro m _ _ M1 L1 ⟨k, A2, c2, E2, rfl, hk, hE2, rfl, rfl, hdr, rfl⟩
 refine zr2 <| mvS rfl <| tLen rfl <| tl_y rfl (y_remI rfl rfl (by omega)) <| tl_y rfl (y_neq rfl rfl) <| zq <| x_cond rfl (fun hc1 => ?_) (fun hc1 => ?_)
 ·
  have hkn : k < sPadZ bs := by omega
  refine .dropTo _ hdr <| x_skip <| .then_normal <| .s1 3 rfl <| x_block <| x_region <| mvS rfl <| tl_e rfl <| e_buildSlice rfl (by decide) <| fun b3 => .to (E2 ++ ((b3, .cells #[.int .u8 0] 5 (0, 0)) :: L)) iI <| tl_e rfl <| e_append (by decide) rfl rfl hE2 (.own iI rfl) rfl (by omega) (by omega) <| fun A3 c3 E3 hE3 => asS rfl <| tl_nil <| .block_normal <| .loop_next (m' := sPadZ bs - (k + 1)) (by omega) (F' := [(3, _)]) (.cons rfl .nil) ?_
  exact ⟨k + 1, A3, c3, E3, rfl, by omega, by rw [pad31_snoc]; exact hE3, rfl, rfl, iI, rfl⟩
 obtain rfl : k = sPadZ bs := by omega
 refine .dropTo _ hdr ?_
 have hpl := sPad0_length bs
 have hbk := sPad_blocks bs
 rw [hbl] at hpl hbk
 change OwnRow _ _ _ _ _ ((sPad0 bs).map bv) _ at hE2
 obtain ⟨g, pre, slack, rfl, rfl⟩ := hE2.pos (by omega)
 simp only [List.cons_append, List.nil_append]
 refine x_exit <| .then_exit <| .loop_exit <| .block_exit <| .then_normal <| .s1 3 rfl <| zr <| mvS rfl <| mvS rfl <| tLen rfl <| tl_y rfl (y_subI rfl rfl (by omega)) <| tl_y rfl (y_indexAddr rfl rfl (by omega)) <| tl_y rfl (y_load rfl rfl (.at_ (.ownAt (i := pre.length + (n + sPadZ bs)) (c := pre ++ ((sPad0 bs).map bv ++ slack)) iI (get_mid (by omega))) (by omega))) <| tl_y rfl (y_xor8 (b := 128) rfl rfl) <| tl_y rfl (y_indexAddr rfl rfl (by omega)) <| tl_e rfl <| e_storeAt (c := pre ++ ((sPad0 bs).map bv ++ slack)) rfl rfl rfl iI (by simp; omega) iI ?_
 rw [show pre.length + (((n + 1 + sPadZ bs : Nat) : Int) - 1).toNat * 1 = pre.length + (n + sPadZ bs) by omega]
 have hE3 := hE2.set (n + sPadZ bs) (.int .u8 (((sPad0 bs).getD (n + sPadZ bs) 0 ^^^ 128).toNat : Int)) (by rw [List.length_map]; omega)
 rw [show ((sPad0 bs).map bv).set (n + sPadZ bs) (.int .u8 (((sPad0 bs).getD (n + sPadZ bs) 0 ^^^ 128).toNat : Int)) = (sPad bs).map bv by rw [sPad, hbl, List.map_set]; rfl] at hE3
 generalize hgo : (pre ++ ((sPad0 bs).map bv ++ slack)).set (pre.length + (n + sPadZ bs)) (.int .u8 (((sPad0 bs).getD (n + sPadZ bs) 0 ^^^ 128).toNat : Int)) = whole at hE3
 refine .eqL (L' := [(g, .cells whole.toArray 5 (0, 0))] ++ L) rfl <| .pubRow hE3 <| fun M1 hM1 hT => ?_
 rw [hbk] at hT
 rw [hbk]
 refine zq <| .s1 3 rfl <| zr <| tl_y rfl (y_build rfl) <| tl_e rfl <| e_box rfl <| fun b3 => .eqL (L' := rdL b3 (List.replicate 25 0) none 0 0 :: L) rfl <| asP rfl <| zq <| x_seq <| x_block ?_
 refine x_loop (I := fun m' F D M2 L2 => ∃ (k : Nat) (A3 : Option Addr) (c3 : Nat), m' = n / 136 + 1 - k ∧ k ≤ n / 136 + 1 ∧ Bytes M2 A3 (136 * (n / 136 + 1) - 136 * k) c3 ((sPad bs).drop (136 * k)) ∧ D = [] ∧ M1 = M2 ∧ L2 = rdL b3 (sAbs (sPad bs) k) none 0 0 :: L ∧ F = [(3, .slice A3 (136 * (n / 136 + 1) - 136 * k) c3), (4, .pointer (some ⟨b3, 0, none⟩))]) (n / 136 + 1) (F0 := [(3, _), (4, _)]) ?_ (cs2 rfl rfl) ?_
 ·
  exact ⟨0, _, _, rfl, by omega, by simpa using hT, rfl, rfl, rfl, rfl⟩
 rintro m _ _ M2 L2 ⟨k, A3, c3, rfl, hk, hA3, rfl, rfl, rfl, rfl⟩
 refine zr2 <| mvS rfl <| tLen rfl <| tl_y rfl (y_gtr rfl rfl) <| zq <| x_cond rfl (fun hc2 => ?_) (fun hc2 => ?_)
 ·
  have hkn : k < n / 136 + 1 := by omega
  have hA3l := hA3.le
  have hsl := sAbs_length (sPad bs) k
  refine x_skip <| .then_normal <| x_seq <| x_block <| x_draw 10 hmix rfl <| pmP 0 rfl rfl <| pmP 1 rfl rfl <| zp 2 rfl rfl (y_nilCheck rfl) <| pFa 3 rfl rfl <| zy 4 rfl rfl (y_loadAgg rfl rfl (.own iI (cutLeft (by simp [hsl])))) <| pmS 5 rfl rfl ?_
  refine zp 6 rfl rfl (y_slice3 rfl rfl rfl (by omega) (by omega)) ?_
  refine ze 7 rfl rfl <| e_call' rfl (mix_spec (hg.mono hM1) hsl (Bytes.take3 hA3 136 136 (by omega) (by omega) (by omega))) ?_
  rintro _ _ _ _ ⟨rfl, rfl, rfl⟩
  refine kp ?_
  refine zp 8 rfl rfl (y_nilCheck rfl) <| pFa 9 rfl rfl <| zt 10 rfl rfl <| e_store rfl rfl (by simp [kPerm_length, sMix_length, hsl]) (u64_one _) iI (putLeft (by simp [kPerm_length, sMix_length, hsl])) iI <| zz <| .block_normal <| .then_normal <| .s2 3 4 rfl rfl <| x_region <| mvS rfl <| mvS rfl <| tLen rfl <| mvS rfl ?_
  refine tLen rfl <| tl_y rfl (y_slice3L rfl rfl rfl rfl (by omega) (by omega)) <| asS rfl <| tl_nil <| .loop_next (m' := n / 136 + 1 - (k + 1)) (by omega) (F' := [(3, _), (4, _)]) (cs2 rfl rfl) ?_
  exact ⟨k + 1, _, _, rfl, by omega, by
   have h1 := Bytes.sub3 hA3 136 (136 * (n / 136 + 1) - 136 * k) (by omega) (Nat.le_refl _) (by omega)
   rw [List.drop_drop] at h1
   rw [show 136 * (k + 1) = 136 * k + 136 by omega, ← Nat.sub_sub]
   exact h1, rfl, rfl, rfl, by rw [show 136 * (k + 1) = 136 * k + 136 by omega, ← Nat.sub_sub]; rfl⟩
 obtain rfl : k = n / 136 + 1 := by omega
 have hsl := sAbs_length (sPad bs) (n / 136 + 1)
 refine x_exit <| .then_exit <| .loop_exit <| .block_exit <| .then_normal <| .s1 4 rfl <| zr <| mvP rfl <| mvP rfl <| zc rfl <| tFa rfl <| tl_y rfl (y_loadAgg rfl rfl (.own iI (cutLeft (by simp [hsl])))) <| zca rfl (give_spec hsl) ?_
 rintro _ M3 _ hM3 ⟨rfl, A4, c4, rfl, hA4⟩
 refine zc rfl <| tFa rfl <| tl_e rfl <| e_store rfl rfl (by rfl) (by rfl) iI (putRight (n := 25) (by simp [hsl]) iI) iI <| zq <| .s1 4 rfl <| zr <| mvP rfl <| asP rfl <| zq <| x_ret (ret1 rfl rfl (hM1.trans hM3) ⟨_, A4, c4, rfl, by rw [shk0, hbl], by rw [shk0, hbl]; exact hA4⟩)
theorem ShRead_spec {p : Nat} {s : List UInt64} (hs : s.length = 25) {A : Option Addr} {c : Nat} {bs : List UInt8} (h : Bytes M A 136 c bs) (n : Nat) (hn : n ≤ 136) :
  Con Tryz.prog 278 #[.pointer (some ⟨p, 0, none⟩), .int .i64 (n : Int)] G M (rdL p s A 136 c :: L) (fun r M' L' => ∃ A' c', r = .slice A' n c' ∧ Bytes M' A' n c' (bs.take n) ∧ L' = L) noPanic := by
 have hbl := h.size
 have hcl := h.le
 refine zfn Tryz.func278 rfl 63 rfl <| zr <| as0 rfl <| zq <| zr2 <| mvI rfl <| tl_y rfl (y_lss rfl rfl) <| mvB rfl <| tl_set (s := 9) (u := .bool false) rfl (by rw [decide_eq_false]; omega) <| mvI rfl <| tl_y rfl (y_gtr rfl rfl) <| tPf rfl rfl <| zq <| .s4 0 1 4 12 rfl rfl rfl rfl <| x_false rfl (by rw [decide_eq_false]; omega) <| x_skip <| .then_normal <| zr <| mvI rfl <| tl_e rfl <| e_make1 rfl rfl (by omega) (by omega) (by omega) (by omega) <| fun b1 => asS rfl <| zq <| x_block ?_
 refine x_loop (I := fun m' F D M2 L2 => m' = 0 ∧ D = [] ∧ M = M2 ∧ L2 = (b1, .cells (List.replicate n (Value.int .u8 0)).toArray 5 (0, 0)) :: rdL p s A 136 c :: L ∧ F = [(0, .pointer (some ⟨p, 0, none⟩)), (1, .int .i64 n), (4, .slice none 0 0), (5, .slice (some ⟨b1, 0, none⟩) 0 n)]) (0) (F0 := [(0, _), (1, _), (4, _), (5, _)]) ?_ (cs4 rfl rfl rfl rfl) ?_
 ·
  exact ⟨rfl, rfl, rfl, rfl, rfl⟩
 rintro m _ _ M2 L2 ⟨rfl, rfl, rfl, rfl, rfl⟩
 refine x_block <| zr <| mvI rfl <| mvS rfl <| tLen rfl <| tl_y rfl (y_subI rfl rfl (by omega)) <| mvP rfl <| zc rfl <| tFa rfl <| tl_y rfl (y_load rfl rfl (.at_ (.ownAt (i := 25) (c := s.map u64v ++ [Value.slice A 136 c]) iI (getRight (i := 0) (by simp [hs]))) (by omega))) <| tLen rfl <| tl_y rfl (y_min rfl rfl) ?_
 rw [show (if ((136 : Nat) : Int) < (n : Int) - ((0 : Nat) : Int) then ((136 : Nat) : Int) else (n : Int) - ((0 : Nat) : Int)) = (n : Int) by rw [if_neg (by omega)]; omega]
 refine asI rfl <| zq <| .s5 0 1 4 5 6 rfl rfl rfl rfl rfl <| x_seq <| x_draw0 18 ([rdL p s A 136 c]) Keeps.mem hmix rfl <| pmP 0 rfl rfl <| pmS 1 rfl rfl <| pmP 2 rfl rfl <| zp 3 rfl rfl (y_nilCheck rfl) <| pFa 4 rfl rfl ?_
 refine zy 5 rfl rfl (y_load rfl rfl (.at_ (.ownAt (i := 25) (c := s.map u64v ++ [Value.slice A 136 c]) iI (getRight (i := 0) (by simp [hs]))) (by omega))) <| pmI 6 rfl rfl <| zp 7 rfl rfl (y_sliceH rfl rfl (by omega) (by omega)) <| pmP 9 rfl rfl <| zp 10 rfl rfl (y_nilCheck rfl) <| pFa 11 rfl rfl <| zy 12 rfl rfl (y_load rfl rfl (.at_ (.ownAt (i := 25) (c := s.map u64v ++ [Value.slice A 136 c]) iI (getRight (i := 0) (by simp [hs]))) (by omega))) ?_
 refine pmI 13 rfl rfl <| zp 14 rfl rfl (y_sliceL rfl rfl (by omega)) <| ze 8 rfl rfl <| e_append1 (by decide) rfl rfl (OwnRow.made0 (n := n) (vs := List.replicate n (Value.int .u8 0)) (by simp) (by omega)) (.row (Bytes.take h n hn)) (all_one_bv _) (by omega) (by omega) <| fun A2 c2 E2 hE2 => ?_
 rw [Nat.zero_add, List.nil_append] at hE2
 rw [Nat.zero_add]
 refine kp ?_
 refine paS 15 rfl rfl <| zp 16 rfl rfl (y_nilCheck rfl) <| pFa 17 rfl rfl <| zt 18 rfl rfl <| e_store rfl rfl (by rfl) (by rfl) iI (putRight (n := 25) (by simp [hs]) iI) iI <| zz <| .then_normal <| .s4 0 1 4 5 rfl rfl rfl rfl <| zr2 <| mvS rfl <| tLen rfl <| mvI rfl ?_
 refine tl_y rfl (y_eql rfl rfl) <| zq <| x_true rfl (by simp) <| zr <| mvS rfl <| asS rfl <| zq <| .s4 0 1 4 5 rfl rfl rfl rfl <| x_ret (.then_ret (.block_ret (.loop_ret (.block_ret (.pubRow hE2 (fun M' hM' hr => .dropTo L iI (ret1 rfl rfl hM' ⟨_, _, rfl, hr, rfl⟩)))))))
theorem ShSum_spec (hg : KecG M) {A : Option Addr} {m c : Nat} {bs : List UInt8} (h : Bytes M A m c bs) (hm : m ≤ 1099511627776) (n : Nat) (hn : n ≤ 136) :
  Con Tryz.prog 273 #[.slice A m c, .int .i64 (n : Int)] G M L (fun r M' L' => ∃ A' c', r = .slice A' n c' ∧ Bytes M' A' n c' (shk bs n) ∧ L' = L) noPanic := by
 refine zfn Tryz.func273 rfl 9 rfl <| zr <| as0 rfl <| zq <| zr <| mvS rfl <| zca rfl (ShNew_spec hg h hm) ?_
 rintro _ M1 _ hM1 ⟨p, A1, c1, rfl, rfl, hA1⟩
 refine mvI rfl <| zca rfl (ShRead_spec (sAbs_length _ _) hA1 n hn) ?_
 rintro _ M2 _ hM2 ⟨A2, c2, rfl, hA2, rfl⟩
 refine asS rfl <| zq <| .s1 4 rfl <| x_ret (ret1 rfl rfl (hM1.trans hM2) ⟨_, _, rfl, hA2, rfl⟩)
end
section
variable {G : World} {M : Mem} {L : Own}
theorem shr_byte (v : UInt64) (k : Nat) : (shr64 v (8 * k)).toUInt8 = UInt8.ofNat (v.toNat / 256 ^ k % 256) := by
 have hv := v.toNat_lt
 apply UInt8.toNat_inj.1
 rw [UInt64.toNat_toUInt8, shr64, UInt64.toNat_ofNat', UInt8.toNat_ofNat', Nat.pow_mul]
 have : v.toNat / (2 ^ 8) ^ k ≤ v.toNat := Nat.div_le_self _ _
 rw [show (2 : Nat) ^ 8 = 256 by rfl] at this ⊢
 omega
theorem Put_spec (v : UInt64) (n : Int) :
  Con Tryz.prog 52 #[.int .u64 (v.toNat : Int), .int .i64 n] G M L (fun r M' L' => L = L' ∧ if 0 ≤ n ∧ n ≤ 8 then ∃ A c, r = .slice A n.toNat c ∧ Bytes M' A n.toNat c (putB v.toNat n.toNat) else r = .slice none 0 0) noPanic := by
 refine zfn Tryz.func52 rfl 32 rfl <| zr <| as0 rfl <| zq <| zr2 <| mvI rfl <| tl_y rfl (y_lss rfl rfl) <| mvB rfl <| tl_cases (s := 9) rfl (fun hk1 => ?_) (fun hk1 => ?_)
 ·
  refine sk2 rfl rfl <| tPt rfl rfl <| zq <| .s3 0 1 12 rfl rfl rfl <| x_true rfl rfl <| zr <| as0 rfl <| zq <| x_ret (.then_ret (ret1 rfl rfl lR ⟨rfl, by rw [if_neg (by omega)]⟩))
 refine mvI rfl <| tl_y rfl (y_gtr rfl rfl) <| tPf rfl rfl <| zq <| .s3 0 1 12 rfl rfl rfl <| x_cond rfl (fun hc1 => ?_) (fun hc1 => ?_)
 ·
  refine zr <| as0 rfl <| zq <| x_ret (.then_ret (ret1 rfl rfl lR ⟨rfl, by rw [if_neg (by omega)]⟩))
 obtain ⟨n, rfl⟩ : ∃ k : Nat, n = k := ⟨n.toNat, by omega⟩
 refine x_skip <| .then_normal <| zr <| mvI rfl <| tl_e rfl <| e_make1 rfl rfl (by omega) (by omega) (by omega) (by omega) <| fun b1 => ?_
 simp only [Int.toNat_natCast]
 refine asS rfl <| zq <| zr2 <| mvI rfl <| mv0 rfl <| zq <| x_block ?_
 refine x_loop (I := fun m' F D M1 L1 => ∃ k : Nat, m' = n - k ∧ k ≤ n ∧ D = [] ∧ M = M1 ∧ L1 = (b1, .cells ((List.replicate (n - k) (0 : UInt8) ++ (putB v.toNat n).drop (n - k)).map bv).toArray 5 (0, 0)) :: L ∧ F = [(0, .int .u64 (v.toNat : Int)), (1, .int .i64 n), (5, .slice (some ⟨b1, 0, none⟩) n n), (15, .int .i64 n), (16, .int .i64 k)]) (n) (F0 := [(0, _), (1, _), (5, _), (15, _), (16, _)]) ?_ (cs5 rfl rfl rfl rfl rfl) ?_
 ·
  exact ⟨0, rfl, by omega, rfl, rfl, by rw [Nat.sub_zero, List.drop_of_length_le (by rw [putB_length]; omega), List.append_nil, List.map_replicate]; rfl, rfl⟩
 rintro m _ _ M1 L1 ⟨k, rfl, hk, rfl, rfl, rfl, rfl⟩
 refine zr <| tl_y rfl (y_lss rfl rfl) <| zq <| x_seq <| x_cond rfl (fun hc2 => ?_) (fun hc2 => ?_)
 ·
  refine x_skip <| .then_normal <| x_seq <| x_block <| zr <| mvI rfl <| asI rfl <| zq <| x_region <| mvS rfl <| mvI rfl <| tl_y rfl (y_subI rfl rfl (by omega)) <| mvI rfl <| tl_y rfl (y_subI rfl rfl (by omega)) <| mvI rfl <| mvI rfl <| tl_y rfl (y_mulI rfl rfl (by omega)) <| tl_y rfl (y_shr64 (s := 8 * k) rfl rfl) <| tl_y rfl (y_u64u8 rfl) ?_
  rw [shr_byte]
  refine tl_y rfl (y_indexAddr rfl rfl (by omega)) <| tl_e rfl <| e_storeAt (c := (List.replicate (n - k) (0 : UInt8) ++ (putB v.toNat n).drop (n - k)).map bv) (v := bv _) (o := n - 1 - k) (by show some (Value.pointer (some ⟨b1, _, none⟩)) = _; congr 4; omega) rfl rfl iI (by simp [putB_length]; omega) iI ?_
  rw [← List.map_set, put_step v.toNat n k (by omega)]
  refine tl_nil <| .block_normal <| .then_normal <| .s5 0 1 5 15 16 rfl rfl rfl rfl rfl <| x_region <| tl_y rfl (y_addI rfl rfl (by omega)) <| mvI rfl <| tl_nil <| .loop_next (m' := n - (k + 1)) (by omega) (F' := [(0, _), (1, _), (5, _), (15, _), (16, _)]) (cs5 rfl rfl rfl rfl rfl) ?_
  exact ⟨k + 1, rfl, by omega, rfl, rfl, rfl, rfl⟩
 refine x_exit <| .then_exit <| .loop_exit <| .block_exit <| .then_normal <| .s1 5 rfl <| zr <| mvS rfl <| asS rfl <| zq ?_
 obtain rfl : k = n := by omega
 refine x_ret (.pub b1 iI fun M' hle hm => ret1 rfl rfl hle ⟨rfl, ?_⟩)
 rw [if_pos (by omega)]
 rw [Nat.sub_self, List.replicate_zero, List.nil_append, List.drop_zero] at hm
 exact ⟨_, _, rfl, Row.whole hm (by simp [putB_length]) (by omega)⟩
theorem PutN_spec (v : UInt64) (n : Nat) (hn : n ≤ 8) :
  Con Tryz.prog 52 #[.int .u64 (v.toNat : Int), .int .i64 (n : Int)] G M L (fun r M' L' => L = L' ∧ ∃ A c, r = .slice A n c ∧ Bytes M' A n c (putB v.toNat n)) noPanic := by
 refine (Put_spec v n).post fun r M' L' hM hr => ?_
 rw [if_pos (by omega)] at hr
 simpa using hr
theorem Get_spec {A : Option Addr} {n c : Nat} {bs : List UInt8} (h : Bytes M A n c bs) :
  Con Tryz.prog 139 #[.slice A n c] G M L (fun r M' L' => M = M' ∧ L = L' ∧ r = if n ≤ 8 then .tuple #[.int .u64 (getB bs : Int), .bool true] else .tuple #[.int .u64 0, .bool false]) noPanic := by
 have hs := h.size
 refine zfn Tryz.func139 rfl 23 rfl <| zr <| as0 rfl <| as0 rfl <| zq <| zr2 <| mvS rfl <| tLen rfl <| tl_y rfl (y_gtr rfl rfl) <| zq <| .s2 0 9 rfl rfl <| x_cond rfl (fun hc1 => ?_) (fun hc1 => ?_)
 ·
  refine zr <| as0 rfl <| as0 rfl <| zq <| x_ret (.then_ret (ret2 rfl rfl rfl lR ⟨rfl, rfl, by rw [if_neg (by omega)]⟩))
 refine x_skip <| .then_normal <| zr <| as0 rfl <| zq <| zr2 <| mvS rfl <| tLen rfl <| mv0 rfl <| zq <| x_block ?_
 refine x_loop (I := fun m' F D M1 L1 => ∃ (k : Nat) (x : UInt64), m' = n - k ∧ k ≤ n ∧ x.toNat = getB (bs.take k) ∧ D = [] ∧ M = M1 ∧ L = L1 ∧ F = [(4, .int .u64 (x.toNat : Int)), (10, .slice A n c), (11, .int .i64 n), (12, .int .i64 k)]) (n) (F0 := [(4, _), (10, _), (11, _), (12, _)]) ?_ (cs4 rfl rfl rfl rfl) ?_
 ·
  exact ⟨0, 0, rfl, by omega, rfl, rfl, rfl, rfl, rfl⟩
 rintro m _ _ M1 L1 ⟨k, x, rfl, hk, hx, rfl, rfl, rfl, rfl⟩
 refine zr <| tl_y rfl (y_lss rfl rfl) <| zq <| x_seq <| x_cond rfl (fun hc2 => ?_) (fun hc2 => ?_)
 ·
  have hkn : k < n := by omega
  obtain ⟨g, o, rfl, hca⟩ := h.byte (by omega)
  have hlt : x.toNat < 72057594037927936 := by
   have h1 := getB_lt (bs.take k)
   have h2 : (bs.take k).length = k := by rw [List.length_take]; omega
   have h3 : 256 ^ k ≤ 256 ^ 7 := Nat.pow_le_pow_right (by omega) (by omega)
   rw [h2] at h1
   omega
  refine x_skip <| .then_normal <| x_seq <| x_block <| zr <| tl_y rfl (y_indexAddr rfl rfl (by omega)) <| tl_y rfl (y_load rfl rfl (.at_ (hca _ k hkn) (by omega))) <| asI rfl <| zq <| x_region <| mvI rfl <| tl_y rfl (y_shl64 (s := 8) rfl rfl) <| mvI rfl <| tl_y rfl (y_u8u64 rfl) <| tl_y rfl (y_or64 rfl rfl) <| asI rfl <| tl_nil <| .block_normal <| .then_normal <| .s4 4 10 11 12 rfl rfl rfl rfl <| x_region <| tl_y rfl (y_addI rfl rfl (by omega)) <| mvI rfl <| tl_nil <| .loop_next (m' := n - (k + 1)) (by omega) (F' := [(4, _), (10, _), (11, _), (12, _)]) (cs4 rfl rfl rfl rfl) ?_
  exact ⟨k + 1, _, rfl, by omega, by rw [get_step _ _ hlt, hx, take_snoc bs k 0 (by omega), getB_snoc], rfl, rfl, rfl, rfl⟩
 refine x_exit <| .then_exit <| .loop_exit <| .block_exit <| .then_normal <| .s1 4 rfl <| zr <| mvI rfl <| asI rfl <| as0 rfl <| zq <| x_ret (ret2 rfl rfl rfl lR ⟨rfl, rfl, by rw [if_pos (by omega), hx, List.take_of_length_le (by omega)]⟩)
theorem Get8_spec {A : Option Addr} {n c : Nat} {bs : List UInt8} (h : Bytes M A n c bs) (hn : n ≤ 8) :
  Con Tryz.prog 139 #[.slice A n c] G M L (fun r M' L' => M = M' ∧ L = L' ∧ ∃ x : UInt64, x.toNat = getB bs ∧ r = .tuple #[.int .u64 (x.toNat : Int), .bool true]) noPanic := by
 refine (Get_spec h).post fun r M' L' hM ⟨h1, h2, hr⟩ => ⟨h1, h2, UInt64.ofNat (getB bs), ?_, ?_⟩
 ·
  have h3 := getB_lt bs
  have h4 : 256 ^ bs.length ≤ 256 ^ 8 := Nat.pow_le_pow_right (by omega) (by have := h.size; omega)
  rw [UInt64.toNat_ofNat']
  omega
 have h3 := getB_lt bs
 have h4 : 256 ^ bs.length ≤ 256 ^ 8 := Nat.pow_le_pow_right (by omega) (by have := h.size; omega)
 rw [if_pos hn] at hr
 rw [hr, UInt64.toNat_ofNat', Nat.mod_eq_of_lt (by omega)]
theorem bytesEqual_spec {A B : Option Addr} {n c m d : Nat} {a b : List UInt8} (ha : Bytes M A n c a) (hb : Bytes M B m d b) :
  Con Tryz.prog 140 #[.slice A n c, .slice B m d] G M L (fun r M' L' => M = M' ∧ L = L' ∧ r = .bool (decide (a = b))) noPanic := by
 refine zfn Tryz.func140 rfl 10 rfl <| zr <| as0 rfl <| zq <| zr <| mvS rfl <| tl_y rfl (y_toStr rfl (.row ha)) <| mvS rfl <| tl_y rfl (y_toStr rfl (.row hb)) <| tl_y rfl (y_eqlStr rfl rfl) <| asB rfl <| zq <| .s1 4 rfl <| x_ret (ret1 rfl rfl lR ⟨rfl, rfl, by congr 1; rw [decide_eq_decide]; exact sB_inj⟩)
theorem Same_spec {A B : Option Addr} {n c m d : Nat} {a b : List UInt8} (ha : Bytes M A n c a) (hb : Bytes M B m d b) :
  Con Tryz.prog 94 #[.slice A n c, .slice B m d] G M L (fun r M' L' => M = M' ∧ L = L' ∧ r = .bool (decide (a = b))) noPanic := by
 refine zfn Tryz.func94 rfl 8 rfl <| zr <| as0 rfl <| zq <| zr <| mvS rfl <| mvS rfl <| zca rfl (bytesEqual_spec ha hb) ?_
 rintro _ M1 L1 hM1 ⟨rfl, rfl, rfl⟩
 refine asB rfl <| zq <| .s1 4 rfl <| x_ret (ret1 rfl rfl lR ⟨rfl, rfl, rfl⟩)
theorem bytesJoin_spec {A : Option Addr} {n c : Nat} {vs : List Value} {bss : List (List UInt8)} (h : Row M 1 A n c vs) (hb : BRows M vs bss) (hn : bss.flatten.length ≤ 1099511627776) :
    Con Tryz.prog 112 #[.slice A n c, .slice none 0 0] G M L (fun v M' L' => L = L' ∧ ∃ A' c', v = .slice A' bss.flatten.length c' ∧ Bytes M' A' bss.flatten.length c' bss.flatten) noPanic := by
  have hvl := hb.len
  have hnl : vs.length = n := by have := h.len; omega
  have hmx := h.max
  have hle := h.le
  refine zfn Tryz.func112 rfl 92 rfl <| zr <| as0 rfl <| zq <| zr2 <| mvS rfl <| tLen rfl <| tl_y rfl (y_eql rfl rfl) <| zq <| x_cond rfl (fun hc1 => ?_) (fun hc1 => ?_)
  ·
    obtain rfl : bss = [] := List.eq_nil_of_length_eq_zero (by omega)
    refine zr <| tl_e rfl <| e_buildSlice0 <| fun b1 => asS rfl <| zq <| .s1 4 rfl <| x_ret (.pub b1 iI fun M' hle hm => (.then_ret (ret1 rfl rfl hle ⟨rfl, _, _, rfl, Row.whole hm rfl (by simp)⟩)))
  refine x_skip <| .then_normal <| .s2 0 1 rfl rfl <| zr2 <| mvS rfl <| tLen rfl <| tl_y rfl (y_eql rfl rfl) <| zq <| x_cond rfl (fun hc2 => ?_) (fun hc2 => ?_)
  ·
    obtain ⟨g, o, rfl, hcell⟩ := h.addr (by omega)
    obtain ⟨A1, n1, c1, hv1, hb1⟩ := hb.get 0 (by omega)
    have hn1 := hb1.size
    have hone : bss = [bss.getD 0 []] := by
      match bss, hvl with
      | [x], _ => rfl
      | [], hvl => rw [List.length_nil] at hvl; omega
      | _ :: _ :: _, hvl => rw [List.length_cons, List.length_cons] at hvl; omega
    have hfl : bss.flatten = bss.getD 0 [] := by conv => lhs; rw [hone]
                                                 simp
    have hn1' : n1 = bss.flatten.length := by rw [hfl]; omega
    refine zr <| mvS rfl <| tl_y rfl (y_indexAddrK 0 rfl rfl (by omega)) <| tl_y rfl (y_load rfl rfl (.at_ (hcell _ 0 _ hv1) (by omega))) <| tl_e rfl <| e_append (E := []) (by decide) rfl rfl OwnRow.nil (.row hb1) (all_one_bv _) (by omega) (by omega) <| fun A2 cap2 E2 hE2 => ?_
    rw [Nat.zero_add, List.nil_append] at hE2
    rw [Nat.zero_add]
    refine asS rfl <| zq <| .s1 4 rfl <| x_ret (.then_ret (.pubRow hE2 fun M' hle hr => ret1 rfl rfl hle ⟨rfl, ?_⟩))
    rw [hfl] at hn1' ⊢
    rw [← hn1']
    exact ⟨_, _, rfl, hr⟩
  refine x_skip <| .then_normal <| zr <| as0 rfl <| zq <| zr2 <| mvS rfl <| tLen rfl <| tl_y rfl (y_gtr rfl rfl) <| zq <| .s4 0 1 5 25 rfl rfl rfl rfl <| x_false rfl (by simp) <| x_skip <| .then_normal <| zr2 <| mvS rfl <| tLen rfl <| mv0 rfl <| zq <| x_block ?_
  refine x_loop (I := fun m' F D M1 L1 => ∃ k : Nat, m' = n - k ∧ k ≤ n ∧ M = M1 ∧ D = [] ∧ L = L1 ∧ F = [(0, .slice A n c), (1, .slice none 0 0), (5, .int .i64 ((bss.take k).flatten.length : Nat)), (42, .slice A n c), (43, .int .i64 n), (44, .int .i64 k)]) (n) (F0 := [(0, _), (1, _), (5, _), (42, _), (43, _), (44, _)]) ?_ (cs6 rfl rfl rfl rfl rfl rfl) ?_
  ·
    exact ⟨0, rfl, by omega, rfl, rfl, rfl, rfl⟩
  rintro m _ _ M1 L1 ⟨k, rfl, hk, rfl, rfl, rfl, rfl⟩
  refine zr <| tl_y rfl (y_lss rfl rfl) <| zq <| x_seq <| x_cond rfl (fun hc4 => ?_) (fun hc4 => ?_)
  ·
    have hkn : k < n := by omega
    obtain ⟨g, o, rfl, hcell⟩ := h.addr (by omega)
    obtain ⟨A1, n1, c1, hv1, hb1⟩ := hb.get k (by omega)
    have hn1 := hb1.size
    have hf1 := flatten_take_le bss (k + 1)
    have hf2 : (bss.take (k + 1)).flatten.length = (bss.take k).flatten.length + n1 := by
      rw [take_snoc bss k [] (by omega), List.flatten_append, List.length_append, List.flatten_singleton, hn1]
    refine x_skip <| .then_normal <| x_seq <| x_block <| zr <| tl_y rfl (y_indexAddr rfl rfl (by omega)) <| tl_y rfl (y_load rfl rfl (.at_ (hcell L k _ hv1) (by omega))) <| asS rfl <| zq <| zr2 <| mvS rfl <| tLen rfl <| mvI rfl <| tl_y rfl (y_subI rfl rfl (by omega)) <| tl_y rfl (y_gtr rfl rfl) <| zq <| .s8 0 1 5 7 42 43 44 52 rfl rfl rfl rfl rfl rfl rfl rfl <| x_cond rfl (fun hc5 => ?_) (fun hc5 => ?_)
    ·
      omega
    refine x_skip <| .then_normal <| x_region <| mvI rfl <| mvS rfl <| tLen rfl <| tl_y rfl (y_addI rfl rfl (by omega)) <| asI rfl <| tl_nil <| .block_normal <| .then_normal <| .s6 0 1 5 42 43 44 rfl rfl rfl rfl rfl rfl <| x_region <| tl_y rfl (y_addI rfl rfl (by omega)) <| mvI rfl <| tl_nil <| .loop_next (m' := n - (k + 1)) (by omega) (F' := [(0, _), (1, _), (5, _), (42, _), (43, _), (44, _)]) (cs6 rfl rfl rfl rfl rfl rfl) ?_
    exact ⟨k + 1, rfl, by omega, rfl, rfl, rfl, by rw [hf2]; rfl⟩
  obtain rfl : k = bss.length := by omega
  rw [List.take_length]
  generalize hN : bss.flatten.length = N at hn
  obtain ⟨g, o, hAe, hcell⟩ := h.addr (by omega)
  subst hAe
  obtain ⟨A1, n1, c1, hv1, hb1⟩ := hb.get 0 (by omega)
  have hn1 := hb1.size
  have hf1 := flatten_take_le bss 1
  have hf2 : (bss.take 1).flatten = bss.getD 0 [] := by
    rw [take_snoc bss 0 [] (by omega)]; simp
  refine x_exit <| .then_exit <| .loop_exit <| .block_exit <| .then_normal <| .s3 0 1 5 rfl rfl rfl <| zr <| mvI rfl <| tl_e rfl <| e_noZero (t := 22) (ps := #[3]) Tryz.func161 (by kernel_rfl) (by kernel_rfl) (by kernel_rfl) (by kernel_rfl) rfl (by omega) <| fun b9 cs hc1 hc2 => ?_
  simp only [Int.toNat_natCast] at hc1 ⊢
  refine mvI rfl <| mvI rfl <| tl_y rfl (y_slice3 rfl rfl rfl (by omega) (by omega)) ?_
  simp only [Int.toNat_natCast, sl0]
  refine asS rfl <| zq <| .s3 0 1 8 rfl rfl rfl <| zr <| mvS rfl <| mvS rfl <| tl_y rfl (y_indexAddrK 0 rfl rfl (by omega)) <| tl_y rfl (y_load rfl rfl (.at_ (hcell _ 0 _ hv1) (by omega))) <| tl_e rfl <| e_copy (b := b9) (o := 0) (c := cs) (cs := (bss.getD 0 []).map bv) rfl rfl (by rw [List.length_map]; rw [hf2] at hf1; omega) (fun _ => rfl) (by rw [List.length_map, hn1]; exact .row hb1) iI (by rw [List.length_map]; rw [hf2] at hf1; omega) (all_one_bv _) iI ?_
  rw [List.length_map, List.take_zero, List.nil_append, Nat.zero_add]
  refine asI rfl <| zq <| .s4 0 1 8 9 rfl rfl rfl rfl <| zr2 <| mvS rfl <| tl_y rfl (y_sliceL rfl rfl (by omega)) ?_
  simp only [Int.toNat_one, sl_pos (show 1 < c by omega)]
  refine tLen rfl <| mv0 rfl <| zq <| x_block ?_
  refine x_loop (I := fun m' F D M1 L1 => ∃ (k : Nat) (slack : List Value), m' = n - 1 - k ∧ k ≤ n - 1 ∧ M = M1 ∧ D = [] ∧ ((bss.take (k + 1)).flatten.map bv ++ slack).length = cs.length ∧ L1 = (b9, .cells ((bss.take (k + 1)).flatten.map bv ++ slack).toArray 5 (0, 0)) :: L ∧ F = [(1, .slice none 0 0), (8, .slice (some ⟨b9, 0, none⟩) N N), (9, .int .i64 ((bss.take (k + 1)).flatten.length : Nat)), (70, .slice (some ⟨g, o + 1 * 1, none⟩) (n - 1) (c - 1)), (71, .int .i64 (n - 1 : Nat)), (72, .int .i64 k)]) (n - 1) (F0 := [(1, _), (8, _), (9, _), (70, _), (71, _), (72, _)]) ?_ (cs6 rfl rfl rfl rfl rfl rfl) ?_
  ·
    exact ⟨0, cs.drop (bss.getD 0 []).length, rfl, by omega, rfl, rfl, by rw [Nat.zero_add, hf2, List.length_append, List.length_map, List.length_drop]; rw [hf2] at hf1; omega, by rw [Nat.zero_add, hf2], by rw [Nat.zero_add, hf2]; rfl⟩
  rintro m _ _ M1 L1 ⟨k, slack, rfl, hk, rfl, rfl, hsl, rfl, rfl⟩
  refine zr <| tl_y rfl (y_lss rfl rfl) <| zq <| x_seq <| x_cond rfl (fun hc6 => ?_) (fun hc6 => ?_)
  ·
    have hkn : k < n - 1 := by omega
    obtain ⟨A2, n2, c2, hv2, hb2⟩ := hb.get (k + 1) (by omega)
    have hn2 := hb2.size
    have hf3 := flatten_take_le bss (k + 1 + 1)
    have hf4 : (bss.take (k + 1 + 1)).flatten = (bss.take (k + 1)).flatten ++ bss.getD (k + 1) [] := by
      rw [take_snoc bss (k + 1) [] (by omega), List.flatten_append, List.flatten_singleton]
    have hf5 : (bss.take (k + 1 + 1)).flatten.length = (bss.take (k + 1)).flatten.length + n2 := by rw [hf4, List.length_append, hn2]
    have hsl2 := hsl
    rw [List.length_append, List.length_map] at hsl2
    generalize hP : (bss.take (k + 1)).flatten = pre at hf4 hf5 hsl hsl2
    generalize bss.getD (k + 1) [] = bk at hb2 hn2 hf4
    have hn3 : (bk.map bv).length = n2 := by rw [List.length_map, hn2]
    refine x_skip <| .then_normal <| x_seq <| x_block <| zr <| tl_y rfl (y_indexAddr rfl rfl (by omega)) <| tl_y rfl (y_load rfl rfl (.at_ (hcell _ (k + 1) _ hv2) (by omega))) <| asS rfl <| zq <| zr <| mvI rfl <| mvS rfl <| mvI rfl <| tl_y rfl (y_sliceL rfl rfl (by omega)) <| mvS rfl <| tl_e rfl <| e_copy (b := b9) (o := 0) (c := pre.map bv ++ slack) (cs := []) rfl rfl (by simp) (fun h => absurd h (by simp)) .nil iI (by simp) rfl iI ?_
    simp only [List.take_zero, List.nil_append, List.drop_zero, List.length_nil, Nat.zero_add]
    refine tl_y rfl (y_addI rfl rfl (by omega)) <| asI rfl <| zq <| .s7 1 8 9 11 70 71 72 rfl rfl rfl rfl rfl rfl rfl <| x_region <| mvI rfl <| mvS rfl <| mvI rfl <| tl_y rfl (y_sliceL rfl rfl (by omega)) <| mvS rfl <| tl_e rfl <| e_copy (b := b9) (o := pre.length) (c := pre.map bv ++ slack) (cs := bk.map bv) rfl rfl (by omega) (fun h => by rw [show ((pre.length : Int) + ((0 : Nat) : Int)).toNat = pre.length by omega, sl_pos (by omega)]; simp) (by rw [hn3]; exact .row hb2) iI (by rw [List.length_append, hn3, List.length_map]; omega) (all_one_bv _) iI <| tl_y rfl (y_addI rfl rfl (by omega)) <| asI rfl <| tl_nil <| .block_normal <| .then_normal <| .s6 1 8 9 70 71 72 rfl rfl rfl rfl rfl rfl <| x_region <| tl_y rfl (y_addI rfl rfl (by omega)) <| mvI rfl <| tl_nil <| .loop_next (m' := n - 1 - (k + 1)) (by omega) (F' := [(1, _), (8, _), (9, _), (70, _), (71, _), (72, _)]) (cs6 rfl rfl rfl rfl rfl rfl) ?_
    exact ⟨k + 1, slack.drop n2, rfl, by omega, rfl, rfl, by rw [List.length_append, List.length_map, List.length_drop]; omega, by
      rw [hf4, List.map_append, List.append_assoc]
      congr 4
      ·
        rw [List.take_append_of_le_length (by simp), List.take_of_length_le (by simp)]
        congr 2
        rw [List.length_map, List.drop_append, List.drop_of_length_le (by simp), List.length_map, Nat.add_sub_cancel_left, hn2]; rfl, by rw [hf5]; simp [hn2]⟩
  refine x_exit <| .then_exit <| .loop_exit <| .block_exit <| .then_normal <| .s1 8 rfl <| zr <| mvS rfl <| asS rfl <| zq ?_
  obtain rfl : k = n - 1 := by omega
  rw [show n - 1 + 1 = n by omega]
  have hnb : n = bss.length := by omega
  rw [hnb, List.take_length]
  rw [show n - 1 + 1 = bss.length by omega, List.take_length, List.length_append, List.length_map] at hsl
  refine x_ret (.pub b9 iI fun M' hle hm => ret1 rfl rfl hle ⟨rfl, some ⟨b9, 0, none⟩, N, ?_⟩)
  rw [← hN] at *
  exact ⟨rfl, Row.part (pre := []) (by simpa using hm) (by rw [List.length_map, Nat.mul_one]) (Nat.le_refl _) (by omega)⟩
theorem Cat_spec {A : Option Addr} {n c : Nat} {vs : List Value} {bss : List (List UInt8)} (h : Row M 1 A n c vs) (hb : BRows M vs bss) (hn : bss.flatten.length ≤ 1099511627776) :
  Con Tryz.prog 59 #[.slice A n c] G M L (fun v M' L' => L = L' ∧ ∃ A' c', v = .slice A' bss.flatten.length c' ∧ Bytes M' A' bss.flatten.length c' bss.flatten) noPanic := by
 refine zfn Tryz.func59 rfl 5 rfl <| zr <| as0 rfl <| zq <| zr <| mvS rfl <| zca rfl (bytesJoin_spec h hb hn) ?_
 rintro _ M1 L1 hM1 ⟨rfl, A', c', rfl, hA'⟩
 refine asS rfl <| zq <| x_ret (ret1 rfl rfl hM1 ⟨rfl, _, _, rfl, hA'⟩)
end
end Go.Proofs.YtplkoemjffplcaaGreatDoor
namespace Go.Eng
def kT : List UInt32 := [1116352408, 1899447441, 3049323471, 3921009573, 961987163, 1508970993, 2453635748, 2870763221, 3624381080, 310598401, 607225278, 1426881987, 1925078388, 2162078206, 2614888103, 3248222580, 3835390401, 4022224774, 264347078, 604807628, 770255983, 1249150122, 1555081692, 1996064986, 2554220882, 2821834349, 2952996808, 3210313671, 3336571891, 3584528711, 113926993, 338241895, 666307205, 773529912, 1294757372, 1396182291, 1695183700, 1986661051, 2177026350, 2456956037, 2730485921, 2820302411, 3259730800, 3345764771, 3516065817, 3600352804, 4094571909, 275423344, 430227734, 506948616, 659060556, 883997877, 958139571, 1322822218, 1537002063, 1747873779, 1955562222, 2024104815, 2227730452, 2361852424, 2428436474, 2756734187, 3204031479, 3329325298]
structure H8 where
 a : UInt32
 b : UInt32
 c : UInt32
 d : UInt32
 e : UInt32
 f : UInt32
 g : UInt32
 h : UInt32
abbrev H8.list (s : H8) : List UInt32 := [s.a, s.b, s.c, s.d, s.e, s.f, s.g, s.h]
abbrev H8.vals (s : H8) : List Value := [u32v s.a, u32v s.b, u32v s.c, u32v s.d, u32v s.e, u32v s.f, u32v s.g, u32v s.h]
def H8.init : H8 := ⟨1779033703, 3144134277, 1013904242, 2773480762, 1359893119, 2600822924, 528734635, 1541459225⟩
def rotr (x : UInt32) (n : Nat) : UInt32 := shl32 x (32 - n) ||| shr32 x n
def sS0 (x : UInt32) : UInt32 := rotr x 7 ^^^ rotr x 18 ^^^ shr32 x 3
def sS1 (x : UInt32) : UInt32 := rotr x 17 ^^^ rotr x 19 ^^^ shr32 x 10
def bS0 (x : UInt32) : UInt32 := rotr x 2 ^^^ rotr x 13 ^^^ rotr x 22
def bS1 (x : UInt32) : UInt32 := rotr x 6 ^^^ rotr x 11 ^^^ rotr x 25


def wd (bs : List UInt8) (t : Nat) : UInt32 := UInt32.ofNat (getB ((bs.drop (4 * t)).take 4))
def nextW (w : List UInt32) (t : Nat) : UInt32 := w.getD (t - 16) 0 + sS0 (w.getD (t - 15) 0) + w.getD (t - 7) 0 + sS1 (w.getD (t - 2) 0)
def schd (bs : List UInt8) : Nat → List UInt32
 | 0 => []
 | t + 1 => schd bs t ++ [if t < 16 then wd bs t else nextW (schd bs t) t]
theorem schd_length (bs : List UInt8) : ∀ t, (schd bs t).length = t
 | 0 => rfl
 | t + 1 => by simp [schd, schd_length bs t]
def rT1 (s : H8) (k w : UInt32) : UInt32 := s.h + bS1 s.e + ((s.e &&& s.f) ^^^ (~~~s.e &&& s.g)) + k + w
def rT2 (s : H8) : UInt32 := bS0 s.a + ((s.a &&& s.b) ^^^ (s.a &&& s.c) ^^^ (s.b &&& s.c))
def rnd (s : H8) (k w : UInt32) : H8 := ⟨rT1 s k w + rT2 s, s.a, s.b, s.c, s.d + rT1 s k w, s.e, s.f, s.g⟩
def rounds (ws : List UInt32) (s : H8) : Nat → H8
 | 0 => s
 | t + 1 => rnd (rounds ws s t) (kT.getD t 0) (ws.getD t 0)
def plusH (r s : H8) : H8 := ⟨r.a + s.a, r.b + s.b, r.c + s.c, r.d + s.d, r.e + s.e, r.f + s.f, r.g + s.g, r.h + s.h⟩
def turn (s : H8) (bs : List UInt8) : H8 := plusH (rounds (schd bs 64) s 64) s
def addTo (r s : List UInt32) : Nat → List UInt32
 | 0 => r
 | i + 1 => (addTo r s i).set i ((addTo r s i).getD i 0 + s.getD i 0)
theorem addTo_length (r s : List UInt32) : ∀ i, (addTo r s i).length = r.length
 | 0 => rfl
 | i + 1 => by simp [addTo, addTo_length r s i]
theorem addTo_all (r s : H8) : addTo r.list s.list 8 = (plusH r s).list := rfl
def blk (s : H8) (bs : List UInt8) : Nat → H8
 | 0 => s
 | n + 1 => turn (blk s bs n) ((bs.drop (64 * n)).take 64)
theorem blk_append (s : H8) (bs x : List UInt8) : ∀ n, 64 * n ≤ bs.length → blk s (bs ++ x) n = blk s bs n
 | 0, _ => rfl
 | n + 1, h => by
  rw [blk, blk, blk_append s bs x n (by omega), List.drop_append_of_le_length (by omega), List.take_append_of_le_length (by rw [List.length_drop]; omega)]
theorem blk_drop (s : H8) (bs : List UInt8) (m : Nat) : ∀ j, blk (blk s bs m) (bs.drop (64 * m)) j = blk s bs (m + j)
 | 0 => rfl
 | j + 1 => by
  rw [show m + (j + 1) = (m + j) + 1 from rfl, blk, blk, blk_drop s bs m j, List.drop_drop, ← Nat.mul_add]
def padB (n : Nat) : List UInt8 := 128 :: (List.replicate ((119 - n % 64) % 64) 0 ++ putB (n * 8 % 18446744073709551616) 8)
def sumH (s : H8) : List UInt8 := s.list.flatMap fun x => putB x.toNat 4
def sha (bs : List UInt8) : List UInt8 := sumH (blk H8.init (bs ++ padB bs.length) ((bs ++ padB bs.length).length / 64))
theorem sumH_length (s : H8) : (sumH s).length = 32 := by simp [sumH, putB_length]
theorem sha_length (bs : List UInt8) : (sha bs).length = 32 := sumH_length _
theorem sha_parts (bs : List UInt8) : sha bs = sumH (blk (blk H8.init bs (bs.length / 64)) (bs.drop (64 * (bs.length / 64)) ++ 128 :: (List.replicate ((119 - bs.length % 64) % 64) 0 ++ putB (bs.length * 8 % 18446744073709551616) 8)) ((bs.length % 64 + 9 + (119 - bs.length % 64) % 64) / 64)) := by
 have h1 : 64 * (bs.length / 64) ≤ bs.length := by omega
 have h2 := blk_drop H8.init (bs ++ padB bs.length) (bs.length / 64) ((bs.length % 64 + 9 + (119 - bs.length % 64) % 64) / 64)
 rw [blk_append _ _ _ _ h1, List.drop_append_of_le_length h1] at h2
 have h3 : (bs ++ padB bs.length).length / 64 = bs.length / 64 + (bs.length % 64 + 9 + (119 - bs.length % 64) % 64) / 64 := by
  rw [List.length_append, padB, List.length_cons, List.length_append, List.length_replicate, putB_length]
  omega
 rw [sha, h3, ← h2]
 rfl
end Go.Eng
