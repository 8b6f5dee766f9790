/-
Contracts of functions, each proved by a walk through its code.
-/
import Derived.Test.YtplkoemjffplcaaGreatDoorLms3Etc
import Derived.Test.YtplkoemjffplcaaGreatDoorShakeEtc
import Derived.Test.YtplkoemjffplcaaGreatDoorChainEtc
import Derived.Test.YtplkoemjffplcaaGreatDoorOncePureEtc
set_option linter.all false
namespace Go.Proofs.YtplkoemjffplcaaGreatDoor
open Go Go.Eng
theorem keyT_pair {bs : List UInt8} (h : keyE bs = 0) : pairE (keyT bs) = 0 ∧ pairC (keyT bs) = pairC bs ∧ (keyT bs).length = pubN (pairC bs) ∧ 48 ≤ pubN (pairC bs) ∧ pubN (pairC bs) ≤ 56 := by
 obtain ⟨h8, hok, hle⟩ := keyE_zero h
 obtain ⟨n, w, p, H, hx⟩ := okP_facts hok
 obtain ⟨z1, _, _, _, _⟩ := hx.sizes
 have hn := hx.o.n32
 have hl : (keyT bs).length = pubN (pairC bs) := by rw [keyT, List.length_take]; omega
 have hp : pairC (keyT bs) = pairC bs := by
  rw [pairC, pairC, keyT, List.drop_take, List.take_take, List.take_take, Nat.min_eq_left (by omega), Nat.min_eq_left (by omega)]
 refine ⟨?_, hp, hl, by omega, by omega⟩
 rw [pairE, if_neg (by omega), hp, if_neg (fun h' => h' hok), if_neg (by omega)]
theorem parse_succ {j : Nat} {k b : List UInt8} (h1 : sigN (pairC k) ≤ b.length) (h2 : keyE (sgD k b) = 0) :
  (parse (j + 1) k b).1 = (parse j (keyT (sgD k b)) (keyD (sgD k b))).1 ∧ ((parse (j + 1) k b).1 = 0 → (parse (j + 1) k b).2 = ⟨k, sgT k b, keyT (sgD k b)⟩ :: (parse j (keyT (sgD k b)) (keyD (sgD k b))).2) := by
 rw [parse, if_neg (by omega), if_neg (fun h => h h2)]
 by_cases h3 : (parse j (keyT (sgD k b)) (keyD (sgD k b))).1 = 0
 ·
  rw [if_neg (fun h => h h3)]; exact ⟨h3.symm, fun _ => rfl⟩
 rw [if_pos h3]; exact ⟨rfl, fun h => absurd h h3⟩
theorem pairE_len {k : List UInt8} (h : pairE k = 0) : k.length ≤ 56 := by
 obtain ⟨h8, hok, hlen⟩ := pairE_zero h
 obtain ⟨n, w, p, H, hx⟩ := okP_facts hok
 obtain ⟨z1, _, _, _, _⟩ := hx.sizes
 have := hx.o.n32
 omega
theorem readP_eq {pub sig : List UInt8} (h1 : 4 ≤ pub.length) (h2 : keyE (pub.drop 4) = 0) (h3 : (pub.drop 4).length = pubN (pairC (pub.drop 4))) (h4 : 1 ≤ getB (pub.take 4) ∧ getB (pub.take 4) ≤ 8) (h5 : 4 ≤ sig.length) (h6 : getB (sig.take 4) = getB (pub.take 4) - 1) :
  readP pub sig = parse (getB (pub.take 4) - 1) (pub.drop 4) (sig.drop 4) := by
 rw [readP, if_neg (by omega), if_neg (fun h => h h2), if_neg (fun h => h h3), if_neg (by omega), if_neg (by omega), if_neg (fun h => h h6)]
section
variable {G : World} {M : Mem} {L : Own} {PA TA A : Option Addr} {pl pc tl tc m c : Nat} {pub text sig : List UInt8}
abbrev bx (b : Nat) (A : Option Addr) (m c : Nat) : Nat × Obj := (b, .cells #[.slice A m c] 22 (0, 0))
theorem parts_spec (hg : LmG M) (hpub : Bytes M PA pl pc pub) (hsig : Bytes M A m c sig) (hpb : pl ≤ 1000000000000) (hmb : m ≤ 1000000000000) :
  Con Tryz.prog 74 #[.slice PA pl pc, .slice A m c] G M L (fun v M' L' => L' = L ∧ ∃ A' n' c' vs, v = .slice A' n' c' ∧ (readP pub sig).1 = 0 ∧ n' = (readP pub sig).2.length ∧ Row M' 3 A' n' c' vs ∧ PtRows M' vs (readP pub sig).2) (fun ch M' L' => L' = L ∧ ∃ e, ((readP pub sig).1 ≠ 0 ∧ e = (readP pub sig).1) ∧ ch = hwrong e) := by
 have hps := hpub.size
 have hms := hsig.size
 have hpc := hpub.le
 have hmc := hsig.le
 refine zfn Tryz.func74 rfl 56 rfl <| zr <| tl_e rfl <| e_box rfl <| fun b1 => tl_e rfl <| e_box rfl <| fun b2 => as0 rfl <| zq <| zr <| .bring b1 iI <| tl_e rfl (e_call rfl (hcount_spec hpub) (by
  rintro _ M1 _ hM1 ⟨rfl, hlt, rfl⟩
  have e : (readP pub sig).1 = 2 := by rw [readP, if_pos (by omega)]
  exact TP.dropTo L iI (.retA rfl hM1 ⟨rfl, _, ⟨by rw [e]; decide, rfl⟩, by rw [e]⟩)) ?_)
 rintro _ M1 _ hM1 ⟨rfl, h4, rfl⟩
 have hd := hM1
 have hp4 : Bytes M1 (sl PA 4 pc 1) (pl - 4) (pc - 4) (pub.drop 4) := Bytes.drop (hpub.mono hd) 4 h4
 have hgl := getB_lt (pub.take 4)
 rw [List.length_take, Nat.min_eq_left (by omega)] at hgl
 obtain ⟨lv, hlv⟩ : ∃ lv, lv = getB (pub.take 4) := ⟨_, rfl⟩
 rw [← hlv] at hgl ⊢
 obtain ⟨p4, hp4e⟩ : ∃ p4, p4 = pub.drop 4 := ⟨_, rfl⟩
 rw [← hp4e] at hp4
 have hp4l : p4.length = pl - 4 := by rw [hp4e, List.length_drop]; omega
 refine asI rfl <| zq <| .s3 2 3 5 rfl rfl rfl <| zr <| tl_e rfl (e_call rfl (hkey_spec (hg.mono hd) hp4) (by
  rintro _ M2 _ hM2 ⟨rfl, hno, rfl⟩
  have e : (readP pub sig).1 = keyE p4 := by rw [readP, if_neg (by omega), ← hp4e, if_pos hno]
  exact TP.dropTo L iI (.retA rfl (hd.trans hM2) ⟨rfl, _, ⟨by rw [e]; exact hno, rfl⟩, by rw [e]⟩)) ?_)
 rintro _ M2 _ hM2 ⟨hk0, A3, m3, c3, A2, n2, c2, rfl, rfl, hkT, hkD⟩
 replace hd := hd.trans hM2
 obtain ⟨kt1, kt2, kt3, kt4, kt5⟩ := keyT_pair hk0
 have hm3 := hkD.size
 rw [keyD, List.length_drop] at hm3
 refine asS rfl <| zq <| zr <| tLd rfl rfl <| tLen rfl <| tl_y rfl (y_eql rfl rfl) <| tl_e rfl (e_call rfl (hmust_spec _ _) (by
  rintro _ _ _ _ ⟨rfl, rfl, ht, rfl⟩
  have e : (readP pub sig).1 = 5 := by rw [readP, if_neg (by omega), ← hp4e, if_neg (fun h => h hk0), if_pos (by simp at ht; omega)]
  exact TP.dropTo L iI (.retA rfl hd ⟨rfl, _, ⟨by rw [e]; decide, rfl⟩, by rw [e]⟩)) ?_)
 rintro _ _ _ _ ⟨rfl, rfl, ht⟩
 have hpl : p4.length = pubN (pairC p4) := by
  have := (keyE_zero hk0).2.2
  simp at ht; omega
 have hkp : keyT p4 = p4 := by rw [keyT]; exact List.take_of_length_le (by omega)
 rw [hkp] at kt1 kt2 kt3 hkT
 refine zq <| .s3 3 5 6 rfl rfl rfl <| x_join (I := fun F D M3 L3 => (1 ≤ lv ∧ lv ≤ 8) ∧ F = [(3, .pointer (some ⟨b2, 0, none⟩)), (5, .int .i64 ((lv : Nat) : Int)), (6, .slice A2 n2 c2)] ∧ D = [] ∧ M2 = M3 ∧ bx b1 A3 m3 c3 :: bx b2 A m c :: L = L3) ?_ (fun Jq4 => ?_)
 ·
  rintro _ _ _ _ ⟨h18, rfl, rfl, rfl, rfl⟩
  refine zr <| .bring b2 iI <| tl_e rfl (e_call rfl (hcount_spec (hsig.mono hd)) (by
   rintro _ M4 _ hM4 ⟨rfl, hlt, rfl⟩
   have e : (readP pub sig).1 = 2 := by rw [readP, if_neg (by omega), ← hp4e, if_neg (fun h => h hk0), if_neg (fun h => h hpl), if_neg (by omega), if_pos (by omega)]
   exact TP.dropTo L iI (.retA rfl (hd.trans hM4) ⟨rfl, _, ⟨by rw [e]; decide, rfl⟩, by rw [e]⟩)) ?_)
  rintro _ M4 _ hM4 ⟨rfl, hs4, rfl⟩
  replace hd := hd.trans hM4
  replace hkT := hkT.mono hM4
  have hs4b : Bytes M4 (sl A 4 c 1) (m - 4) (c - 4) (sig.drop 4) := Bytes.drop (hsig.mono hd) 4 hs4
  have hgl2 := getB_lt (sig.take 4)
  rw [List.length_take, Nat.min_eq_left (by omega)] at hgl2
  refine mvI rfl <| tl_y rfl (y_subI rfl rfl (by omega)) <| tl_y rfl (y_eql rfl rfl) ?_
  refine tl_e rfl (e_call rfl (hmust_spec _ _) (by
   rintro _ _ _ _ ⟨rfl, rfl, ht2, rfl⟩
   have e : (readP pub sig).1 = 3 := by rw [readP, if_neg (by omega), ← hp4e, if_neg (fun h => h hk0), if_neg (fun h => h hpl), if_neg (by omega), if_neg (by omega), if_pos (by simp at ht2; omega)]
   exact TP.dropTo L iI (.retA rfl hd ⟨rfl, _, ⟨by rw [e]; decide, rfl⟩, by rw [e]⟩)) ?_)
  rintro _ _ _ _ ⟨rfl, rfl, ht2⟩
  have hR : readP pub sig = parse (lv - 1) p4 (sig.drop 4) := by
   rw [readP_eq (by omega) (by rw [← hp4e]; exact hk0) (by rw [← hp4e]; exact hpl) (by omega) (by omega) (by simp at ht2; omega), ← hlv, ← hp4e]
  refine zq <| .s3 3 5 6 rfl rfl rfl <| zr <| as0 rfl <| zq <| zr2 <| mvI rfl <| tl_y rfl (y_subI rfl rfl (by omega)) ?_
  rw [show ((lv : Nat) : Int) - 1 = ((lv - 1 : Nat) : Int) by omega]
  refine mv0 rfl <| zq <| x_block ?_
  refine x_loop (I := fun m' F D M5 L5 => ∃ (i : Nat) (KA : Option Addr) (kl kc : Nat) (k : List UInt8) (BA : Option Addr) (bl bc : Nat) (b : List UInt8) (AO : Option Addr) (cO : Nat) (E : Own) (vs : List Value) (done : List PartB), m' = lv - 1 - i ∧ i ≤ lv - 1 ∧ Le M4 M5 ∧ Bytes M5 KA kl kc k ∧ Bytes M5 BA bl bc b ∧ bl ≤ 1000000000000 ∧ pairE k = 0 ∧ OwnRow 151 3 AO i cO vs E ∧ PtRows M5 vs done ∧ done.length = i ∧ (readP pub sig).1 = (parse (lv - 1 - i) k b).1 ∧ ((readP pub sig).1 = 0 → (readP pub sig).2 = done ++ (parse (lv - 1 - i) k b).2) ∧ D = [] ∧ L5 = E ++ (bx b2 BA bl bc :: bx b1 A3 m3 c3 :: L) ∧ F = [(3, .pointer (some ⟨b2, 0, none⟩)), (6, .slice KA kl kc), (7, .slice AO i cO), (28, .int .i64 ((lv - 1 : Nat) : Int)), (29, .int .i64 i)]) (lv - 1) (F0 := [(3, _), (6, _), (7, _), (28, _), (29, _)]) ?_ (cs5 rfl rfl rfl rfl rfl) ?_
  ·
   exact ⟨0, A2, n2, c2, p4, _, _, _, sig.drop 4, none, 0, [], [], [], rfl, by omega, Le.refl _, hkT, hs4b, by omega, kt1, .nil, .nil, rfl, by rw [hR, Nat.sub_zero], fun _ => by rw [hR, Nat.sub_zero, List.nil_append], rfl, rfl, rfl⟩
  rintro m _ _ M5 _ ⟨i, KA, kl, kc, k, BA, bl, bc, b, AO, cO, E, vs, done, rfl, hi, hM5, hkk, hbb, hbl, hpk, hE, hPt, hdl, hr1, hr2, rfl, rfl, rfl⟩
  have hkl := hkk.size
  have hkl2 := pairE_len hpk
  have hbs := hbb.size
  have hd5 := hd.trans hM5
  refine zr <| tl_y rfl (y_lss rfl rfl) <| zq <| x_seq <| x_cond rfl (fun hc1 => ?_) (fun hc1 => ?_)
  ·
   obtain ⟨j, hj⟩ : ∃ j, lv - 1 - i = j + 1 := ⟨lv - 1 - i - 1, by omega⟩
   rw [hj] at hr1 hr2
   refine .bring b2 iI <| x_skip <| .then_normal <| x_seq <| x_block <| zr <| mvS rfl <| mvS rfl <| tl_e rfl (e_call rfl (hsigned_spec (hg.mono hd5) hbb hbl hkk (by omega) hpk) (by
    rintro _ M6 _ hM6 ⟨rfl, hlt, rfl⟩
    have e : (readP pub sig).1 = 2 := by rw [hr1, parse, if_pos (by omega)]
    exact TP.dropTo L iI (.retA rfl (hd5.trans hM6) ⟨rfl, _, ⟨by rw [e]; decide, rfl⟩, by rw [e]⟩)) ?_)
   rintro _ M6 _ hM6 ⟨hsn, A6, m6, c6, A7, n7, c7, rfl, rfl, hsT, hsD⟩
   have hd6 := hd5.trans hM6
   have hm6 := hsD.size
   rw [sgD, List.length_drop] at hm6
   refine tl_y rfl (y_build rfl) <| tl_e rfl <| e_alloc <| fun b3 => tl_e rfl <| e_sT rfl rfl <| zq <| .s6 3 6 7 8 28 29 rfl rfl rfl rfl rfl rfl <| zr <| .bring b2 iI <| tl_e rfl (e_call rfl (hkey_spec (hg.mono hd6) hsD) (by
    rintro _ M7 _ hM7 ⟨rfl, hno, rfl⟩
    have e : (readP pub sig).1 = keyE (sgD k b) := by rw [hr1, parse, if_neg (by omega), if_pos hno]
    exact TP.dropTo L iI (.retA rfl (hd6.trans hM7) ⟨rfl, _, ⟨by rw [e]; exact hno, rfl⟩, by rw [e]⟩)) ?_)
   rintro _ M7 _ hM7 ⟨hke, A8, m8, c8, A9, n9, c9, rfl, rfl, hkT2, hkD2⟩
   have hd7 := hd6.trans hM7
   obtain ⟨u1, u2, u3, u4, u5⟩ := keyT_pair hke
   obtain ⟨ps1, ps2⟩ := parse_succ (j := j) (k := k) (b := b) (by omega) hke
   have hm8 := hkD2.size
   rw [keyD, List.length_drop, sgD, List.length_drop] at hm8
   have hn9 := hkT2.size
   refine tFa rfl <| tl_e rfl <| e_sT rfl rfl <| zq ?_
   have he : Le M7 M7 := Le.refl _
   refine x_draw0 8 ([(b3, .cells #[.slice KA kl kc, .slice A7 n7 c7, .slice A9 n9 c9] 151 (0, 0))]) Keeps.mem hmix rfl <| pmS 0 rfl rfl <| zy 1 rfl rfl (y_lg rfl rfl) <| pFa 4 rfl rfl <| pLd 5 rfl rfl rfl <| ze 2 rfl rfl <| e_buildSlice rfl (by decide) <| fun b4 => ⟨⟨he, Keeps.mem⟩, ?_⟩
   refine .pub b4 iI <| fun M8 hM8 hb8 => ?_
   replace he := he.trans hM8
   refine .bringE E iI <| ze 3 rfl rfl <| e_append (by decide) rfl rfl hE (.row (Row.whole (s := 3) (vs := [Value.slice KA kl kc, .slice A7 n7 c7, .slice A9 n9 c9]) hb8 rfl (by omega))) rfl (by omega) (by omega) <| fun AX cX EX hEX => ⟨⟨he, Keeps.mem⟩, ?_⟩
   refine paS 6 rfl rfl <| paS 7 rfl rfl <| zz <| .block_normal <| .then_normal <| .s5 3 6 7 28 29 rfl rfl rfl rfl rfl <| x_region <| tl_y rfl (y_addI rfl rfl (by omega)) <| mvI rfl <| .dropTo (EX ++ (bx b2 A8 m8 c8 :: bx b1 A3 m3 c3 :: L)) iI <| tl_nil <| .loop_next (m' := lv - 1 - (i + 1)) (by omega) (F' := [(3, _), (6, _), (7, _), (28, _), (29, _)]) (cs5 rfl rfl rfl rfl rfl) ?_
   exact ⟨i + 1, A9, n9, c9, keyT (sgD k b), A8, m8, c8, keyD (sgD k b), AX, cX, EX, _, done ++ [⟨k, sgT k b, keyT (sgD k b)⟩], rfl, by omega, hM5.trans (hM6.trans (hM7.trans he)), hkT2.mono he, hkD2.mono he, by omega, u1, hEX,
    (hPt.mono (hM6.trans (hM7.trans he))).snoc (x := ⟨k, sgT k b, keyT (sgD k b)⟩) (hkk.mono (hM6.trans (hM7.trans he))) (hsT.mono (hM7.trans he)) (hkT2.mono he) (fun h => by have h2 := congrArg List.length h; simp only [u3, List.length_nil] at h2; omega),
    by rw [List.length_append, hdl]; rfl, by rw [hr1, ps1]; congr 2; omega, fun h0 => by
     rw [hr2 h0, ps2 (by rw [← hr1]; exact h0), show lv - 1 - (i + 1) = j by omega, List.append_assoc]; rfl, rfl, rfl, rfl⟩
  obtain rfl : i = lv - 1 := by omega
  rw [Nat.sub_self] at hr1 hr2
  refine .bring b2 iI <| x_exit <| .then_exit <| .loop_exit <| .block_exit <| .then_normal <| zr <| mvS rfl <| mvS rfl <| mvS rfl <| tl_e rfl (e_call rfl (hsigned_spec (hg.mono hd5) hbb hbl hkk (by omega) hpk) (by
   rintro _ M6 _ hM6 ⟨rfl, hlt, rfl⟩
   have e : (readP pub sig).1 = 2 := by rw [hr1, parse, if_pos (by omega)]
   exact TP.dropTo L iI (.retA rfl (hd5.trans hM6) ⟨rfl, _, ⟨by rw [e]; decide, rfl⟩, by rw [e]⟩)) ?_)
  rintro _ M6 _ hM6 ⟨hsn, A6, m6, c6, A7, n7, c7, rfl, rfl, hsT, hsD⟩
  have hd6 := hd5.trans hM6
  have hm6 := hsD.size
  rw [sgD, List.length_drop] at hm6
  refine tl_y rfl (y_build rfl) <| tl_e rfl <| e_buildSlice rfl (by decide) <| fun b4 => .pub b4 iI <| fun M8 hM8 hb8 => ?_
  have hd8 := hd6.trans hM8
  refine .bringE E iI <| tl_e rfl <| e_append (by decide) rfl rfl hE (.row (Row.whole (s := 3) (vs := [Value.slice KA kl kc, .slice A7 n7 c7, .slice none 0 0]) hb8 rfl (by omega))) rfl (by omega) (by omega) <| fun AX cX EX hEX => asS rfl <| zq <| .s2 3 7 rfl rfl <| zr <| tLd rfl rfl <| tLen rfl <| tl_y rfl (y_eql rfl rfl) ?_
  refine tl_e rfl (e_call rfl (hmust_spec _ _) (by
   rintro _ _ _ _ ⟨rfl, rfl, ht3, rfl⟩
   have e : (readP pub sig).1 = 5 := by rw [hr1, parse, if_neg (by omega), if_pos (by simp at ht3; omega)]
   exact TP.dropTo L iI (.retA rfl hd8 ⟨rfl, _, ⟨by rw [e]; decide, rfl⟩, by rw [e]⟩)) ?_)
  rintro _ _ _ _ ⟨rfl, rfl, ht3⟩
  have hp0 : parse 0 k b = (0, [⟨k, sgT k b, []⟩]) := by rw [parse, if_neg (by omega), if_neg (by simp at ht3; omega)]
  rw [hp0] at hr1 hr2
  have hr2' := hr2 hr1
  refine .bringE EX iI <| .pubRow hEX <| fun M9 hM9 hrow => zq <| .s1 7 rfl <| zr <| mvS rfl <| asS rfl <| zq <| x_ret (.dropTo L iI (ret1 rfl rfl (hd8.trans hM9) ⟨rfl, _, _, _, _, rfl, hr1, by rw [hr2', List.length_append, hdl]; rfl, hrow, by
   rw [hr2']
   exact ((hPt.mono (hM6.trans (hM8.trans hM9))).snoc (x := ⟨k, sgT k b, []⟩) (hkk.mono (hM6.trans (hM8.trans hM9))) (hsT.mono (hM8.trans hM9)) (Row.nil _ _) (fun _ => rfl))⟩))
 refine x_region <| mvI rfl <| tl_y rfl (y_geq rfl rfl) <| mvB rfl <| tl_cases (s := 17) rfl (fun hk1 => ?_) (fun hk1 => ?_)
 ·
  refine mvI rfl <| tl_y rfl (y_leq rfl rfl) <| tPt rfl rfl <| tl_e rfl (e_call rfl (hmust_spec _ _) (by
   rintro _ _ _ _ ⟨rfl, rfl, ht2, rfl⟩
   have e : (readP pub sig).1 = 3 := by rw [readP, if_neg (by omega), ← hp4e, if_neg (fun h => h hk0), if_neg (fun h => h hpl), if_pos (by first | (cases ht2; done) | (simp at ht2; omega) | omega)]
   exact TP.dropTo L iI (.retA rfl hd ⟨rfl, _, ⟨by rw [e]; decide, rfl⟩, by rw [e]⟩)) ?_)
  rintro _ _ _ _ ⟨rfl, rfl, ht2⟩
  refine zq <| .sub (F' := [(3, _), (5, _), (6, _)]) (cs3 rfl rfl rfl) <| Jq4 _ _ _ _ ?_
  exact ⟨by first | (cases ht2; done) | (simp at ht2; omega) | omega, rfl, rfl, rfl, rfl⟩
 refine sk2 rfl rfl <| tPf rfl rfl <| tl_e rfl (e_call rfl (hmust_spec _ _) (by
  rintro _ _ _ _ ⟨rfl, rfl, ht2, rfl⟩
  have e : (readP pub sig).1 = 3 := by rw [readP, if_neg (by omega), ← hp4e, if_neg (fun h => h hk0), if_neg (fun h => h hpl), if_pos (by first | (cases ht2; done) | (simp at ht2; omega) | omega)]
  exact TP.dropTo L iI (.retA rfl hd ⟨rfl, _, ⟨by rw [e]; decide, rfl⟩, by rw [e]⟩)) ?_)
 rintro _ _ _ _ ⟨rfl, rfl, ht2⟩
 refine zq <| .sub (F' := [(3, _), (5, _), (6, _)]) (cs3 rfl rfl rfl) <| Jq4 _ _ _ _ ?_
 exact ⟨by first | (cases ht2; done) | (simp at ht2; omega) | omega, rfl, rfl, rfl, rfl⟩
end
def sumT (ns : List Nat) (i : Nat) : Nat := (ns.take i).sum
def cutR (bs : List UInt8) (ns : List Nat) (i : Nat) : List (List UInt8) := (List.range i).map fun j => (bs.drop (sumT ns j)).take (ns.getD j 0)
theorem cutR_succ (bs : List UInt8) (ns : List Nat) (i : Nat) : cutR bs ns (i + 1) = cutR bs ns i ++ [(bs.drop (sumT ns i)).take (ns.getD i 0)] := by
 rw [cutR, List.range_succ, List.map_append]; rfl
theorem cutR_get (bs : List UInt8) (ns : List Nat) {i k : Nat} (h : i < k) : (cutR bs ns k).getD i [] = (bs.drop (sumT ns i)).take (ns.getD i 0) := by
 rw [List.getD_eq_getElem?_getD, cutR, List.getElem?_map, List.getElem?_range h]; rfl
theorem cutR_len (bs : List UInt8) (ns : List Nat) (k : Nat) : (cutR bs ns k).length = k := by simp [cutR]
theorem sumT_succ {ns : List Nat} {i : Nat} (h : i < ns.length) : sumT ns (i + 1) = sumT ns i + ns.getD i 0 := by
 rw [sumT, List.take_add_one, List.sum_append, List.getElem?_eq_getElem h, List.getD_eq_getElem?_getD, List.getElem?_eq_getElem h]
 simp [sumT]
theorem sumT_le (ns : List Nat) (i : Nat) : sumT ns i ≤ ns.sum := by
 have := congrArg List.sum (List.take_append_drop i ns)
 rw [List.sum_append] at this
 unfold sumT
 omega
theorem sumT_all (ns : List Nat) : sumT ns ns.length = ns.sum := by rw [sumT, List.take_length]
section
variable {G : World} {M : Mem} {L : Own}
def owrongv (e : Int) : Value := .iface 300 (.agg #[.int .i64 e])
def owrong (e : Int) : List PanicEntry := [{ v := owrongv e, recovered := false }]
theorem opart_spec {A : Option Addr} {m c : Nat} {bs : List UInt8} (h : Bytes M A m c bs) (hm : m ≤ 1000000000000) (n : Nat) :
  Con Tryz.prog 219 #[.slice A m c, .int .i64 (n : Int)] G M L (fun v M' L' => L = L' ∧ n ≤ m ∧ ∃ A' c', v = .tuple #[.slice A' n c', .slice (sl A n c 1) (m - n) (c - n)] ∧ Bytes M' A' n c' (bs.take n)) (fun ch M' L' => L = L' ∧ m < n ∧ ch = owrong 2) := by
 have hc := h.le
 refine zfn Tryz.func219 rfl 25 rfl <| zr <| as0 rfl <| as0 rfl <| zq <| x_seq <| x_block <| zr <| mvI rfl <| tl_y rfl (y_lss rfl rfl) <| asB rfl <| zq <| .s3 0 1 6 rfl rfl rfl <| x_false rfl (decide_eq_false (by omega)) <| zr <| mvI rfl <| mvS rfl <| tLen rfl <| tl_y rfl (y_gtr rfl rfl) <| asB rfl <| zq <| .s3 0 1 11 rfl rfl rfl <| x_cond rfl (fun hc2 => ?_) (fun hc2 => ?_)
 ·
  refine x_region <| tl_y rfl (y_build rfl) <| tl_y rfl (y_makeIface rfl (by intro _ h; cases h)) <| tl_e rfl (e_panic rfl (.retA rfl lR ⟨rfl, by omega, rfl⟩))
 have hn : n ≤ m := by omega
 refine x_skip <| .block_normal <| .then_normal <| x_seq <| x_draw 9 hmix rfl <| pmS 0 rfl rfl <| pmI 1 rfl rfl <| zp 2 rfl rfl (y_sliceH rfl rfl (by omega) (by omega)) <| pmS 4 rfl rfl <| pmI 5 rfl rfl <| zp 6 rfl rfl (y_sliceL rfl rfl (by omega)) ?_
 refine ze 3 rfl rfl <| e_call' rfl (bytesClone_spec (Bytes.take h n hn) (by omega)) ?_
 rintro _ M1 _ hM1 ⟨rfl, A1, c1, rfl, hA1⟩
 refine kp ?_
 refine paS 7 rfl rfl <| paS 8 rfl rfl <| zz <| .then_normal <| .s2 4 5 rfl rfl <| x_ret (ret2 rfl rfl rfl hM1 ⟨rfl, hn, A1, c1, rfl, hA1⟩)
theorem Cut1_ret {b c : Nat} {x : Int} {cs : List Value} : ConD Tryz.prog 218 #[.pointer (some ⟨b, 0, none⟩), .pointer (some ⟨c, 0, none⟩)] .returning G M ((c, .cells #[.int .i64 x] 25 (0, 0)) :: (b, .cells cs.toArray 44 (0, 0)) :: L) (fun u' M' L' => u' = .returning ∧ M' = M ∧ L' = (c, .cells #[.int .i64 x] 25 (0, 0)) :: (b, .cells cs.toArray 44 (0, 0)) :: L) := by
 refine enterRec (args := [_, _]) (fn := Tryz.f218) ⟨Tryz.func218, rfl, by kernel_rfl, by kernel_rfl⟩ 13 rfl rfl <| x_block <| zr <| tl_y rfl (y_eqNilIface rfl rfl) <| zq <| x_true rfl (rfl) <| x_region <| as0 rfl <| tl_nil (.block_normal (.rec_normal lR ⟨rfl, rfl, rfl⟩))
theorem Cut1_wrong {b c : Nat} {x e : Int} {v0 : Value} : ConD Tryz.prog 218 #[.pointer (some ⟨b, 0, none⟩), .pointer (some ⟨c, 0, none⟩)] (.panicking (owrong e)) G M ((c, .cells #[.int .i64 x] 25 (0, 0)) :: (b, .cells #[v0] 44 (0, 0)) :: L)
  (fun u' M' L' => u' = .panicking [{ v := owrongv e, recovered := true }] ∧ M' = M ∧ L' = (c, .cells #[.int .i64 e] 25 (0, 0)) :: (b, .cells #[.slice none 0 0] 44 (0, 0)) :: L) := by
 refine enterRec (args := [_, _]) (fn := Tryz.f218) ⟨Tryz.func218, rfl, by kernel_rfl, by kernel_rfl⟩ 13 rfl rfl <| x_block <| zr <| tl_y rfl (y_eqIfaceNil rfl rfl) <| zq <| x_false rfl (rfl) <| zr <| tl_y rfl (y_assertOk rfl (by intro _ h; cases h)) <| zx rfl <| zx rfl <| zq <| x_true rfl (rfl) <| zr <| tl_e rfl <| e_alloc <| fun b7 => tl_e rfl <| e_sT rfl rfl <| zq <| .s3 0 1 3 rfl rfl rfl <| x_draw0 4 ((b7, .cells #[.int .i64 e] 300 (0, 0)) :: []) Keeps.mem hmix rfl ?_
 refine pFa 0 rfl rfl <| pLd 1 rfl rfl rfl <| ze 2 rfl rfl <| e_sT rfl rfl <| kp ?_
 refine ze 3 rfl rfl <| e_sT rfl rfl <| kp ?_
 refine zz (.block_normal (.dropTo ((c, .cells #[.int .i64 e] 25 (0, 0)) :: (b, .cells #[.slice none 0 0] 44 (0, 0)) :: L) iI (.rec_normal lR ⟨rfl, rfl, rfl⟩)))
theorem Cut_spec {A SA : Option Addr} {m c k sc : Nat} {bs : List UInt8} (h : Bytes M A m c bs) (hm : m ≤ 1000000000000) {ns : List Nat} (hns : Row M 1 SA k sc (intsL ns)) (hk : k ≤ 1000) :
  Con Tryz.prog 171 #[.slice A m c, .slice SA k sc] G M L (fun v M' L' => L' = L ∧ ∃ A' n' c' e, v = .tuple #[.slice A' n' c', .int .i64 e] ∧ (e = 0 ↔ m = ns.sum) ∧ (e = 0 → ∃ vs, n' = k ∧ Row M' 1 A' k c' vs ∧ BRows M' vs (cutR bs ns k))) noPanic := by
 have hkl : ns.length = k := by have := hns.len; simpa [intsL] using this
 have hmx := hns.max
 have hmz := h.size
 refine enterD (args := [_, _]) (fn := Tryz.f171) ⟨Tryz.func171, rfl, by kernel_rfl, by kernel_rfl⟩ 33 rfl <| zr <| tl_e rfl <| e_alloc <| fun b1 => tl_e rfl <| e_alloc <| fun b2 => zq <| zr <| tl_y rfl (y_makeFunc rfl rfl) <| tl_e rfl <| e_defer rfl rfl rfl <| zq <| zr2 <| mvS rfl <| tLen rfl <| mv0 rfl <| zq <| x_block ?_
 refine x_loop (I := fun m' F D M1 L1 => ∃ (i : Nat) (A1 : Option Addr) (m1 c1 : Nat) (A2 : Option Addr) (c2 : Nat) (E : Own) (vs : List Value), m' = k - i ∧ i ≤ k ∧ Le M M1 ∧ sumT ns i ≤ m ∧ m1 = m - sumT ns i ∧ Bytes M1 A1 m1 c1 (bs.drop (sumT ns i)) ∧ OwnRow 22 1 A2 i c2 vs E ∧ BRows M1 vs (cutR bs ns i) ∧ D = [{ target := .fn (.func 218) #[.pointer (some ⟨b1, 0, none⟩), .pointer (some ⟨b2, 0, none⟩)], args := List.toArray [] }] ∧ L1 = (b2, .cells #[.int .i64 0] 25 (0, 0)) :: (b1, .cells #[.slice A2 i c2] 44 (0, 0)) :: (E ++ L) ∧ F = [(0, .slice A1 m1 c1), (4, .pointer (some ⟨b1, 0, none⟩)), (5, .pointer (some ⟨b2, 0, none⟩)), (10, .slice SA k sc), (11, .int .i64 k), (12, .int .i64 i)]) (k) (F0 := [(0, _), (4, _), (5, _), (10, _), (11, _), (12, _)]) ?_ (cs6 rfl rfl rfl rfl rfl rfl) ?_
 ·
  exact ⟨0, A, m, c, none, 0, [], [], rfl, by omega, Le.refl _, Nat.zero_le _, by simp [sumT], by simpa [sumT] using h, .nil, .nil, rfl, rfl, rfl⟩
 rintro m _ _ M1 _ ⟨i, A1, m1, c1, A2, c2, E, vs, rfl, hi, hM1, hsi, rfl, hA1, hE, hB, rfl, rfl, rfl⟩
 refine zr <| tl_y rfl (y_lss rfl rfl) <| zq <| x_seq <| x_cond rfl (fun hc1 => ?_) (fun hc1 => ?_)
 ·
  have hik : i < k := by omega
  obtain ⟨g, o, rfl, hcell⟩ := (hns.mono hM1).addr (by omega)
  have hgi : (intsL ns)[i]? = some (.int .i64 ((ns.getD i 0 : Nat) : Int)) := by
   rw [intsL, List.getElem?_map, List.getD_eq_getElem?_getD, List.getElem?_eq_getElem (by omega)]; rfl
  have hss := sumT_succ (ns := ns) (i := i) (by omega)
  have hsl := sumT_le ns (i + 1)
  refine x_skip <| .then_normal <| x_seq <| x_block <| zr <| tl_y rfl (y_indexAddr rfl rfl (by omega)) <| tl_y rfl (y_load rfl rfl (.at_ (hcell _ i _ hgi) (by omega))) <| asI rfl <| zq <| zr <| as0 rfl <| zq <| .s7 0 4 5 7 10 11 12 rfl rfl rfl rfl rfl rfl rfl <| zr <| mvS rfl <| mvI rfl ?_
  refine tl_e rfl (e_call rfl (opart_spec hA1 (by omega) (ns.getD i 0)) (by
   rintro _ M2 _ hM2 ⟨rfl, hlt, rfl⟩
   refine .retD (cap := [_, _]) (args := []) Cut1_wrong ?_
   rintro _ M3 _ hM3 ⟨rfl, rfl, rfl⟩
   exact .inl ⟨rfl, _, L, rv2 rfl (rc_cell (by rfl) rfl (.own iI iI)) (rc_cell (by rfl) rfl (.own iI iI)), iI, hM1.trans hM2, rfl, _, _, _, _, rfl, iff_of_false (by decide) (by omega), fun h => by cases h⟩) ?_)
  rintro _ M2 _ hM2 ⟨rfl, hle, A3, c3, rfl, hA3⟩
  refine mvU rfl <| zx rfl <| zx rfl <| asS rfl <| asS rfl <| zq <| .s7 0 4 5 8 10 11 12 rfl rfl rfl rfl rfl rfl rfl <| x_region <| tLd rfl rfl <| mvS rfl <| tl_e rfl <| e_buildSlice rfl (by decide) <| fun b3 => .pub b3 iI <| fun M3 hM3 hb3 => .bringE E iI <| tl_e rfl <| e_append (by decide) rfl rfl hE (.row (Row.whole (s := 1) hb3 rfl (by omega))) rfl (by omega) (by omega) <| fun A7 c7 E7 hE7 => tl_e rfl <| e_sT rfl rfl <| tl_nil <| .block_normal <| .then_normal <| .s6 0 4 5 10 11 12 rfl rfl rfl rfl rfl rfl <| x_region <| tl_y rfl (y_addI rfl rfl (by omega)) <| mvI rfl <| .to ((b2, .cells #[.int .i64 0] 25 (0, 0)) :: (b1, .cells #[.slice A7 (i + 1) c7] 44 (0, 0)) :: (E7 ++ L)) iI <| tl_nil <| .loop_next (m' := k - (i + 1)) (by omega) (F' := [(0, _), (4, _), (5, _), (10, _), (11, _), (12, _)]) (cs6 rfl rfl rfl rfl rfl rfl) ?_
  exact ⟨i + 1, _, _, _, A7, c7, E7, _, rfl, by omega, hM1.trans (hM2.trans hM3), by omega, by omega, by
   have h2 := Bytes.drop hA1 (ns.getD i 0) hle
   rw [List.drop_drop, ← hss] at h2
   exact h2.mono (hM2.trans hM3), hE7, by rw [cutR_succ]; exact (hB.mono (hM2.trans hM3)).snoc (hA3.mono hM3), rfl, rfl, rfl⟩
 obtain rfl : i = k := by omega
 have hall := sumT_all ns
 rw [hkl] at hall
 refine x_exit <| .then_exit <| .loop_exit <| .block_exit <| .then_normal <| .s3 0 4 5 rfl rfl rfl <| zr2 <| mvS rfl <| tLen rfl <| tl_y rfl (y_gtr rfl rfl) <| zq <| x_cond rfl (fun hc2 => ?_) (fun hc2 => ?_)
 ·
  refine x_region <| tl_y rfl (y_build rfl) <| tl_y rfl (y_makeIface rfl (by intro _ h; cases h)) <| tl_e rfl (e_panic rfl (by
   refine .retD (cap := [_, _]) (args := []) Cut1_wrong ?_
   rintro _ M3 _ hM3 ⟨rfl, rfl, rfl⟩
   exact .inl ⟨rfl, _, L, rv2 rfl (rc_cell (by rfl) rfl (.own iI iI)) (rc_cell (by rfl) rfl (.own iI iI)), iI, hM1, rfl, _, _, _, _, rfl, iff_of_false (by decide) (by omega), fun h => by cases h⟩))
 refine .bringE E iI <| .pubRow hE <| fun M4 hM4 hrow => x_skip <| .then_normal <| .s2 4 5 rfl rfl <| zr <| tLd rfl rfl <| tl_e rfl <| e_sT rfl rfl <| tl_e rfl <| e_sT rfl rfl <| zq <| x_ret <| .to ((b2, .cells #[.int .i64 0] 25 (0, 0)) :: (b1, .cells #[.slice A2 i c2] 44 (0, 0)) :: L) iI <| .retD (cap := [_, _]) (args := []) (Cut1_ret (cs := [.slice A2 i c2])) ?_
 rintro _ M2 _ hM2 ⟨rfl, rfl, rfl⟩
 exact .inl ⟨rfl, _, L, rv2 rfl (rc_cell (by rfl) rfl (.own iI iI)) (rc_cell (by rfl) rfl (.own iI iI)), iI, hM1.trans hM4, rfl, _, _, _, _, rfl, iff_of_true rfl (by omega), fun _ => ⟨_, rfl, hrow, hB.mono hM4⟩⟩
end
section
variable {G : World} {M : Mem} {L : Own} {NA SA TA : Option Addr} {nl nc sl_ sc tl tc : Nat} {name sec text : List UInt8}
theorem cut_parts {M : Mem} {vs : List Value} {sig : List UInt8} {S P : Nat} (hB : BRows M vs (cutR sig [4, S, 4, P] 4)) (hlen : sig.length = 8 + S + P) :
  ∃ A0 c0 A1 c1 A2 c2 A3 c3, vs[0]? = some (.slice A0 4 c0) ∧ Bytes M A0 4 c0 (sig.take 4) ∧ vs[1]? = some (.slice A1 S c1) ∧ Bytes M A1 S c1 ((sig.drop 4).take S) ∧
   vs[2]? = some (.slice A2 4 c2) ∧ Bytes M A2 4 c2 ((sig.drop (4 + S)).take 4) ∧ vs[3]? = some (.slice A3 P c3) ∧ Bytes M A3 P c3 ((sig.drop (8 + S)).take P) := by
 have hl := cutR_len sig [4, S, 4, P] 4
 obtain ⟨A0, n0, c0, v0, h0⟩ := hB.get 0 (by omega)
 obtain ⟨A1, n1, c1, v1, h1⟩ := hB.get 1 (by omega)
 obtain ⟨A2, n2, c2, v2, h2⟩ := hB.get 2 (by omega)
 obtain ⟨A3, n3, c3, v3, h3⟩ := hB.get 3 (by omega)
 rw [cutR_get _ _ (by omega)] at h0 h1 h2 h3
 have e0 : (sig.drop (sumT [4, S, 4, P] 0)).take ([4, S, 4, P].getD 0 0) = sig.take 4 := by simp [sumT]
 have e1 : (sig.drop (sumT [4, S, 4, P] 1)).take ([4, S, 4, P].getD 1 0) = (sig.drop 4).take S := by simp [sumT]
 have e2 : (sig.drop (sumT [4, S, 4, P] 2)).take ([4, S, 4, P].getD 2 0) = (sig.drop (4 + S)).take 4 := by simp [sumT]
 have e3 : (sig.drop (sumT [4, S, 4, P] 3)).take ([4, S, 4, P].getD 3 0) = (sig.drop (8 + S)).take P := by
  have : sumT [4, S, 4, P] 3 = 8 + S := by simp [sumT]; omega
  rw [this]; rfl
 rw [e0] at h0
 rw [e1] at h1
 rw [e2] at h2
 rw [e3] at h3
 have s0 := h0.size
 have s1 := h1.size
 have s2 := h2.size
 have s3 := h3.size
 rw [List.length_take] at s0
 rw [List.length_take, List.length_drop] at s1 s2 s3
 obtain rfl : n0 = 4 := by omega
 obtain rfl : n1 = S := by omega
 obtain rfl : n2 = 4 := by omega
 obtain rfl : n3 = P := by omega
 exact ⟨A0, c0, A1, c1, A2, c2, A3, c3, v0, h0, v1, h1, v2, h2, v3, h3⟩
theorem staV_le {nl tl : Nat} {name : List UInt8} {q : Nat} {text sig : List UInt8} : (staV nl tl name q text sig).length ≤ 32 := by
 unfold staV
 split
 ·
  exact cPartO_le _ _ _ _ _ _
 simp
theorem leads_spec (hg : LmG M) {x : PairV} {n w p H : Nat} (hx : PF x n w p H) (hname : Bytes M NA 16 nc name) (htext : Bytes M TA tl tc text) {A : Option Addr} {m c : Nat} {sig : List UInt8} (hsig : Bytes M A m c sig) (hmb : m ≤ 1000000000000) :
  Con Tryz.prog 129 #[.agg (List.toArray (pcells (otsV x.o) (treeV x.t))), .agg (List.toArray x.cells), .slice NA 16 nc, .slice TA tl tc, .slice A m c] G M L (fun v M' L' => L' = L ∧ ∃ A' m' c', v = .slice A' m' c' ∧ fitL x tl name text sig ∧ Bytes M' A' m' c' (fitR x tl name text sig)) (fun ch M' L' => L' = L ∧ ∃ e, (¬ fitL x tl name text sig ∧ e ≠ 0) ∧ ch = lwrong e) := by
 obtain ⟨z1, z2, z3, z4, z5⟩ := hx.sizes
 have hn32 := hx.o.n32
 have hms := hsig.size
 have hm : (n : Int) * (H : Int) = ((n * H : Nat) : Int) := by push_cast; rfl
 have hH2 := hx.h2
 refine zfn Tryz.func129 rfl 122 rfl <| zr <| tl_e rfl <| e_box rfl <| fun b1 => tl_e rfl <| e_box rfl <| fun b2 => as0 rfl <| zq <| zr <| tFa rfl <| tLg rfl rfl <| zca rfl (oSize_spec (otsV x.o) hx.o) ?_
 rintro _ _ _ _ ⟨rfl, rfl, rfl⟩
 refine asI rfl <| zq <| .s6 2 3 4 5 6 11 rfl rfl rfl rfl rfl rfl <| zr <| mvS rfl <| mvI rfl <| tFa rfl <| tFa rfl <| tl_y rfl (y_load (v := .int .i64 (n : Int)) rfl rfl (by rw [← hx.tn]; exact .own iI iI)) <| tFa rfl <| tFa rfl <| tl_y rfl (y_load (v := .int .i64 (H : Int)) rfl rfl (by rw [← hx.th]; exact .own iI iI)) <| tl_y rfl (y_mulI rfl rfl (by rw [hm]; omega)) ?_
 rw [hm]
 refine tl_e rfl <| e_buildSlice rfl (by decide) <| fun b3 => .pub b3 iI <| fun M1 hM1 hb3 => ?_
 have hints : Row M1 1 (some ⟨b3, 0, none⟩) 4 4 (intsL [4, sizeN (otsV x.o), 4, n * H]) := Row.whole (vs := intsL [4, sizeN (otsV x.o), 4, n * H]) hb3 rfl (by omega)
 refine zca rfl (Cut_spec (hsig.mono hM1) hmb hints (by omega)) ?_
 rintro _ M2 _ hM2 ⟨rfl, AP, nP, cP, e, rfl, heq, hcut⟩
 have hd : Le M M2 := hM1.trans hM2
 have hsum : [4, sizeN (otsV x.o), 4, n * H].sum = sigN x := by rw [z2]; simp; omega
 rw [hsum] at heq
 refine mvU rfl <| zx rfl <| zx rfl <| asS rfl <| asI rfl <| zq <| .s6 2 3 5 6 12 13 rfl rfl rfl rfl rfl rfl <| x_seq <| x_meet (I := fun F D M3 L3 => F = [(2, .slice NA 16 nc), (3, .slice TA tl tc), (5, .pointer (some ⟨b1, 0, none⟩)), (12, .slice AP nP cP)] ∧ D = [] ∧ Le M2 M3 ∧ (e = 0 ∧ (sig.drop 4).take 4 = putB x.o.toNat 4 ∧ (sig.drop (4 + sizeN (otsV x.o))).take 4 = putB x.t.toNat 4) ∧ (b2, .cells (List.toArray x.cells) 63 (0, 0)) :: (b1, .cells (List.toArray (pcells (otsV x.o) (treeV x.t))) 202 (0, 0)) :: L = L3) ?_ (fun Jd3 => ?_)
 ·
  rintro _ _ M3 _ ⟨rfl, rfl, hM3, ⟨he0, hcode, hcode2⟩, rfl⟩
  obtain ⟨vs, rfl, hrow, hB⟩ := hcut he0
  have hml := heq.1 he0
  obtain ⟨A0, c0, A1, c1, A2, c2, A3, c3, v0, h0, v1, h1, v2, h2, v3, h3⟩ := cut_parts hB (by omega)
  have hd3 := hd.trans hM3
  obtain ⟨g, o, rfl, hcell⟩ := (hrow.mono hM3).addr (by omega)
  have hgl := getB_lt (sig.take 4)
  rw [List.length_take, Nat.min_eq_left (by omega)] at hgl
  obtain ⟨q, hq⟩ : ∃ q : UInt32, q.toNat = getB (sig.take 4) := ⟨UInt32.ofNat (getB (sig.take 4)), by rw [UInt32.toNat_ofNat', Nat.mod_eq_of_lt (by omega)]⟩
  refine zr <| mvS rfl <| tl_y rfl (y_indexAddrK 0 rfl rfl (by omega)) <| tl_y rfl (y_load rfl rfl (.at_ (hcell _ 0 _ v0) (by omega))) ?_
  refine zca rfl (Get8_spec (h0.mono hM3) (by omega)) ?_
  rintro _ _ _ _ ⟨rfl, rfl, y, hy, rfl⟩
  refine mvU rfl <| zx rfl <| zx rfl <| asI rfl <| asB rfl <| zq <| .s5 2 3 5 12 14 rfl rfl rfl rfl rfl <| zr <| mvS rfl <| mvI rfl <| tl_y rfl (y_convE (b := (q.toNat : Int)) rfl (by rw [wrapU32, hq]; omega)) <| mvS rfl <| mvS rfl <| tl_y rfl (y_indexAddrK 1 rfl rfl (by omega)) <| tl_y rfl (y_load rfl rfl (.at_ (hcell _ 1 _ v1) (by omega))) ?_
  refine zca rfl (oStands_spec (hg.mono hd3).ch (hname.mono hd3) q (htext.mono hd3) (h1.mono hM3)) ?_
  rintro _ M4 _ hM4 ⟨rfl, A4, m4, c4, rfl, hA4⟩
  have hd4 := hd3.trans hM4
  have hm4 := hA4.size
  have hm4' := staV_le (nl := 16) (tl := tl) (name := name) (q := q.toNat) (text := text) (sig := (sig.drop 4).take (sizeN (otsV x.o)))
  refine mvU rfl <| zx rfl <| zx rfl <| asS rfl <| asI rfl <| zq <| .s6 2 5 12 13 14 16 rfl rfl rfl rfl rfl rfl <| zr <| mvI rfl <| tl_y rfl (y_eql rfl rfl) <| mvI rfl <| tl_e rfl (e_call rfl (lmust_spec _ _) (by
   rintro _ _ _ _ ⟨rfl, rfl, ht, rfl⟩
   exact TP.dropTo L iI (.retA rfl hd4 ⟨rfl, _, ⟨fun h => by have := h.2.2.2.1; simp [this] at ht, by simpa using ht⟩, rfl⟩)) ?_)
  rintro _ _ _ _ ⟨rfl, rfl, ht⟩
  have hst : staE 16 tl ((sig.drop 4).take (sizeN (otsV x.o))) = 0 := by simpa using ht
  refine zq <| .s5 2 5 12 14 16 rfl rfl rfl rfl rfl <| zr <| as0 rfl <| zq <| zr2 <| tFa rfl <| tFa rfl <| tl_y rfl (y_load (v := .int .i64 (H : Int)) rfl rfl (by rw [← hx.th]; exact .own iI iI)) <| mv0 rfl <| zq <| x_block ?_
  refine x_loop (I := fun m' F D M5 L5 => ∃ (i : Nat) (AW : Option Addr) (cW : Nat) (E : Own) (ws : List Value), m' = H - i ∧ i ≤ H ∧ Le M4 M5 ∧ OwnRow 22 1 AW i cW ws E ∧ BRows M5 ws (wayS sig (8 + sizeN (otsV x.o)) n i) ∧ D = [] ∧ L5 = E ++ ((b2, .cells (List.toArray x.cells) 63 (0, 0)) :: (b1, .cells (List.toArray (pcells (otsV x.o) (treeV x.t))) 202 (0, 0)) :: L) ∧ F = [(2, .slice NA 16 nc), (5, .pointer (some ⟨b1, 0, none⟩)), (12, .slice (some ⟨g, o, none⟩) 4 cP), (14, .int .u64 (y.toNat : Int)), (16, .slice A4 m4 c4), (17, .slice AW i cW), (83, .int .i64 H), (84, .int .i64 i)]) (H) (F0 := [(2, _), (5, _), (12, _), (14, _), (16, _), (17, _), (83, _), (84, _)]) ?_ (cs8 rfl rfl rfl rfl rfl rfl rfl rfl) ?_
  ·
   exact ⟨0, none, 0, [], [], rfl, by omega, Le.refl _, .nil, .nil, rfl, rfl, rfl⟩
  rintro m _ _ M5 _ ⟨i, AW, cW, E, ws, rfl, hi, hM5, hE, hW, rfl, rfl, rfl⟩
  refine zr <| tl_y rfl (y_lss rfl rfl) <| zq <| x_seq <| x_cond rfl (fun hc1 => ?_) (fun hc1 => ?_)
  ·
   have hiH : i < H := by omega
   have hin : i * n + n ≤ n * H := by
    have := Nat.mul_le_mul_left n (show i + 1 ≤ H from hiH)
    rw [Nat.mul_succ, Nat.mul_comm n i] at this
    omega
   have hm1 : (i : Int) * (n : Int) = ((i * n : Nat) : Int) := by push_cast; rfl
   have hm2 : ((i : Int) + 1) * (n : Int) = ((i * n + n : Nat) : Int) := by rw [Int.add_mul, Int.one_mul, hm1]; push_cast; rfl
   have he5 : Le M3 M5 := hM4.trans hM5
   have hc3 := h3.le
   have hsub := Bytes.sub (h3.mono (hM3.trans he5)) (i * n) (i * n + n) (by omega) (by omega)
   rw [show i * n + n - i * n = n by omega, List.drop_take, List.take_take, List.drop_drop, Nat.min_eq_left (by omega)] at hsub
   obtain ⟨g', o', hgo, hcell'⟩ := (hrow.mono (hM3.trans he5)).addr (by omega)
   obtain ⟨rfl, rfl⟩ : g = g' ∧ o = o' := by simpa using hgo
   refine x_skip <| .then_normal <| x_seq <| x_block <| zr <| mvI rfl <| asI rfl <| zq ?_
   have he : Le M5 M5 := Le.refl _
   refine x_draw 17 hmix rfl <| pmS 0 rfl rfl <| pmS 1 rfl rfl <| zp 2 rfl rfl (y_indexAddrK 3 rfl rfl (by omega)) <| to_yp 3 [16, 15] rfl (by kernel_rfl) rfl (y_load rfl rfl (.at_ (hcell' _ 3 _ v3) (by omega))) <| pmI 4 rfl rfl <| pFa 5 rfl rfl <| pFa 6 rfl rfl <| to_yp 7 [16, 15, 8] rfl (by kernel_rfl) rfl (y_load (v := .int .i64 (n : Int)) rfl rfl (by rw [← hx.tn]; exact .own iI iI)) ?_
   refine zp 8 rfl rfl (y_mulI rfl rfl (by rw [hm1]; omega)) ?_
   rw [hm1]
   refine pmI 9 rfl rfl <| zp 10 rfl rfl (y_addI rfl rfl (by omega)) <| pFa 11 rfl rfl <| pFa 12 rfl rfl <| to_yp 13 [16, 15, 14] rfl (by kernel_rfl) rfl (y_load (v := .int .i64 (n : Int)) rfl rfl (by rw [← hx.tn]; exact .own iI iI)) <| zp 14 rfl rfl (y_mulI rfl rfl (by rw [hm2]; omega)) ?_
   rw [hm2]
   refine zp 15 rfl rfl (y_sliceLH rfl rfl rfl (by omega) (by omega)) ?_
   rw [Int.toNat_natCast, Int.toNat_natCast, show i * n + n - i * n = n by omega]
   refine ze 16 rfl rfl <| e_buildSlice rfl (by decide) <| fun b4 => ⟨⟨he, Keeps.mem⟩, ?_⟩
   refine .pub b4 iI <| fun M6 hM6 hb6 => zt 17 rfl rfl <| e_append (by decide) rfl rfl hE (.row (Row.whole (s := 1) hb6 rfl (by omega))) rfl (by omega) (by omega) <| fun A7 c7 E7 hE7 => paS 18 rfl rfl <| zz <| .block_normal <| .then_normal <| .s8 2 5 12 14 16 17 83 84 rfl rfl rfl rfl rfl rfl rfl rfl <| x_region <| tl_y rfl (y_addI rfl rfl (by omega)) <| mvI rfl <| tl_nil <| .loop_next (m' := H - (i + 1)) (by omega) (F' := [(2, _), (5, _), (12, _), (14, _), (16, _), (17, _), (83, _), (84, _)]) (cs8 rfl rfl rfl rfl rfl rfl rfl rfl) ?_
   exact ⟨i + 1, A7, c7, E7, _, rfl, by omega, hM5.trans hM6, hE7, by rw [wayS_succ]; exact (hW.mono hM6).snoc (hsub.mono hM6), rfl, rfl, rfl⟩
  obtain rfl : i = H := by omega
  refine .pubRow hE <| fun M6 hM6 hrow6 => ?_
  have hd6 := hd4.trans (hM5.trans hM6)
  have hway : fitWay x sig = wayS sig (8 + sizeN (otsV x.o)) n i := by rw [fitWay, hx.tn, hx.th]; rfl
  have hkey : staV 16 tl name q.toNat text ((sig.drop 4).take (sizeN (otsV x.o))) = fitKey x tl name text sig := by rw [fitKey, hq]
  refine x_exit <| .then_exit <| .loop_exit <| .block_exit <| .then_normal <| .s5 2 5 14 16 17 rfl rfl rfl rfl rfl <| zr <| tFa rfl <| tLg rfl rfl <| mvS rfl <| mvI rfl <| tl_y rfl (y_convE (b := (q.toNat : Int)) rfl (by rw [wrapU32, hq]; omega)) <| mvS rfl <| mvS rfl <| zca rfl (Climb_spec (hg.mono hd6).mr (treeV x.t) (hname.mono hd6) q (hA4.mono (hM5.trans hM6)) (by omega) hrow6 (hW.mono hM6)) ?_
  rintro _ M7 _ hM7 ⟨rfl, A7, m7, c7, rfl, hA7⟩
  have hd7 := hd6.trans hM7
  refine mvU rfl <| zx rfl <| zx rfl <| asS rfl <| asI rfl <| zq <| .s2 13 19 rfl rfl <| zr <| mvI rfl <| tl_y rfl (y_eql rfl rfl) <| mvI rfl <| tl_e rfl (e_call rfl (lmust_spec _ _) (by
   rintro _ _ _ _ ⟨rfl, rfl, ht, rfl⟩
   exact TP.dropTo L iI (.retA rfl hd7 ⟨rfl, _, ⟨fun h => by have := h.2.2.2.2; rw [hway, ← hq] at this; simp [this] at ht, by simpa using ht⟩, rfl⟩)) ?_)
  rintro _ _ _ _ ⟨rfl, rfl, ht⟩
  refine zq <| .s1 19 rfl <| zr <| mvS rfl <| asS rfl <| zq <| x_ret (.dropTo L iI (ret1 rfl rfl hd7 ⟨rfl, _, _, _, rfl, ⟨by omega, hcode, hcode2, hst, by rw [hway, ← hq]; simpa using ht⟩, by rw [fitR, hway, ← hkey, ← hq]; exact hA7⟩))
 have he : Le M2 M2 := Le.refl _
 refine x_draw 22 hmix rfl <| pmI 0 rfl rfl <| zp 1 rfl rfl (y_eql rfl rfl) <| pmB 2 rfl rfl <| to_cases (s := 39) rfl (fun hk1 => ?_) (fun hk1 => ?_)
 ·
  refine pmS 3 rfl rfl ?_
  obtain ⟨vs, rfl, hrow, hB⟩ := hcut hk1
  have hml := heq.1 hk1
  obtain ⟨A0, c0, A1, c1, A2, c2, A3, c3, v0, h0, v1, h1, v2, h2, v3, h3⟩ := cut_parts hB (by omega)
  obtain ⟨g, o, rfl, hcell⟩ := hrow.addr (by omega)
  have h14 := Bytes.take h1 4 z5
  rw [List.take_take, Nat.min_eq_left z5] at h14
  have hc1 := h1.le
  refine zp 4 rfl rfl (y_indexAddrK 1 rfl rfl (by omega)) <| zy 5 rfl rfl (y_load rfl rfl (.at_ (hcell _ 1 _ v1) (by omega))) <| zp 6 rfl rfl (y_sliceH rfl rfl (by omega) (by omega)) <| pFa 7 rfl rfl <| pLd 8 rfl rfl rfl ?_
  refine ze 9 rfl rfl <| e_call' rfl (lcode_spec x.o) ?_
  rintro _ M4 _ hM4 ⟨rfl, A4, c4, rfl, hA4⟩
  replace he := he.trans hM4
  refine kp ?_
  refine ze 10 rfl rfl <| e_call' rfl (Same_spec (h14.mono he) hA4) ?_
  rintro _ _ _ _ ⟨rfl, rfl, rfl⟩
  refine kp ?_
  refine zp 11 rfl rfl (y_pickT rfl rfl) <| pmB 12 rfl rfl <| to_cases (s := 49) rfl (fun hk2 => ?_) (fun hk2 => ?_)
  ·
   refine pmS 13 rfl rfl <| zp 14 rfl rfl (y_indexAddrK 2 rfl rfl (by omega)) <| zy 15 rfl rfl (y_load rfl rfl (.at_ (hcell _ 2 _ v2) (by omega))) <| pFa 16 rfl rfl <| pLd 17 rfl rfl rfl ?_
   refine ze 18 rfl rfl <| e_call' rfl (lcode_spec x.t) ?_
   rintro _ M5 _ hM5 ⟨rfl, A5, c5, rfl, hA5⟩
   replace he := he.trans hM5
   refine kp ?_
   refine ze 19 rfl rfl <| e_call' rfl (Same_spec (h2.mono he) hA5) ?_
   rintro _ _ _ _ ⟨rfl, rfl, rfl⟩
   refine kp ?_
   refine zp 20 rfl rfl (y_pickT rfl rfl) <| to_e 21 rfl (by kernel_rfl) rfl (e_call rfl (lmust_spec _ _) (by
    rintro _ _ _ _ ⟨rfl, rfl, ht, rfl⟩
    exact TP.dropTo L iI (.retA rfl (hd.trans he) ⟨rfl, 3, ⟨fun h => by first | exact hk1 (heq.2 (by have := h.1; omega)) | exact hk2 h.2.1 | (have := h.2.2.1; simp [this] at ht; done), by decide⟩, rfl⟩)) ?_)
   rintro _ _ _ _ ⟨rfl, rfl, ht⟩
   refine kp ?_
   refine zz <| .then_normal <| .sub (F' := [(2, _), (3, _), (5, _), (12, _)]) (cs4 rfl rfl rfl rfl) <| Jd3 _ _ _ _ ?_
   exact ⟨rfl, rfl, he, by first | (cases ht; done) | exact ⟨hk1, hk2, by simpa using ht⟩, rfl⟩
  refine zs 13 rfl rfl <| zs 14 rfl rfl <| zs 15 rfl rfl <| zs 16 rfl rfl <| zs 17 rfl rfl <| zs 18 rfl rfl <| zs 19 rfl rfl <| zp 20 rfl rfl (y_pickF rfl rfl) <| to_e 21 rfl (by kernel_rfl) rfl (e_call rfl (lmust_spec _ _) (by
   rintro _ _ _ _ ⟨rfl, rfl, ht, rfl⟩
   exact TP.dropTo L iI (.retA rfl (hd.trans he) ⟨rfl, 3, ⟨fun h => by first | exact hk1 (heq.2 (by have := h.1; omega)) | exact hk2 h.2.1 | (have := h.2.2.1; simp [this] at ht; done), by decide⟩, rfl⟩)) ?_)
  rintro _ _ _ _ ⟨rfl, rfl, ht⟩
  refine kp ?_
  refine zz <| .then_normal <| .sub (F' := [(2, _), (3, _), (5, _), (12, _)]) (cs4 rfl rfl rfl rfl) <| Jd3 _ _ _ _ ?_
  exact ⟨rfl, rfl, he, by first | (cases ht; done) | exact ⟨hk1, hk2, by simpa using ht⟩, rfl⟩
 refine zs 3 rfl rfl <| zs 4 rfl rfl <| zs 5 rfl rfl <| zs 6 rfl rfl <| zs 7 rfl rfl <| zs 8 rfl rfl <| zs 9 rfl rfl <| zs 10 rfl rfl <| zp 11 rfl rfl (y_pickF rfl rfl) <| pmB 12 rfl rfl ?_
 refine zs 13 rfl rfl <| zs 14 rfl rfl <| zs 15 rfl rfl <| zs 16 rfl rfl <| zs 17 rfl rfl <| zs 18 rfl rfl <| zs 19 rfl rfl <| zp 20 rfl rfl (y_pickF rfl rfl) <| to_e 21 rfl (by kernel_rfl) rfl (e_call rfl (lmust_spec _ _) (by
  rintro _ _ _ _ ⟨rfl, rfl, ht, rfl⟩
  exact TP.dropTo L iI (.retA rfl (hd.trans he) ⟨rfl, 3, ⟨fun h => by first | exact hk1 (heq.2 (by have := h.1; omega)) | exact hk2 h.2.1 | (have := h.2.2.1; simp [this] at ht; done), by decide⟩, rfl⟩)) ?_)
 rintro _ _ _ _ ⟨rfl, rfl, ht⟩
 refine kp ?_
 refine zz <| .then_normal <| .sub (F' := [(2, _), (3, _), (5, _), (12, _)]) (cs4 rfl rfl rfl rfl) <| Jd3 _ _ _ _ ?_
 exact ⟨rfl, rfl, he, by first | (cases ht; done) | exact ⟨hk1, hk2, by simpa using ht⟩, rfl⟩
end
section
variable {G : World} {M : Mem} {L : Own} {PA TA A : Option Addr} {pl pc tl tc m c : Nat} {pub text sig : List UInt8}
theorem Fits1_lspec (hg : LmG M) (hpub : Bytes M PA pl pc pub) (htext : Bytes M TA tl tc text) (hsig : Bytes M A m c sig) (hpb : pl ≤ 1000000000000) (hmb : m ≤ 1000000000000) {bp bt bs : Nat}
  [i1 : Has L bp (.cells #[.slice PA pl pc] 22 (0, 0))] [i2 : Has L bt (.cells #[.slice TA tl tc] 22 (0, 0))] [i3 : Has L bs (.cells #[.slice A m c] 22 (0, 0))] :
  Con Tryz.prog 125 #[.pointer (some ⟨bp, 0, none⟩), .pointer (some ⟨bt, 0, none⟩), .pointer (some ⟨bs, 0, none⟩)] G M L (fun v M' L' => L' = L ∧ ∃ A' m' c', v = .slice A' m' c' ∧ (pairE pub = 0 ∧ fitL (pairC pub) tl (nameP pub) text sig) ∧ Bytes M' A' m' c' (fitR (pairC pub) tl (nameP pub) text sig)) (fun ch M' L' => L' = L ∧ ∃ e, (¬ (pairE pub = 0 ∧ fitL (pairC pub) tl (nameP pub) text sig) ∧ e ≠ 0) ∧ ch = lwrong e) := by
 have hps := hpub.size
 have hpc := hpub.le
 refine zfn Tryz.func125 rfl 23 rfl <| zr <| as0 rfl <| zq <| zr <| tLd rfl rfl <| zca rfl (Pair_spec hg hpub hpb) ?_
 rintro _ M1 L hM1 ⟨rfl, rfl⟩
 have hd : Le M M1 := hM1
 refine mvU rfl <| zx rfl <| zx rfl <| tl_e rfl <| e_alloc <| fun b1 => tl_e rfl <| e_sT rfl rfl <| asI rfl <| zq <| .s5 0 1 2 4 5 rfl rfl rfl rfl rfl <| zr <| mvI rfl <| tl_y rfl (y_eql rfl rfl) <| mvI rfl <| tl_e rfl (e_call rfl (lmust_spec _ _) (by
  rintro _ _ _ _ ⟨rfl, rfl, ht, rfl⟩
  exact TP.dropTo L iI (.retA rfl hd ⟨rfl, _, ⟨fun h => by have := h.1; simp [this] at ht, by simpa using ht⟩, rfl⟩)) ?_)
 rintro _ _ _ _ ⟨rfl, rfl, ht⟩
 have h0 : pairE pub = 0 := by simpa using ht
 obtain ⟨h8, hok, hlen⟩ := pairE_zero h0
 have hx0 : pairX pub = pairC pub := by rw [pairX, if_pos h0]
 rw [hx0]
 obtain ⟨n, w, p, H, hx⟩ := okP_facts hok
 obtain ⟨z1, z2, z3, z4, z5⟩ := hx.sizes
 have hn32 := hx.o.n32
 have hnm : Bytes M1 (sl PA 8 pc 1) 16 (pc - 8) (nameP pub) := Bytes.sub (hpub.mono hd) 8 24 (by omega) (by omega)
 refine zq <| .s4 0 1 2 4 rfl rfl rfl rfl <| x_seq ?_
 have he : Le M1 M1 := Le.refl _
 refine x_draw 9 hmix rfl <| zy 0 rfl rfl (y_lg rfl rfl) <| zy 2 rfl rfl (y_lg rfl rfl) <| pLd 3 rfl rfl rfl <| zp 4 rfl rfl (y_sliceLH rfl rfl rfl (by omega) (by omega)) <| pLd 5 rfl rfl rfl <| pLd 6 rfl rfl rfl ?_
 refine to_e 1 rfl (by kernel_rfl) rfl (e_call rfl (of_spec (hg.mono hd).hs (pairC pub)) (by
  rintro _ M2 _ hM2 ⟨rfl, hno, rfl⟩
  exact absurd hok hno) ?_)
 rintro _ M2 _ hM2 ⟨rfl, _, rfl⟩
 replace hd := hd.trans hM2
 replace he := he.trans hM2
 refine kp ?_
 refine to_e 7 rfl (by kernel_rfl) rfl (e_call rfl (leads_spec (hg.mono hd) hx (hnm.mono hM2) (htext.mono hd) (hsig.mono hd) hmb) (by
  rintro _ M3 _ hM3 ⟨rfl, e, ⟨hno, hne⟩, rfl⟩
  exact TP.dropTo L iI (.retA rfl (hd.trans hM3) ⟨rfl, e, ⟨fun h => hno h.2, hne⟩, rfl⟩)) ?_)
 rintro _ M3 _ hM3 ⟨rfl, A3, m3, c3, rfl, hfit, hA3⟩
 replace hd := hd.trans hM3
 replace he := he.trans hM3
 refine kp ?_
 refine paS 8 rfl rfl <| zz <| .then_normal <| .s1 3 rfl <| x_ret (.dropTo L iI (ret1 rfl rfl hd ⟨rfl, _, _, _, rfl, ⟨h0, hfit⟩, hA3⟩))
theorem Fits_lspec (hg : LmG M) (hpub : Bytes M PA pl pc pub) (htext : Bytes M TA tl tc text) (hsig : Bytes M A m c sig) (hpb : pl ≤ 1000000000000) (hmb : m ≤ 1000000000000) :
  Con Tryz.prog 77 #[.slice PA pl pc, .slice TA tl tc, .slice A m c] G M L (fun v M' L' => L' = L ∧ v = .bool (decide (fitK pub tl text sig))) noPanic := by
 have hps := hpub.size
 have hpc := hpub.le
 refine zfn Tryz.func77 rfl 22 rfl <| zr <| tl_e rfl <| e_box rfl <| fun b1 => tl_e rfl <| e_box rfl <| fun b2 => tl_e rfl <| e_box rfl <| fun b3 => as0 rfl <| zq <| .s3 3 4 5 rfl rfl rfl <| zr <| tl_y rfl (y_makeFunc rfl rfl) <| zca rfl (caughtB_spec (K := fun A' m' c' M' => (pairE pub = 0 ∧ fitL (pairC pub) tl (nameP pub) text sig) ∧ Bytes M' A' m' c' (fitR (pairC pub) tl (nameP pub) text sig)) (Kp := fun e => ¬ (pairE pub = 0 ∧ fitL (pairC pub) tl (nameP pub) text sig) ∧ e ≠ 0) (first := []) (cap := [.pointer (some ⟨b1, 0, none⟩), .pointer (some ⟨b2, 0, none⟩), .pointer (some ⟨b3, 0, none⟩)]) (fun p' q' => Fits1_lspec hg hpub htext hsig hpb hmb)) ?_
 rintro v M1 _ hM1 ⟨rfl, hv⟩
 obtain ⟨A2, m2, c2, e, rfl, he, hA⟩ : ∃ A' m' c' e, v = .tuple #[.slice A' m' c', .int .i64 e] ∧ (e = 0 ↔ (pairE pub = 0 ∧ fitL (pairC pub) tl (nameP pub) text sig)) ∧ (e = 0 → Bytes M1 A' m' c' (fitR (pairC pub) tl (nameP pub) text sig)) := by
  rcases hv with ⟨A, m, c, rfl, h0, hb⟩ | ⟨e, rfl, hno, hne⟩
  ·
   exact ⟨A, m, c, 0, rfl, iff_of_true rfl h0, fun _ => hb⟩
  exact ⟨none, 0, 0, e, rfl, iff_of_false hne hno, fun h => absurd h hne⟩
 refine mvU rfl <| zx rfl <| zx rfl <| asS rfl <| asI rfl <| zq <| .s3 3 7 8 rfl rfl rfl <| zr <| mvI rfl <| tl_y rfl (y_eql rfl rfl) <| mvB rfl <| tl_cases (s := 16) rfl (fun hk1 => ?_) (fun hk1 => ?_)
 ·
  refine mvS rfl <| tLd rfl rfl ?_
  obtain ⟨h8, hok, hlen⟩ := pairE_zero (he.1 hk1).1
  obtain ⟨n, w, p, H, hx⟩ := okP_facts hok
  obtain ⟨z1, z2, z3, z4, z5⟩ := hx.sizes
  have hdr := Bytes.drop (hpub.mono hM1) 24 (by omega)
  refine tl_y rfl (y_sliceL rfl rfl (by omega)) ?_
  refine zca rfl (Same_spec (hA hk1) hdr) ?_
  rintro _ _ _ _ ⟨rfl, rfl, rfl⟩
  refine tPt rfl rfl <| asB rfl <| zq <| .s1 6 rfl <| x_ret (.dropTo L iI (ret1 rfl rfl hM1 ⟨rfl, by
   congr 1
   rw [decide_eq_decide]
   exact ⟨fun h => ⟨(he.1 hk1).1, (he.1 hk1).2, h⟩, fun h => h.2.2⟩⟩))
 refine sk4 rfl rfl rfl rfl <| tPf rfl rfl <| asB rfl <| zq <| .s1 6 rfl <| x_ret (.dropTo L iI (ret1 rfl rfl hM1 ⟨rfl, by
  congr 1
  rw [eq_comm, decide_eq_false_iff_not]
  exact fun h => hk1 (he.2 ⟨h.1, h.2.1⟩)⟩))
end
theorem parse_parts : ∀ (m : Nat) (k b : List UInt8), pairE k = 0 → ∀ p ∈ (parse m k b).2, pairE p.key = 0 ∧ p.sig.length = sigN (pairC p.key)
 | 0, k, b, hk, p, hp => by
  rw [parse] at hp
  split at hp
  ·
   cases hp
  split at hp
  ·
   cases hp
  rename_i h1 h2
  obtain rfl := List.mem_singleton.1 hp
  exact ⟨hk, by show (sgT k b).length = sigN (pairC k); rw [sgT, List.length_take]; omega⟩
 | m + 1, k, b, hk, p, hp => by
  rw [parse] at hp
  split at hp
  ·
   cases hp
  split at hp
  ·
   cases hp
  split at hp
  ·
   cases hp
  rename_i h1 h2 h3
  rcases List.mem_cons.1 hp with rfl | hp
  ·
   exact ⟨hk, by show (sgT k b).length = sigN (pairC k); rw [sgT, List.length_take]; omega⟩
  exact parse_parts m _ _ (keyT_pair (Classical.not_not.1 h2)).1 p hp
theorem readP_parts {pub sig : List UInt8} : ∀ p ∈ (readP pub sig).2, pairE p.key = 0 ∧ p.sig.length = sigN (pairC p.key) := by
 intro p hp
 rw [readP] at hp
 split at hp
 ·
  cases hp
 split at hp
 ·
  cases hp
 split at hp
 ·
  cases hp
 split at hp
 ·
  cases hp
 split at hp
 ·
  cases hp
 split at hp
 ·
  cases hp
 rename_i h1 h2 h3 h4 h5 h6
 refine parse_parts _ _ _ ?_ p hp
 have h := (keyT_pair (Classical.not_not.1 h2)).1
 rwa [keyT, List.take_of_length_le (by omega)] at h
theorem parse_len : ∀ (m : Nat) (k b : List UInt8), (parse m k b).2.length ≤ m + 1
 | 0, k, b => by
  rw [parse]
  split
  ·
   simp
  split <;> simp
 | m + 1, k, b => by
  rw [parse]
  split
  ·
   simp
  split
  ·
   simp
  split
  ·
   simp
  have := parse_len m (keyT (sgD k b)) (keyD (sgD k b))
  simp only [List.length_cons]; omega
theorem readP_len (pub sig : List UInt8) : (readP pub sig).2.length ≤ 8 := by
 rw [readP]
 split
 ·
  simp
 split
 ·
  simp
 split
 ·
  simp
 split
 ·
  simp
 split
 ·
  simp
 split
 ·
  simp
 have := parse_len (getB (pub.take 4) - 1) (pub.drop 4) (sig.drop 4)
 omega
section
variable {G : World} {M : Mem} {L : Own} {PA TA A : Option Addr} {pl pc tl tc m c : Nat} {pub text sig : List UInt8}
theorem hFits1_spec (hg : LmG M) (hpub : Bytes M PA pl pc pub) (hsig : Bytes M A m c sig) (hpb : pl ≤ 1000000000000) (hmb : m ≤ 1000000000000) {bp bs : Nat}
  [i1 : Has L bp (.cells #[.slice PA pl pc] 22 (0, 0))] [i2 : Has L bs (.cells #[.slice A m c] 22 (0, 0))] :
  Con Tryz.prog 73 #[.pointer (some ⟨bp, 0, none⟩), .pointer (some ⟨bs, 0, none⟩)] G M L (fun v M' L' => L' = L ∧ ∃ A' n' c', v = .slice A' n' c' ∧ (readP pub sig).1 = 0 ∧ n' = (readP pub sig).2.length ∧ ∃ vs, Row M' 3 A' n' c' vs ∧ PtRows M' vs (readP pub sig).2) (fun ch M' L' => L' = L ∧ ∃ e, ((readP pub sig).1 ≠ 0 ∧ e = (readP pub sig).1) ∧ ch = hwrong e) := by
 refine zfn Tryz.func73 rfl 6 rfl <| zr <| as0 rfl <| zq <| zr <| tLd rfl rfl <| tLd rfl rfl <| tl_e rfl (e_call rfl (parts_spec hg hpub hsig hpb hmb) (by
  rintro _ M1 _ hM1 ⟨rfl, e, he, rfl⟩
  exact .retA rfl hM1 ⟨rfl, e, he, rfl⟩) ?_)
 rintro _ M1 _ hM1 ⟨rfl, A1, n1, c1, vs, rfl, h0, hn1, hrow, hPt⟩
 refine asS rfl <| zq <| .s1 2 rfl <| x_ret (ret1 rfl rfl hM1 ⟨rfl, _, _, _, rfl, h0, hn1, vs, hrow, hPt⟩)
theorem hFits2_spec (hg : LmG M) {x : PartB} {KA SA NA : Option Addr} {kl kc sl_ sc nl nc : Nat} (hk : Bytes M KA kl kc x.key) (hs : Bytes M SA sl_ sc x.sig) (hn : Bytes M NA nl nc x.next) (hnil : x.next = [] → NA = none) (hxe : pairE x.key = 0) (hxs : x.sig.length = sigN (pairC x.key)) (htext : Bytes M TA tl tc text) {bt : Nat} [i1 : Has L bt (.cells #[.slice TA tl tc] 22 (0, 0))] :
  Con Tryz.prog 76 #[.agg #[.slice KA kl kc, .slice SA sl_ sc, .slice NA nl nc], .pointer (some ⟨bt, 0, none⟩)] G M L (fun v M' L' => L' = L ∧ v = .bool (!decide (partF text x))) noPanic := by
 have hkl := pairE_len hxe
 have hks := hk.size
 have hss := hs.size
 have hns := hn.size
 have hts := htext.size
 have hsl : sl_ ≤ 1000000000000 := by
  obtain ⟨h8, hok, hlen⟩ := pairE_zero hxe
  obtain ⟨n, w, p, H, hx⟩ := okP_facts hok
  obtain ⟨z1, z2, z3, z4, z5⟩ := hx.sizes
  omega
 refine zfn Tryz.func76 rfl 17 rfl <| zr <| tl_e rfl <| e_box rfl <| fun b1 => as0 rfl <| zq <| zr <| tFa rfl <| tLd rfl rfl <| asS rfl <| zq <| .s3 1 2 4 rfl rfl rfl <| zr2 <| mvS rfl <| tl_y rfl (y_eqNilSlice rfl rfl) <| zq <| x_condb rfl (fun hc1 => ?_) (fun hc1 => ?_)
 ·
  obtain rfl : NA = none := by
   cases NA with
   | none => rfl
   | some a => cases hc1
  have hne : x.next = [] := by
   rcases Nat.eq_zero_or_pos nl with h | h
   ·
    exact List.eq_nil_of_length_eq_zero (by omega)
   obtain ⟨g, o, h1, _⟩ := hn.addr h
   cases h1
  refine x_region <| tLd rfl rfl <| asS rfl <| zq <| .s2 2 4 rfl rfl <| zr <| tFa rfl <| tLd rfl rfl <| mvS rfl <| tFa rfl <| tLd rfl rfl <| zca rfl (Fits_lspec hg hk htext hs (by omega) hsl) ?_
  rintro _ M1 _ hM1 ⟨rfl, rfl⟩
  refine tl_y rfl (y_not rfl) <| asB rfl <| zq <| .s1 3 rfl <| x_ret (.dropTo L iI (ret1 rfl rfl hM1 ⟨rfl, by
   congr 3
   rw [partF, if_pos hne, if_pos hne, hts]⟩))
 have hne : x.next ≠ [] := fun h => by
  rw [hnil h] at hc1
  cases hc1
 refine x_skip <| .then_normal <| zr <| tFa rfl <| tLd rfl rfl <| mvS rfl <| tFa rfl <| tLd rfl rfl <| zca rfl (Fits_lspec hg hk hn hs (by omega) hsl) ?_
 rintro _ M1 _ hM1 ⟨rfl, rfl⟩
 refine tl_y rfl (y_not rfl) <| asB rfl <| zq <| .s1 3 rfl <| x_ret (.dropTo L iI (ret1 rfl rfl hM1 ⟨rfl, by
  congr 3
  rw [partF, if_neg hne, if_neg hne, hns]⟩))
end
def hfit (pub text sig : List UInt8) : Prop := (readP pub sig).1 = 0 ∧ ∀ x ∈ (readP pub sig).2, partF text x
instance {pub text sig : List UInt8} : Decidable (hfit pub text sig) := inferInstanceAs (Decidable (_ ∧ _))
section
variable {G : World} {M : Mem} {L : Own} {PA TA A : Option Addr} {pl pc tl tc m c : Nat} {pub text sig : List UInt8}
theorem indexFuncP_spec (hg : LmG M) {n : Nat} {vs : List Value} {ps : List PartB} (h : Row M 3 A n c vs) (hPt : PtRows M vs ps) (hps : ∀ p ∈ ps, pairE p.key = 0 ∧ p.sig.length = sigN (pairC p.key)) (hn8 : ps.length ≤ 8) (htext : Bytes M TA tl tc text) {bt : Nat} [i1 : Has L bt (.cells #[.slice TA tl tc] 22 (0, 0))] :
  Con Tryz.prog 123 #[.slice A n c, .func (.func 76) #[] #[.pointer (some ⟨bt, 0, none⟩)]] G M L (fun v M' L' => L' = L ∧ ∃ r : Int, v = .int .i64 r ∧ (0 ≤ r ↔ ¬ ∀ p ∈ ps, partF text p)) noPanic := by
 have hmx := h.max
 have hle := h.le
 have hvl := hPt.len
 have hnl : vs.length = n * 3 := h.len
 refine zfn Tryz.func123 rfl 19 rfl <| zr <| as0 rfl <| zq <| zr2 <| mvS rfl <| tLen rfl <| mv0 rfl <| zq <| x_block ?_
 refine x_loop (I := fun m' F D M1 L1 => ∃ k : Nat, m' = n - k ∧ k ≤ n ∧ Le M M1 ∧ (∀ p ∈ ps.take k, partF text p) ∧ D = [] ∧ L1 = L ∧ F = [(0, .slice A n c), (1, .func (.func 76) #[] #[.pointer (some ⟨bt, 0, none⟩)]), (4, .int .i64 0), (7, .int .i64 n), (8, .int .i64 k)]) (n) (F0 := [(0, _), (1, _), (4, _), (7, _), (8, _)]) ?_ (cs5 rfl rfl rfl rfl rfl) ?_
 ·
  exact ⟨0, rfl, by omega, Le.refl _, fun p hp => by simp at hp, rfl, rfl, rfl⟩
 rintro m _ _ M1 _ ⟨k, rfl, hk, hd, hb0, rfl, rfl, rfl⟩
 refine zr <| tl_y rfl (y_lss rfl rfl) <| zq <| x_seq <| x_cond rfl (fun hc1 => ?_) (fun hc1 => ?_)
 ·
  have hkn : k < n := by omega
  obtain ⟨x, hx⟩ : ∃ x, ps[k]? = some x := ⟨_, List.getElem?_eq_getElem (by omega)⟩
  obtain ⟨KA, SA, NA, kl, kc, sl_, sc, nl, nc, hv, hk1, hs1, hnx, hnil⟩ := (hPt.mono hd).get k x hx
  obtain ⟨hxe, hxs⟩ := hps x (List.mem_of_getElem? hx)
  obtain ⟨g, o, rfl, hcell⟩ := (h.mono hd).cellsN (by omega)
  have hc2 := fun L => hcell L (k * 3) 3 (by omega)
  simp only [hv] at hc2
  have htk : ps.take (k + 1) = ps.take k ++ [x] := by rw [List.take_add_one, hx]; rfl
  refine x_skip <| .then_normal <| x_seq <| x_block <| zr <| mvI rfl <| asI rfl <| zq <| zr <| mvF rfl <| mvS rfl <| mvI rfl <| tl_y rfl (y_indexAddr rfl rfl (by omega)) <| tl_y rfl (y_loadAgg rfl rfl (.at_ (hc2 _) (by omega))) ?_
  refine tl_e rfl <| e_callv rfl rfl (hFits2_spec (hg.mono hd) hk1 hs1 hnx hnil hxe hxs (htext.mono hd)) (fun _ _ _ _ h => h.elim) ?_
  rintro _ M2 L hM2 ⟨rfl, rfl⟩
  refine zq <| .s7 0 1 4 5 7 8 16 rfl rfl rfl rfl rfl rfl rfl <| x_condb rfl (fun hc2 => ?_) (fun hc2 => ?_)
  ·
   refine zr <| mvI rfl <| asI rfl <| zq <| x_ret (.block_ret (.then_ret (.loop_ret (.block_ret (.then_ret (ret1 rfl rfl (hd.trans hM2) ⟨rfl, _, rfl, iff_of_true (by omega) (fun h => by
    have := h x (List.mem_of_getElem? hx)
    simp [this] at hc2)⟩))))))
  refine x_skip <| .block_normal <| .then_normal <| x_region <| tl_y rfl (y_addI rfl rfl (by omega)) <| mvI rfl <| tl_nil <| .loop_next (m' := n - (k + 1)) (by omega) (F' := [(0, _), (1, _), (4, _), (7, _), (8, _)]) (cs5 rfl rfl rfl rfl rfl) ?_
  exact ⟨k + 1, rfl, by omega, hd.trans hM2, fun p hp => by
   rw [htk, List.mem_append, List.mem_singleton] at hp
   rcases hp with hp | rfl
   ·
    exact hb0 p hp
   simpa using hc2, rfl, rfl, rfl⟩
 refine x_exit <| .then_exit <| .loop_exit <| .block_exit <| .then_normal <| .s0 <| zr <| as0 rfl <| zq <| x_ret (ret1 rfl rfl hd ⟨rfl, _, rfl, iff_of_false (by omega) (fun h => h (by
  rw [List.take_of_length_le (by omega)] at hb0
  exact hb0))⟩)
theorem containsP_spec (hg : LmG M) {n : Nat} {vs : List Value} {ps : List PartB} (h : Row M 3 A n c vs) (hPt : PtRows M vs ps) (hps : ∀ p ∈ ps, pairE p.key = 0 ∧ p.sig.length = sigN (pairC p.key)) (hn8 : ps.length ≤ 8) (htext : Bytes M TA tl tc text) {bt : Nat} [i1 : Has L bt (.cells #[.slice TA tl tc] 22 (0, 0))] :
  Con Tryz.prog 75 #[.slice A n c, .func (.func 76) #[] #[.pointer (some ⟨bt, 0, none⟩)]] G M L (fun v M' L' => L' = L ∧ v = .bool (decide (¬ ∀ p ∈ ps, partF text p))) noPanic := by
 refine zfn Tryz.func75 rfl 9 rfl <| zr <| as0 rfl <| zq <| zr <| mvS rfl <| mvF rfl <| zca rfl (indexFuncP_spec hg h hPt hps hn8 htext) ?_
 rintro _ M1 _ hM1 ⟨rfl, r, rfl, hr⟩
 refine tl_y rfl (y_geq rfl rfl) <| asB rfl <| zq <| .s1 4 rfl <| x_ret (ret1 rfl rfl hM1 ⟨rfl, by
  congr 1
  rw [decide_eq_decide]
  exact hr⟩)
theorem Fits_hspec (hg : LmG M) (hpub : Bytes M PA pl pc pub) (htext : Bytes M TA tl tc text) (hsig : Bytes M A m c sig) (hpb : pl ≤ 1000000000000) (hmb : m ≤ 1000000000000) :
  Con Tryz.prog 27 #[.slice PA pl pc, .slice TA tl tc, .slice A m c] G M L (fun v M' L' => L' = L ∧ v = .bool (decide (hfit pub text sig))) noPanic := by
 have hpar := readP_parts (pub := pub) (sig := sig)
 have h8 := readP_len pub sig
 refine zfn Tryz.func27 rfl 22 rfl <| zr <| tl_e rfl <| e_box rfl <| fun b1 => tl_e rfl <| e_box rfl <| fun b2 => tl_e rfl <| e_box rfl <| fun b3 => as0 rfl <| zq <| .s3 3 4 5 rfl rfl rfl <| zr <| tl_y rfl (y_makeFunc rfl rfl) <| zca rfl (caughtHL_spec (K := fun A' n' c' M' => (readP pub sig).1 = 0 ∧ n' = (readP pub sig).2.length ∧ ∃ vs, Row M' 3 A' n' c' vs ∧ PtRows M' vs (readP pub sig).2) (Kp := fun e => (readP pub sig).1 ≠ 0 ∧ e = (readP pub sig).1) (first := []) (cap := [.pointer (some ⟨b1, 0, none⟩), .pointer (some ⟨b3, 0, none⟩)]) (fun p' q' => hFits1_spec hg hpub hsig hpb hmb)) ?_
 rintro v M1 _ hM1 ⟨rfl, hv⟩
 obtain ⟨A2, n2, c2, vs, e, rfl, he, hA⟩ : ∃ A' n' c' vs e, v = .tuple #[.slice A' n' c', .int .i64 e] ∧ (e = 0 ↔ (readP pub sig).1 = 0) ∧ (e = 0 → Row M1 3 A' n' c' vs ∧ PtRows M1 vs (readP pub sig).2) := by
  rcases hv with ⟨A, n, c, rfl, h0, _, vs, hr, hp⟩ | ⟨e, rfl, hno, rfl⟩
  ·
   exact ⟨A, n, c, vs, 0, rfl, iff_of_true rfl h0, fun _ => ⟨hr, hp⟩⟩
  exact ⟨none, 0, 0, [], _, rfl, Iff.rfl, fun h => absurd h hno⟩
 refine mvU rfl <| zx rfl <| zx rfl <| asS rfl <| asI rfl <| zq <| .s3 4 7 8 rfl rfl rfl <| zr <| mvI rfl <| tl_y rfl (y_eql rfl rfl) <| mvB rfl <| tl_cases (s := 16) rfl (fun hk1 => ?_) (fun hk1 => ?_)
 ·
  refine mvS rfl <| tl_y rfl (y_makeFunc rfl rfl) <| zca rfl (containsP_spec (hg.mono hM1) (hA hk1).1 (hA hk1).2 hpar h8 (htext.mono hM1)) ?_
  rintro _ M2 _ hM2 ⟨rfl, rfl⟩
  refine tl_y rfl (y_not rfl) <| tPt rfl rfl <| asB rfl <| zq <| .s1 6 rfl <| x_ret (.dropTo L iI (ret1 rfl rfl (hM1.trans hM2) ⟨rfl, by
   congr 1
   rw [← decide_not, decide_eq_decide]
   exact ⟨fun h => ⟨he.1 hk1, Classical.not_not.1 h⟩, fun h => fun h' => h' h.2⟩⟩))
 refine sk4 rfl rfl rfl rfl <| tPf rfl rfl <| asB rfl <| zq <| .s1 6 rfl <| x_ret (.dropTo L iI (ret1 rfl rfl hM1 ⟨rfl, by
  congr 1
  rw [eq_comm, decide_eq_false_iff_not]
  exact fun h => hk1 (he.2 h.1)⟩))
end
end Go.Proofs.YtplkoemjffplcaaGreatDoor
