/-
Contracts of functions, each proved by a walk through its code.
-/
import Derived.Test.YtiimjodbaogjbaaGreatDoorHss3Etc
import Derived.Test.YtiimjodbaogjbaaGreatDoorRef10Etc
import Derived.Test.YtiimjodbaogjbaaGreatDoorRef11Etc
import Derived.Test.YtiimjodbaogjbaaGreatDoorRef13Etc
import Derived.Test.YtiimjodbaogjbaaGreatDoorOncePureEtc
import Derived.Test.YtiimjodbaogjbaaGreatDoorEngWEtc
import Derived.Test.YtiimjodbaogjbaaGreatDoorHss9Etc
set_option linter.unusedVariables false
set_option linter.unusedSimpArgs false
set_option linter.constructorNameAsVariable false
namespace Go.Proofs.YtiimjodbaogjbaaGreatDoor
open Go Go.Eng
section
variable {G : World} {M : Mem} {L : Own} {NA SA TA : Option Addr} {nl nc sl sc tl tc : Nat} {name sec text : List UInt8}
theorem way_le2 {x : PairV} (name sec : List UInt8) (q k : Nat) : (wayB (treeV x.t) name (keysX x name sec) q k).flatten.length ≤ k * 32 := by
 rw [way_flat]
 exact catR_le (fun i => (lvl_short _ _ _ _).get _) k
theorem Rmay_spec (x : PairV) :
  Con Tryz.prog 88 #[.agg (List.toArray x.cells), .agg (List.toArray (seedC NA nl nc SA sl sc))] G M L (fun v M' L' => M = M' ∧ L = L' ∧ v = .int .i64 (mayC x nl sl)) noPanic := by
 refine enter (args := [_, _]) (fn := Tryz.f88) ⟨Tryz.func88, rfl, by kernel_rfl, by kernel_rfl⟩ 25 rfl <| zr <| tl_e rfl <| e_box rfl <| fun b1 => tl_e rfl <| e_box rfl <| fun b2 => as0 rfl rfl <| zq <| zr <| tl_y rfl (y_lg rfl rfl) <| tl_e rfl <| e_call' rfl (RSets12_spec x) ?_
 rintro _ _ _ _ ⟨rfl, rfl, rfl⟩
 refine mvU rfl rfl <| zx rfl rfl <| zx rfl rfl <| zx rfl rfl <| tl_e rfl <| e_alloc <| fun b3 => tl_e rfl <| e_alloc <| fun b4 => tl_e rfl <| e_st rfl rfl (by rfl) (by rfl) <| tl_e rfl <| e_st rfl rfl (by rfl) (by rfl) <| asB rfl rfl <| zq ?_
 refine .s4 3 5 6 7 rfl rfl rfl rfl <| zr2 <| mvB rfl rfl <| tl_y rfl (y_notd rfl) <| zq <| x_cond rfl (fun hc1 => ?_) (fun hc1 => ?_)
 ·
  refine zr <| as0 rfl rfl <| zq <| .s1 4 rfl <| x_ret (.then_ret (.dropTo L inferInstance (ret1 rfl rfl (Le.refl _) ⟨rfl, rfl, by rw [mayC, if_pos hc1]⟩)))
 ·
  have hok : okP x := Classical.not_not.1 hc1
  refine x_skip <| .then_normal <| zr2 <| tl_y rfl (y_fieldAddr rfl) <| tl_y rfl (y_ld rfl rfl) <| tl_y rfl (y_gtr rfl rfl) <| mvB rfl rfl <| tl_cases (s := 19) rfl (fun hk1 => ?_) (fun hk1 => ?_)
  ·
   refine tl_skip rfl <| tl_skip rfl <| tl_skip rfl <| tl_skip rfl <| tl_y rfl (y_pickT rfl rfl) <| zq <| .s1 24 rfl <| x_true rfl rfl <| zr <| as0 rfl rfl ?_
   refine zq <| x_ret (.then_ret (.dropTo L inferInstance (ret1 rfl rfl (Le.refl _) ⟨rfl, rfl, by rw [mayC, if_neg hc1, if_pos (.inl hk1)]⟩)))
  ·
   refine tl_y rfl (y_lg rfl rfl) <| tl_y rfl (y_lg rfl rfl) <| tl_e rfl <| e_call' rfl (RoMay_spec (otsV x.o)) ?_
   rintro _ _ _ _ ⟨rfl, rfl, rfl⟩
   refine tl_y rfl (y_notd rfl) <| tl_y rfl (y_pickF rfl rfl) <| zq <| .s1 24 rfl <| x_cond rfl (fun hc2 => ?_) (fun hc2 => ?_)
   ·
    refine zr <| as0 rfl rfl <| zq <| x_ret (.then_ret (.dropTo L inferInstance (ret1 rfl rfl (Le.refl _) ⟨rfl, rfl, by rw [mayC, if_neg hc1, if_pos (.inr hc2)]⟩)))
   ·
    refine x_skip <| .then_normal <| zr <| as0 rfl rfl <| zq <| x_ret (.dropTo L inferInstance (ret1 rfl rfl (Le.refl _) ⟨rfl, rfl, by rw [mayC_ok hok (by omega) (Classical.not_not.1 hc2)]⟩))
theorem RKeys_spec {x : PairV} {n w p H : Nat} (hx : PF x n w p H) (hy : okY (otsV x.o) nl sl) (hname : Bytes M NA nl nc name) (hsec : Bytes M SA sl sc sec) :
    Con Tryz.prog 91 #[.agg (List.toArray (otsV x.o).cells), .agg (List.toArray (treeV x.t).cells), .agg (List.toArray (seedC NA nl nc SA sl sc))] G M L (fun v M' L' => L = L' ∧ ∃ A c vs, v = .slice A (pw2 H) c ∧ Row M' 1 A (pw2 H) c vs ∧ BRows M' vs (keysX x name sec)) noPanic := by
  have hpw := pw2_25 hx.h2
  refine enter (args := [_, _, _]) (fn := Tryz.f91) ⟨Tryz.func91, rfl, by kernel_rfl, by kernel_rfl⟩ 24 rfl <| zr <| tl_e rfl <| e_box rfl <| fun b1 => tl_e rfl <| e_box rfl <| fun b2 => tl_e rfl <| e_box rfl <| fun b3 => as0 rfl rfl <| zq <| .s3 3 4 5 rfl rfl rfl <| zr <| as0 rfl rfl ?_
  refine zq <| zr2 <| as0 rfl rfl <| zq <| x_block ?_
  refine x_loop (I := fun m' F D M1 L1 => ∃ (i : Nat) (A : Option Addr) (c : Nat) (E : Own) (vs : List Value), m' = pw2 H - i ∧ i ≤ pw2 H ∧ Le M M1 ∧ OwnRow 35 1 A i c vs E ∧ BRows M1 vs (keysB x name sec i) ∧ D = [] ∧ L1 = E ++ ((b3, .cells (List.toArray (seedC NA nl nc SA sl sc)) 49 (0, 0)) :: (b2, .cells (List.toArray (treeV x.t).cells) 29 (0, 0)) :: (b1, .cells (List.toArray (otsV x.o).cells) 27 (0, 0)) :: L) ∧ F = [(3, .pointer (some ⟨b1, 0, none⟩)), (4, .pointer (some ⟨b2, 0, none⟩)), (5, .pointer (some ⟨b3, 0, none⟩)), (7, .slice A i c), (8, .int .u64 (i : Int))]) (pw2 H) (F0 := [(3, _), (4, _), (5, _), (7, _), (8, _)]) ?_ (.cons rfl (.cons rfl (.cons rfl (.cons rfl (.cons rfl .nil))))) ?_  -- slots [3, 4, 5, 7, 8], written [7, 8]
  · exact ⟨0, none, 0, [], [], rfl, by omega, Le.refl _, .nil, .nil, rfl, rfl, rfl⟩
  rintro m _ _ M1 _ ⟨i, A, c, E, vs, rfl, hi, hM1, hE, hB, rfl, rfl, rfl⟩
  refine zr2 <| mvI rfl rfl <| tl_y rfl (y_lg rfl rfl) <| tl_e rfl <| e_call' rfl (RLeaves_spec (treeV x.t)) ?_
  rintro _ _ _ _ ⟨rfl, rfl, rfl⟩
  rw [hx.lv]
  refine tl_y rfl (y_lss rfl rfl) <| zq <| x_cond rfl (fun hc1 => ?_) (fun hc1 => ?_)
  ·
    have hip : i < pw2 H := by omega
    obtain ⟨z, hz⟩ : ∃ z : UInt32, z.toNat = i := ⟨UInt32.ofNat i, by rw [UInt32.toNat_ofNat', Nat.mod_eq_of_lt (by omega)]⟩
    refine x_skip <| .then_normal <| .s5 3 4 5 7 8 rfl rfl rfl rfl rfl <| x_seq <| x_block <| x_region <| mvS rfl rfl <| tl_y rfl (y_lg rfl rfl) <| tl_y rfl (y_lg rfl rfl) <| mvI rfl rfl <| tl_y rfl (y_convE (b := (z.toNat : Int)) rfl (by rw [wrapU32, hz]; omega)) ?_
    refine tl_e rfl <| e_call' rfl (RoKey_spec (otsV x.o) (hname.mono hM1) (hsec.mono hM1) z) ?_
    rintro _ M2 _ hM2 ⟨rfl, A2, m2, c2, rfl, hA2⟩
    rw [if_pos hy, hz] at hA2
    refine tl_e rfl <| e_buildSlice rfl (by decide) <| fun b4 => .pub b4 inferInstance <| fun M3 hM3 hb3 => tl_e rfl <| e_append (by decide) rfl rfl hE (.row (Row.whole (s := 1) hb3 rfl (by omega))) rfl (by omega) (by omega) <| fun A7 c7 E7 hE7 => asS rfl rfl <| tl_nil <| .block_normal <| .then_normal <| .s5 3 4 5 7 8 rfl rfl rfl rfl rfl <| x_region <| mvI rfl rfl <| tl_y rfl (y_addN64 rfl rfl (by omega)) <| asI rfl rfl ?_
    refine tl_nil <| .loop_next (m' := pw2 H - (i + 1)) (by omega) (F' := [(3, _), (4, _), (5, _), (7, _), (8, _)]) (.cons rfl (.cons rfl (.cons rfl (.cons rfl (.cons rfl .nil))))) ?_
    exact ⟨i + 1, A7, c7, E7, _, rfl, by omega, hM1.trans (hM2.trans hM3), hE7, by rw [keysB_succ]; exact (hB.mono (hM2.trans hM3)).snoc (hA2.mono hM3), rfl, rfl, rfl⟩
  ·
    obtain rfl : i = pw2 H := by omega
    refine .pubRow hE <| fun M4 hM4 hrow => x_exit <| .then_exit <| .loop_exit <| .block_exit <| .then_normal <| .s1 7 rfl <| zr <| mvS rfl rfl <| asS rfl rfl <| zq <| x_ret (.dropTo L inferInstance (ret1 rfl rfl (hM1.trans hM4) ⟨rfl, _, _, _, rfl, hrow, by rw [keysX, hx.lv]; exact hB.mono hM4⟩))
theorem RPublic_spec (x : PairV) (hname : Bytes M NA nl nc name) (hsec : Bytes M SA sl sc sec) :
  Con Tryz.prog 36 #[.agg (List.toArray x.cells), .agg (List.toArray (seedC NA nl nc SA sl sc))] G M L (fun v M' L' => L' = L ∧ ∃ A m c, v = .tuple #[.slice A m c, .int .i64 (mayC x nl sl)] ∧ Bytes M' A m c (pubV x nl sl name sec)) noPanic := by
 refine enter (args := [_, _]) (fn := Tryz.f36) ⟨Tryz.func36, rfl, by kernel_rfl, by kernel_rfl⟩ 42 rfl <| zr <| tl_e rfl <| e_box rfl <| fun b1 => tl_e rfl <| e_box rfl <| fun b2 => as0 rfl rfl <| as0 rfl rfl <| zq <| .s2 2 3 rfl rfl <| zr <| tl_y rfl (y_lg rfl rfl) ?_
 refine tl_y rfl (y_lg rfl rfl) <| tl_e rfl <| e_call' rfl (Rmay_spec x) ?_
 rintro _ _ _ _ ⟨rfl, rfl, rfl⟩
 refine asI rfl rfl <| zq <| zr2 <| mvI rfl rfl <| tl_y rfl (y_neq rfl rfl) <| zq <| .s4 2 3 6 14 rfl rfl rfl rfl <| x_cond rfl (fun hc1 => ?_) (fun hc1 => ?_)
 ·
  refine zr <| mvI rfl rfl <| as0 rfl rfl <| asI rfl rfl <| zq <| .s2 4 5 rfl rfl <| x_ret (.then_ret (.dropTo L inferInstance (ret2 rfl rfl rfl (Le.refl _) ⟨rfl, _, _, _, rfl, by rw [pubV, if_neg hc1]; exact Row.nil _ _⟩)))
 ·
  have hmay : mayC x nl sl = 0 := Classical.not_not.1 hc1
  obtain ⟨hok, hH10, hy⟩ := mayC_zero hmay
  obtain ⟨n, w, p, H, hx⟩ := okP_facts hok
  have hn32 := hx.o.n32
  have hnl := hy.2.1
  have hnn := hname.size
  have hpw := pw2_25 hx.h2
  have hxt := x.t.toNat_lt
  have hxo := x.o.toNat_lt
  refine x_skip <| .then_normal <| zr <| tl_y rfl (y_lg rfl rfl) <| tl_e rfl <| e_call' rfl (RSets12_spec x) ?_
  rintro _ _ _ _ ⟨rfl, rfl, rfl⟩
  refine mvU rfl rfl <| zx rfl rfl <| zx rfl rfl <| zx rfl rfl <| tl_e rfl <| e_alloc <| fun b3 => tl_e rfl <| e_alloc <| fun b4 => tl_e rfl <| e_st rfl rfl (by rfl) (by rfl) <| tl_e rfl <| e_st rfl rfl (by rfl) (by rfl) <| asB rfl rfl <| zq ?_
  refine .s4 2 3 7 8 rfl rfl rfl rfl <| x_seq ?_
  have he : Le M M := Le.refl _
  refine x_draw 22 hmix rfl <| zp 0 rfl rfl (y_fieldAddr rfl) <| zy 1 rfl rfl (y_ld rfl rfl) <| zp 2 rfl rfl (y_convN64 rfl (by omega)) <| zp 4 rfl rfl (y_fieldAddr rfl) <| zy 5 rfl rfl (y_ld rfl rfl) <| zp 6 rfl rfl (y_convN64 rfl (by omega)) <| zp 8 rfl rfl (y_fieldAddr rfl) <| zy 9 rfl rfl (y_ld rfl rfl) <| zy 10 rfl rfl (y_lg rfl rfl) ?_
  refine zp 11 rfl rfl (y_fieldAddr rfl) <| zy 12 rfl rfl (y_ld rfl rfl) <| zy 13 rfl rfl (y_lg rfl rfl) <| zy 14 rfl rfl (y_lg rfl rfl) <| zy 15 rfl rfl (y_lg rfl rfl) <| ze 3 rfl rfl <| e_call' rfl (RPutV_spec x.t.toNat 4 (by omega) (by omega)) ?_
  rintro _ M2 _ hM2 ⟨rfl, A2, c2, rfl, hA2⟩
  replace he := he.trans hM2
  try replace hA3 := hA3.mono hM2
  try replace hA5 := hA5.mono hM2
  try replace hrow := hrow.mono hM2
  try replace hB := hB.mono hM2
  refine ⟨⟨he, Keeps.mem⟩, ?_⟩
  refine ze 7 rfl rfl <| e_call' rfl (RPutV_spec x.o.toNat 4 (by omega) (by omega)) ?_
  rintro _ M3 _ hM3 ⟨rfl, A3, c3, rfl, hA3⟩
  replace he := he.trans hM3
  try replace hA2 := hA2.mono hM3
  try replace hA5 := hA5.mono hM3
  try replace hrow := hrow.mono hM3
  try replace hB := hB.mono hM3
  refine ⟨⟨he, Keeps.mem⟩, ?_⟩
  refine ze 16 rfl rfl <| e_call' rfl (RKeys_spec hx hy (hname.mono he) (hsec.mono he)) ?_
  rintro _ M4 _ hM4 ⟨rfl, A4, c4, kvs, rfl, hrow, hB⟩
  replace he := he.trans hM4
  try replace hA2 := hA2.mono hM4
  try replace hA3 := hA3.mono hM4
  refine ⟨⟨he, Keeps.mem⟩, ?_⟩
  refine ze 17 rfl rfl <| e_call' rfl (RRoot_spec (treeV x.t) (hname.mono he) hrow hB (keysB_le _ _ _ _)) ?_
  rintro _ M5 _ hM5 ⟨rfl, A5, m5, c5, rfl, hA5⟩
  rw [if_pos ⟨by rw [hnl]; exact hx.s, hH10, hx.lv.symm⟩] at hA5
  replace he := he.trans hM5
  try replace hA2 := hA2.mono hM5
  try replace hA3 := hA3.mono hM5
  refine ⟨⟨he, Keeps.mem⟩, ?_⟩
  refine ze 18 rfl rfl <| e_buildSlice rfl (by decide) <| fun b7 => ⟨⟨he, Keeps.mem⟩, ?_⟩
  refine .pub b7 inferInstance <| fun M6 hM6 hb7 => ?_
  have he6 := he.trans hM6
  have hfl : [putB x.t.toNat 4, putB x.o.toNat 4, name, rootB (treeV x.t) name (keysX x name sec)].flatten = pubB x name sec := by simp [pubB]
  have hm5 := hA5.size
  have hrl : (rootB (treeV x.t) name (keysX x name sec)).length ≤ 32 := (lvl_short _ _ _ _).get 0
  have hfll : (pubB x name sec).length ≤ 100 := by
   rw [pubB, List.length_append, List.length_append, List.length_append, putB_length, putB_length]; omega
  refine ze 19 rfl rfl <| e_call' rfl (RCat_own (Row.whole hb7 rfl (by omega)) (.cons (hA2.mono hM6) (.cons (hA3.mono hM6) (.cons (hname.mono he6) (.cons (hA5.mono hM6) .nil)))) (by rw [hfl]; omega)) ?_
  rintro _ _ _ _ ⟨rfl, A7, c7, E7, rfl, hE7, rfl⟩
  rw [hfl] at hE7
  rw [hfl]
  refine ⟨⟨he6, Keeps.mem⟩, ?_⟩
  refine .pubRow hE7 <| fun M7 hM7 hA7 => zp 20 rfl rfl (y_assign (v := .slice _ _ _) rfl) <| zp 21 rfl rfl (y_assign rfl) <| zz <| .then_normal <| .s2 4 5 rfl rfl <| x_ret (.dropTo L inferInstance (ret2 rfl rfl rfl (he6.trans hM7) ⟨rfl, _, _, _, by rw [hmay], by rw [pubV, if_pos hmay]; exact hA7⟩))
theorem RSign_spec (x : PairV) (hname : Bytes M NA nl nc name) (hsec : Bytes M SA sl sc sec) (q : UInt32) (htext : Bytes M TA tl tc text) :
    Con Tryz.prog 38 #[.agg (List.toArray x.cells), .agg (List.toArray (seedC NA nl nc SA sl sc)), .int .u32 (q.toNat : Int), .slice TA tl tc] G M L (fun v M' L' => L' = L ∧ ∃ A m c, v = .tuple #[.slice A m c, .int .i64 (lsigE x nl sl q.toNat tl)] ∧ Bytes M' A m c (lsigV x nl sl name sec q.toNat tl text)) noPanic := by
  have hql := q.toNat_lt
  refine enter (args := [_, _, _, _]) (fn := Tryz.f38) ⟨Tryz.func38, rfl, by kernel_rfl, by kernel_rfl⟩ 73 rfl <| zr <| tl_e rfl <| e_box rfl <| fun b1 => tl_e rfl <| e_box rfl <| fun b2 => as0 rfl rfl <| as0 rfl rfl <| zq <| .s4 2 3 4 5 rfl rfl rfl rfl <| zr <| tl_y rfl (y_lg rfl rfl) ?_
  refine tl_y rfl (y_lg rfl rfl) <| tl_e rfl <| e_call' rfl (Rmay_spec x) ?_
  rintro _ _ _ _ ⟨rfl, rfl, rfl⟩
  refine asI rfl rfl <| zq <| zr2 <| mvI rfl rfl <| tl_y rfl (y_neq rfl rfl) <| zq <| .s6 2 3 4 5 10 21 rfl rfl rfl rfl rfl rfl <| x_cond rfl (fun hc1 => ?_) (fun hc1 => ?_)
  ·
    refine zr <| mvI rfl rfl <| as0 rfl rfl <| asI rfl rfl <| zq <| .s2 8 9 rfl rfl <| x_ret (.then_ret (.dropTo L inferInstance (ret2 rfl rfl rfl (Le.refl _) ⟨rfl, _, _, _, by rw [lsigE, if_pos hc1], by rw [lsigV, lsigE, if_pos hc1, if_neg hc1]; exact Row.nil _ _⟩)))
  ·
    have hmay : mayC x nl sl = 0 := Classical.not_not.1 hc1
    obtain ⟨hok, hH10, hy⟩ := mayC_zero hmay
    obtain ⟨n, w, p, H, hx⟩ := okP_facts hok
    obtain ⟨z1, z2, z3, z4, z5⟩ := hx.sizes
    have hn32 := hx.o.n32
    have hnl := hy.2.1
    have hnn := hname.size
    have hpw := pw2_25 hx.h2
    have hxt := x.t.toNat_lt
    refine x_skip <| .then_normal <| zr <| tl_y rfl (y_lg rfl rfl) <| tl_e rfl <| e_call' rfl (RSets12_spec x) ?_
    rintro _ _ _ _ ⟨rfl, rfl, rfl⟩
    refine mvU rfl rfl <| zx rfl rfl <| zx rfl rfl <| zx rfl rfl <| tl_e rfl <| e_alloc <| fun b3 => tl_e rfl <| e_alloc <| fun b4 => tl_e rfl <| e_st rfl rfl (by rfl) (by rfl) <| tl_e rfl <| e_st rfl rfl (by rfl) (by rfl) <| asB rfl rfl <| zq ?_
    refine .s6 2 3 4 5 11 12 rfl rfl rfl rfl rfl rfl <| zr2 <| mvS rfl rfl <| tl_y rfl (y_len rfl) <| tl_y rfl (y_gtr rfl rfl) <| zq <| x_cond rfl (fun hc2 => ?_) (fun hc2 => ?_)
    ·
      refine zr <| as0 rfl rfl <| as0 rfl rfl <| zq <| .s2 8 9 rfl rfl <| x_ret (.then_ret (.dropTo L inferInstance (ret2 rfl rfl rfl (Le.refl _) (by
        have e : lsigE x nl sl q.toNat tl = 1 := by rw [lsigE, if_neg hc1, if_pos (by omega)]
        exact ⟨rfl, _, _, _, by rw [e], by rw [lsigV, e]; exact Row.nil _ _⟩))))
    ·
      refine x_skip <| .then_normal <| zr2 <| mvI rfl rfl <| tl_y rfl (y_convN64 rfl (by omega)) <| tl_y rfl (y_lg rfl rfl) <| tl_e rfl <| e_call' rfl (RLeaves_spec (treeV x.t)) ?_
      rintro _ _ _ _ ⟨rfl, rfl, rfl⟩
      rw [hx.lv]
      refine tl_y rfl (y_geq rfl rfl) <| zq <| .s7 2 3 4 5 11 12 36 rfl rfl rfl rfl rfl rfl rfl <| x_cond rfl (fun hc3 => ?_) (fun hc3 => ?_)
      ·
        refine zr <| as0 rfl rfl <| as0 rfl rfl <| zq <| .s2 8 9 rfl rfl <| x_ret (.then_ret (.dropTo L inferInstance (ret2 rfl rfl rfl (Le.refl _) (by
          have e : lsigE x nl sl q.toNat tl = 9 := by rw [lsigE, if_neg hc1, if_neg (by omega), hx.lv, if_pos (by omega)]
          exact ⟨rfl, _, _, _, by rw [e], by rw [lsigV, e]; exact Row.nil _ _⟩))))
      ·
        have hq : q.toNat < pw2 H := by omega
        have htl : tl ≤ 65536 := by omega
        have hE0 : lsigE x nl sl q.toNat tl = 0 := by rw [lsigE, if_neg hc1, if_neg (by omega), hx.lv, if_neg (by omega)]
        obtain ⟨sgl, _, _, _⟩ := sig_parts hx.o (name := name) (by omega) sec q.toNat text
        obtain ⟨H0, hH0⟩ : ∃ H0, H0 = putB q.toNat 4 ++ (sigB (otsV x.o) name sec q.toNat text ++ putB x.t.toNat 4) := ⟨_, rfl⟩
        have hfl : [putB q.toNat 4, sigB (otsV x.o) name sec q.toNat text, putB x.t.toNat 4].flatten = H0 := by rw [hH0]; simp
        have hfll : H0.length = 8 + sizeN (otsV x.o) := by rw [hH0, List.length_append, List.length_append, putB_length, putB_length, sgl]; omega
        refine x_skip <| .then_normal <| x_seq <| x_meet (I := fun F D M3 L3 => ∃ (A : Option Addr) (c : Nat) (E : Own), F = [(2, .int .u32 (q.toNat : Int)), (5, .pointer (some ⟨b2, 0, none⟩)), (11, .pointer (some ⟨b3, 0, none⟩)), (12, .pointer (some ⟨b4, 0, none⟩)), (14, .slice A H0.length c)] ∧ D = [] ∧ Le M M3 ∧ OwnRow 5 1 A H0.length c (H0.map bv) E ∧ DropTo L3 (E ++ ((b4, .cells (List.toArray (treeV x.t).cells) 29 (0, 0)) :: (b3, .cells (List.toArray (otsV x.o).cells) 27 (0, 0)) :: (b2, .cells (List.toArray (seedC NA nl nc SA sl sc)) 49 (0, 0)) :: L))) ?_ (fun Jd9 => ?_)
        ·
          rintro _ _ M1 L1 ⟨A0, c0, E0, rfl, rfl, hd, hE0', hdr⟩  -- slots [2, 5, 11, 12, 14]
          refine .dropTo _ hdr <| x_seq ?_
          have he : Le M1 M1 := Le.refl _
          refine x_draw 10 hmix rfl <| zy 0 rfl rfl (y_lg rfl rfl) <| zp 1 rfl rfl (y_fieldAddr rfl) <| zy 2 rfl rfl (y_ld rfl rfl) <| zy 3 rfl rfl (y_lg rfl rfl) <| zy 4 rfl rfl (y_lg rfl rfl) <| zy 5 rfl rfl (y_lg rfl rfl) <| zp 7 rfl rfl (y_move (v := .int _ _) rfl) <| ze 6 rfl rfl <| e_call' rfl (RKeys_spec hx hy (hname.mono hd) (hsec.mono hd)) ?_
          rintro _ M4 _ hM4 ⟨rfl, A4, c4, kvs, rfl, hrow, hB⟩
          replace hd := hd.trans hM4
          replace he := he.trans hM4
          refine ⟨⟨he, Keeps.mem⟩, ?_⟩
          refine ze 8 rfl rfl <| e_call' rfl (RWay_spec (treeV x.t) (hname.mono hd) hrow hB (keysB_le _ _ _ _) q) ?_
          rintro _ M5 _ hM5 ⟨rfl, AW, mW, cW, wvs, rfl, hwr, hwB⟩
          rw [if_pos ⟨⟨by rw [hnl]; exact hx.s, hH10, hx.lv.symm⟩, hq⟩] at hwB
          replace hd := hd.trans hM5
          replace he := he.trans hM5
          obtain ⟨W, hW⟩ : ∃ W, W = wayB (treeV x.t) name (keysX x name sec) q.toNat (treeV x.t).h.toNat := ⟨_, rfl⟩
          have hwfl := way_le2 (x := x) name sec q.toNat (treeV x.t).h.toNat
          have hwl : W.length = H := by rw [hW, wayB_len, hx.th]; rfl
          rw [← hW] at hwB hwfl
          have hHN : (treeV x.t).h.toNat ≤ 25 := by rw [hx.th]; exact hx.h2
          have hwvl := hwB.len
          obtain rfl : mW = H := by have := hwr.len; omega
          have hmW := hx.h2
          obtain ⟨g, o, rfl, hcell⟩ := hwr.addr (by have := hx.h1; omega)
          refine ⟨⟨he, Keeps.mem⟩, ?_⟩
          refine zp 9 rfl rfl (y_assign (v := .slice _ _ _) rfl) <| zz <| .then_normal <| .s2 14 15 rfl rfl <| zr2 <| as0 rfl rfl <| zq <| x_block ?_
          refine x_loop (I := fun m' F D M8 L8 => ∃ (i : Nat) (A : Option Addr) (m c : Nat) (E : Own), m' = mW - i ∧ i ≤ mW ∧ m = (H0 ++ (W.take i).flatten).length ∧ OwnRow 5 1 A m c ((H0 ++ (W.take i).flatten).map bv) E ∧ D = [] ∧ M5 = M8 ∧ L8 = E ++ ((b4, .cells (List.toArray (treeV x.t).cells) 29 (0, 0)) :: (b3, .cells (List.toArray (otsV x.o).cells) 27 (0, 0)) :: (b2, .cells (List.toArray (seedC NA nl nc SA sl sc)) 49 (0, 0)) :: L) ∧ F = [(14, .slice A m c), (15, .slice (some ⟨g, o, none⟩) mW cW), (16, .int .i64 (i : Int))]) (mW) (F0 := [(14, _), (15, _), (16, _)]) ?_ (.cons rfl (.cons rfl (.cons rfl .nil))) ?_  -- slots [14, 15, 16], written [14, 16]
          · exact ⟨0, A0, _, c0, E0, rfl, by omega, by rw [List.take_zero, List.flatten_nil, List.append_nil], by rw [List.take_zero, List.flatten_nil, List.append_nil]; exact hE0', rfl, rfl, rfl, rfl⟩
          rintro m _ _ M8 _ ⟨i, A, m, c, E, rfl, hi, hm, hE, rfl, rfl, rfl, rfl⟩
          refine zr2 <| mvI rfl rfl <| mvS rfl rfl <| tl_y rfl (y_len rfl) <| tl_y rfl (y_lss rfl rfl) <| zq <| x_cond rfl (fun hc4 => ?_) (fun hc4 => ?_)
          ·
            have hip : i < mW := by omega
            obtain ⟨A2, n2, c2, hv2, hb2⟩ := hwB.get i (by omega)
            have hn2 := hb2.size
            have hf1 := flatten_take_le W (i + 1)
            have hf2 : (W.take (i + 1)).flatten = (W.take i).flatten ++ W.getD i [] := by
              rw [take_snoc W i [] (by omega), List.flatten_append, List.flatten_singleton]
            have hf3 : (W.take (i + 1)).flatten.length = (W.take i).flatten.length + n2 := by rw [hf2, List.length_append, hn2]
            rw [List.length_append] at hm
            refine x_skip <| .then_normal <| .s3 14 15 16 rfl rfl rfl <| x_seq <| x_block <| x_region <| mvS rfl rfl <| mvS rfl rfl <| mvI rfl rfl <| tl_y rfl (y_indexAddr rfl rfl (by omega)) <| tl_y rfl (y_load rfl rfl (.at_ (hcell _ i _ hv2) (by omega))) ?_
            refine tl_e rfl <| e_append (by decide) rfl rfl hE (.row hb2) (all_one_bv _) (by omega) (by omega) <| fun A3 c3 E3 hE3 => ?_
            rw [← List.map_append, List.append_assoc, ← hf2] at hE3
            refine asS rfl rfl <| tl_nil <| .block_normal <| .then_normal <| .s3 14 15 16 rfl rfl rfl <| x_region <| mvI rfl rfl <| tl_y rfl (y_addI rfl rfl (by omega)) <| asI rfl rfl <| tl_nil <| .loop_next (m' := mW - (i + 1)) (by omega) (F' := [(14, _), (15, _), (16, _)]) (.cons rfl (.cons rfl (.cons rfl .nil))) ?_
            exact ⟨i + 1, A3, m + n2, c3, E3, rfl, by omega, by rw [List.length_append, hf3]; omega, hE3, rfl, rfl, rfl, rfl⟩
          ·
            obtain rfl : i = mW := by omega
            refine .pubRow hE <| fun M9 hM9 hrow9 => x_exit <| .then_exit <| .loop_exit <| .block_exit <| .then_normal <| .s1 14 rfl <| zr <| mvS rfl rfl <| asS rfl rfl <| as0 rfl rfl <| zq <| x_ret (.dropTo L inferInstance <| ret2 rfl rfl rfl (hd.trans hM9) ⟨rfl, _, _, _, by rw [hE0], by
              rw [lsigV, if_pos hE0, lsigB, ← hW]
              rw [show i = W.length by omega, List.take_length, hH0, List.append_assoc, List.append_assoc] at hrow9
              exact hrow9⟩)
        ·
          have he : Le M M := Le.refl _
          refine x_draw 15 hmix rfl <| zp 0 rfl rfl (y_move (v := .int _ _) rfl) <| zp 1 rfl rfl (y_convN64 rfl (by omega)) <| zy 3 rfl rfl (y_lg rfl rfl) <| zy 4 rfl rfl (y_lg rfl rfl) <| zp 5 rfl rfl (y_move (v := .int _ _) rfl) <| zp 6 rfl rfl (y_move (v := .slice _ _ _) rfl) <| zp 8 rfl rfl (y_fieldAddr rfl) <| zy 9 rfl rfl (y_ld rfl rfl) <| zp 10 rfl rfl (y_convN64 rfl (by omega)) ?_
          refine ze 2 rfl rfl <| e_call' rfl (RPutV_spec q.toNat 4 (by omega) (by omega)) ?_
          rintro _ M6 _ hM6 ⟨rfl, AQ, cQ, rfl, hAQ⟩
          replace he := he.trans hM6
          try replace hAS := hAS.mono hM6
          try replace hAT := hAT.mono hM6
          refine ⟨⟨he, Keeps.mem⟩, ?_⟩
          refine ze 7 rfl rfl <| e_call' rfl (RoSign_spec (otsV x.o) (hname.mono he) (hsec.mono he) q (htext.mono he)) ?_
          rintro _ M7 _ hM7 ⟨rfl, AS, mS, cS, rfl, hAS⟩
          rw [if_pos ⟨hy, htl⟩] at hAS
          replace he := he.trans hM7
          try replace hAQ := hAQ.mono hM7
          try replace hAT := hAT.mono hM7
          refine ⟨⟨he, Keeps.mem⟩, ?_⟩
          refine ze 11 rfl rfl <| e_call' rfl (RPutV_spec x.t.toNat 4 (by omega) (by omega)) ?_
          rintro _ M8 _ hM8 ⟨rfl, AT, cT, rfl, hAT⟩
          replace he := he.trans hM8
          try replace hAQ := hAQ.mono hM8
          try replace hAS := hAS.mono hM8
          refine ⟨⟨he, Keeps.mem⟩, ?_⟩
          refine ze 12 rfl rfl <| e_buildSlice rfl (by decide) <| fun b7 => ⟨⟨he, Keeps.mem⟩, ?_⟩
          refine .pub b7 inferInstance <| fun M10 hM10 hb7 => ?_
          have he6 := he.trans hM10
          refine ze 13 rfl rfl <| e_call' rfl (RCat_own (Row.whole hb7 rfl (by omega)) (.cons (hAQ.mono hM10) (.cons (hAS.mono hM10) (.cons (hAT.mono hM10) .nil))) (by rw [hfl]; omega)) ?_
          rintro _ _ _ _ ⟨rfl, A7, c7, E7, rfl, hE7, rfl⟩
          rw [hfl] at hE7
          rw [hfl]
          refine ⟨⟨he6, Keeps.mem⟩, ?_⟩
          refine zp 14 rfl rfl (y_assign (v := .slice _ _ _) rfl) <| zz <| .then_normal <| .sub (F' := [(2, _), (5, _), (11, _), (12, _), (14, _)]) (.cons rfl (.cons rfl (.cons rfl (.cons rfl (.cons rfl .nil))))) <| Jd9 _ _ _ _ ?_
          exact ⟨A7, c7, E7, rfl, rfl, he6, hE7, inferInstance⟩
theorem RLight_spec (x : PairV) :
  Con Tryz.prog 34 #[.agg (List.toArray x.cells)] G M L (fun v M' L' => M = M' ∧ L = L' ∧ v = .bool (decide (¬ okP x ∨ 10 < (treeV x.t).h ∨ ((otsV x.o).w ≤ 4 ∧ (otsV x.o).p ≤ 140) ∧ (treeV x.t).h ≤ 2))) noPanic := by
 refine enter (args := [_]) (fn := Tryz.f34) ⟨Tryz.func34, rfl, by kernel_rfl, by kernel_rfl⟩ 28 rfl <| zr <| tl_e rfl <| e_box rfl <| fun b1 => as0 rfl rfl <| zq <| zr <| tl_y rfl (y_lg rfl rfl) <| tl_e rfl <| e_call' rfl (RSets12_spec x) ?_
 rintro _ _ _ _ ⟨rfl, rfl, rfl⟩
 refine mvU rfl rfl <| zx rfl rfl <| zx rfl rfl <| zx rfl rfl <| tl_e rfl <| e_alloc <| fun b2 => tl_e rfl <| e_alloc <| fun b3 => tl_e rfl <| e_st rfl rfl (by rfl) (by rfl) <| tl_e rfl <| e_st rfl rfl (by rfl) (by rfl) <| asB rfl rfl <| zq ?_
 refine .s3 3 4 5 rfl rfl rfl <| zr <| mvB rfl rfl <| tl_y rfl (y_notd rfl) <| mvB rfl rfl <| tl_cases (s := 14) rfl (fun hk1 => ?_) (fun hk1 => ?_)
 ·
  refine tl_skip rfl <| tl_skip rfl <| tl_skip rfl <| tl_y rfl (y_pickT rfl rfl) <| mvB rfl rfl <| tl_skip rfl <| tl_skip rfl <| tl_skip rfl <| tl_skip rfl <| tl_skip rfl ?_
  refine tl_skip rfl <| tl_skip rfl <| tl_y rfl (y_pickT rfl rfl) <| asB rfl rfl <| zq <| .s1 2 rfl <| x_ret (.dropTo L inferInstance (ret1 rfl rfl (Le.refl _) ⟨rfl, rfl, congrArg Value.bool (decide_eq_true (.inl hk1)).symm⟩))
 ·
  refine tl_y rfl (y_fieldAddr rfl) <| tl_y rfl (y_ld rfl rfl) <| tl_y rfl (y_gtr rfl rfl) <| tl_y rfl (y_pickF rfl rfl) <| mvB rfl rfl <| tl_cases (s := 19) rfl (fun hk2 => ?_) (fun hk2 => ?_)
  ·
   refine tl_skip rfl <| tl_skip rfl <| tl_skip rfl <| tl_skip rfl <| tl_skip rfl <| tl_skip rfl <| tl_skip rfl <| tl_y rfl (y_pickT rfl rfl) <| asB rfl rfl <| zq ?_
   refine .s1 2 rfl <| x_ret (.dropTo L inferInstance (ret1 rfl rfl (Le.refl _) ⟨rfl, rfl, congrArg Value.bool (decide_eq_true (.inr (.inl hk2))).symm⟩))
  ·
   refine tl_y rfl (y_lg rfl rfl) <| tl_e rfl <| e_call' rfl (RoLight_spec (otsV x.o)) ?_
   rintro _ _ _ _ ⟨rfl, rfl, rfl⟩
   refine mvB rfl rfl <| tl_cases (s := 22) rfl (fun hk3 => ?_) (fun hk3 => ?_)
   ·
    refine tl_y rfl (y_fieldAddr rfl) <| tl_y rfl (y_ld rfl rfl) <| tl_y rfl (y_leq rfl rfl) <| tl_y rfl (y_pickT rfl rfl) <| tl_y rfl (y_pickF rfl rfl) <| asB rfl rfl <| zq <| .s1 2 rfl <| x_ret (.dropTo L inferInstance (ret1 rfl rfl (Le.refl _) ⟨rfl, rfl, by
     congr 1
     rw [decide_eq_decide]
     exact ⟨fun h => .inr (.inr ⟨hk3, h⟩), fun h => by rcases h with h | h | h; exact absurd h hk1; exact absurd h hk2; exact h.2⟩⟩))
   ·
    refine tl_skip rfl <| tl_skip rfl <| tl_skip rfl <| tl_y rfl (y_pickF rfl rfl) <| tl_y rfl (y_pickF rfl rfl) <| asB rfl rfl <| zq <| .s1 2 rfl <| x_ret (.dropTo L inferInstance (ret1 rfl rfl (Le.refl _) ⟨rfl, rfl, congrArg Value.bool (decide_eq_false (fun h => by rcases h with h | h | h; exact hk1 h; exact hk2 h; exact hk3 h.1)).symm⟩))
end
end Go.Proofs.YtiimjodbaogjbaaGreatDoor
set_option linter.unusedVariables false
set_option linter.unusedSimpArgs false
set_option linter.constructorNameAsVariable false
namespace Go.Proofs.YtiimjodbaogjbaaGreatDoor
open Go Go.Eng
section
variable {G : World} {M : Mem} {L R : Own}
theorem RPut_own (v : UInt64) (n : Nat) (hn : n ≤ 8) :
    Con Tryz.prog 19 #[.int .u64 (v.toNat : Int), .int .i64 (n : Int)] G M L (fun r M' L' => M = M' ∧ ∃ A c E, r = .slice A n c ∧ OwnRow 5 1 A n c ((putB v.toNat n).map bv) E ∧ L' = E ++ L) noPanic := by
  have hv := v.toNat_lt
  refine enter (args := [_, _]) (fn := Tryz.f19) ⟨Tryz.func19, rfl, by kernel_rfl, by kernel_rfl⟩ 28 rfl <| zr <| as0 rfl rfl <| zq <| zr2 <| mvI rfl rfl <| tl_y rfl (y_lss rfl rfl) <| mvB rfl rfl <| tl_set (s := 9) (u := .bool false) rfl (by rw [decide_eq_false]; omega) <| mvI rfl rfl ?_
  refine tl_y rfl (y_gtr rfl rfl) <| tl_y rfl (y_pickF rfl rfl) <| zq <| .s3 0 1 12 rfl rfl rfl <| x_false rfl (by rw [decide_eq_false]; omega) <| x_skip <| .then_normal <| zr <| tl_e rfl <| e_buildSlice0 <| fun b1 => asS rfl rfl <| zq ?_
  refine zr2 <| as0 rfl rfl <| zq <| x_block ?_
  refine x_loop (I := fun m' F D M1 L1 => ∃ (k q : Nat) (A : Option Addr) (c : Nat) (E : Own), m' = n - k ∧ k ≤ n ∧ q = v.toNat / 256 ^ k ∧ q ≤ v.toNat ∧ OwnRow 5 1 A k c ((putB v.toNat k).map bv) E ∧ D = [] ∧ M = M1 ∧ L1 = E ++ L ∧ F = [(0, .int .u64 (q : Int)), (1, .int .i64 n), (5, .slice A k c), (6, .int .i64 k)]) (n) (F0 := [(0, _), (1, _), (5, _), (6, _)]) ?_ (.cons rfl (.cons rfl (.cons rfl (.cons rfl .nil)))) ?_  -- slots [0, 1, 5, 6], written [0, 5, 6]
  · exact ⟨0, v.toNat, _, _, _, rfl, by omega, by rw [Nat.pow_zero, Nat.div_one], Nat.le_refl _, OwnRow.made00, rfl, rfl, rfl, rfl⟩
  rintro m _ _ M1 L1 ⟨k, q, A, c, E, rfl, hk, hq, hqv, hE, rfl, rfl, rfl, rfl⟩
  refine zr2 <| mvI rfl rfl <| mvI rfl rfl <| tl_y rfl (y_lss rfl rfl) <| zq <| x_cond rfl (fun hc2 => ?_) (fun hc2 => ?_)
  ·
    have hkn : k < n := by omega
    have hq2 : q / 256 = v.toNat / 256 ^ (k + 1) := by rw [hq, Nat.div_div_eq_div_mul, Nat.pow_succ]
    refine x_skip <| .then_normal <| x_seq <| x_block <| zr <| mvI rfl rfl <| tl_y rfl (y_remI rfl rfl (by omega)) <| tl_y rfl (y_convN8 rfl (by omega)) ?_
    rw [show (q : Int) % 256 = (((UInt8.ofNat (q % 256)).toNat : Nat) : Int) by rw [UInt8.toNat_ofNat']; omega]
    refine tl_e rfl <| e_buildSlice rfl (by decide) <| fun b2 => mvS rfl rfl <| tl_e rfl <| e_append1 (by decide) rfl rfl (OwnRow.made (n := 1) rfl (by omega)) (src_in (hE.in_ inferInstance (by omega))) (all_one_bv _) (by omega) (by omega) <| fun A2 c2 E2 hE2 => ?_
    rw [show 1 + k = k + 1 by omega] at hE2 ⊢
    refine .dropTo (E2 ++ L) inferInstance <| asS rfl rfl <| zq <| .s4 0 1 5 6 rfl rfl rfl rfl <| x_region <| mvI rfl rfl <| tl_y rfl (y_quoN64 rfl rfl (by omega)) <| asI rfl rfl <| tl_nil <| .block_normal <| .then_normal <| x_region ?_
    refine mvI rfl rfl <| tl_y rfl (y_addI rfl rfl (by omega)) <| asI rfl rfl <| tl_nil <| .loop_next (m' := n - (k + 1)) (by omega) (F' := [(0, _), (1, _), (5, _), (6, _)]) (.cons rfl (.cons rfl (.cons rfl (.cons rfl .nil)))) ?_
    exact ⟨k + 1, q / 256, A2, c2, E2, rfl, by omega, hq2, by omega, by rw [putB_cons, ← hq]; exact hE2, rfl, rfl, rfl, rfl⟩
  ·
    refine x_exit <| .then_exit <| .loop_exit <| .block_exit <| .then_normal <| .s1 5 rfl <| zr <| mvS rfl rfl <| asS rfl rfl <| zq ?_
    obtain rfl : k = n := by omega
    refine x_ret (ret1 rfl rfl (Le.refl _) ⟨rfl, _, _, _, rfl, hE, rfl⟩)
end
section
variable {G : World} {M : Mem} {L : Own}
theorem RPutVO_spec (v n : Nat) (hv : v < 18446744073709551616) (hn : n ≤ 8) :
  Con Tryz.prog 19 #[.int .u64 (v : Int), .int .i64 (n : Int)] G M L (fun r M' L' => M = M' ∧ ∃ A c E, r = .slice A n c ∧ OwnRow 5 1 A n c ((putB v n).map bv) E ∧ L' = E ++ L) noPanic := by
 have h := RPut_own (G := G) (M := M) (L := L) (UInt64.ofNat v) n hn
 rw [UInt64.toNat_ofNat', Nat.mod_eq_of_lt hv] at h
 exact h
end
end Go.Proofs.YtiimjodbaogjbaaGreatDoor
set_option linter.unusedVariables false
set_option linter.unusedSimpArgs false
set_option linter.constructorNameAsVariable false
namespace Go.Proofs.YtiimjodbaogjbaaGreatDoor
open Go Go.Eng
theorem flat_drop {α : Type} {f : α → List Value} {s : Nat} (hf : ∀ a, (f a).length = s) : ∀ (l : List α) (k : Nat), (l.drop k).flatMap f = (l.flatMap f).drop (k * s)
 | [], k => by simp
 | a :: l, 0 => by simp
 | a :: l, k + 1 => by
  have e : (f a).drop ((k + 1) * s) = [] := List.drop_of_length_le (by rw [hf, Nat.succ_mul]; omega)
  rw [List.drop_succ_cons, List.flatMap_cons, List.drop_append, hf, show (k + 1) * s - s = k * s by rw [Nat.succ_mul]; omega, e, List.nil_append]
  exact flat_drop hf l k
theorem okL_drop {l : List PairV} (h : okL l) {k : Nat} (hk : k < l.length) : okL (l.drop k) := by
  obtain ⟨h1, h2, h3⟩ := h
  have hg : (l.drop k).getD 0 p0 = l.getD k p0 := by rw [List.getD_eq_getElem?_getD, List.getD_eq_getElem?_getD, List.getElem?_drop, Nat.add_zero]
  have hmk : l.getD k p0 ∈ l := getD_mem l k p0 hk
  refine ⟨⟨by rw [List.length_drop]; omega, by rw [List.length_drop]; omega⟩, fun p hp => ?_, ?_⟩
  · have e1 := h2 p (List.mem_of_mem_drop hp)
    have e2 := h2 _ hmk
    rw [good, hg]
    exact ⟨e1.1, e1.2.1.trans e2.2.1.symm, e1.2.2.trans e2.2.2.symm⟩
  · rw [List.map_drop]
    have : hsum ((l.map tv).drop k) ≤ hsum (l.map tv) := by
      have e := congrArg hsum (List.take_append_drop k (l.map tv))
      rw [hsum, List.map_append, List.sum_append] at e
      unfold hsum
      unfold hsum at e
      omega
    omega
section
variable {G : World} {M : Mem} {L : Own} {NA SA TA : Option Addr} {nl nc sl_ sc tl tc : Nat} {name sec text : List UInt8}
theorem prow_sub {A : Option Addr} {n c : Nat} {l : List PairV} (h : Row M 2 A n c (prow l)) {i j : Nat} (hij : i ≤ j) (hj : j ≤ n) : Row M 2 (sl A i c 2) (j - i) (c - i) (prow ((l.drop i).take (j - i))) := by
 have hle := h.le
 have h1 := Row.slice (l := i) (h := j) (m := c) h (by omega) (by omega) (by omega) (Nat.le_refl _)
 have e : ((prow l).drop (i * 2)).take ((j - i) * 2) = prow ((l.drop i).take (j - i)) := by
  rw [prow, prow, ← flat_drop pcl]
  generalize l.drop i = l'
  generalize j - i = k
  induction k generalizing l' with
  | zero => simp
  | succ k ih =>
   cases l' with
   | nil => simp
   | cons a l' => rw [List.take_succ_cons, List.flatMap_cons, List.flatMap_cons, Nat.succ_mul, Nat.add_comm (k * 2) 2, ← ih l', List.take_append, pcl, show 2 + k * 2 - 2 = k * 2 by omega, List.take_of_length_le (by rw [pcl]; omega)]
 rwa [e] at h1
theorem RTotal_spec {A : Option Addr} {n c : Nat} {l : List PairV} (h : Row M 2 A n c (prow l)) :
    Con Tryz.prog 31 #[.slice A n c] G M L (fun v M' L' => M = M' ∧ L = L' ∧ v = .int .u64 (totN l : Nat)) noPanic := by
  have hmx := h.max
  have hle := h.le
  have hln : l.length = n := by have := h.len; rw [prow, flat_len pcl] at this; omega
  refine enter (args := [_]) (fn := Tryz.f31) ⟨Tryz.func31, rfl, by kernel_rfl, by kernel_rfl⟩ 36 rfl <| zr <| as0 rfl rfl <| zq <| zr <| as0 rfl rfl <| zq <| zr2 <| mvS rfl rfl <| tl_e rfl <| e_call' rfl (RMay13_spec h) ?_
  rintro _ _ _ _ ⟨rfl, rfl, rfl⟩
  refine tl_y rfl (y_notd rfl) <| zq <| x_cond rfl (fun hc1 => ?_) (fun hc1 => ?_)
  ·
    refine zr <| as0 rfl rfl <| zq <| .s1 2 rfl <| x_ret (.then_ret (ret1 rfl rfl (Le.refl _) ⟨rfl, rfl, by rw [totN, if_neg hc1]; rfl⟩))
  ·
    have hok : okL l := Classical.not_not.1 hc1
    have h60 := hok.2.2
    refine x_skip <| .then_normal <| .s2 0 3 rfl rfl <| zr2 <| as0 rfl rfl <| zq <| x_block ?_
    refine x_loop (I := fun m' F D M1 L1 => ∃ k : Nat, m' = n - k ∧ k ≤ n ∧ D = [] ∧ M = M1 ∧ L = L1 ∧ F = [(0, .slice A n c), (3, .int .u64 (pw2 (hsum ((l.take k).map tv)) : Nat)), (4, .int .i64 k)]) (n) (F0 := [(0, _), (3, _), (4, _)]) ?_ (.cons rfl (.cons rfl (.cons rfl .nil))) ?_  -- slots [0, 3, 4], written [3, 4]
    · exact ⟨0, rfl, by omega, rfl, rfl, rfl, rfl⟩
    rintro m _ _ _ _ ⟨k, rfl, hk, rfl, rfl, rfl, rfl⟩
    refine zr2 <| mvI rfl rfl <| mvS rfl rfl <| tl_y rfl (y_len rfl) <| tl_y rfl (y_lss rfl rfl) <| zq <| x_cond rfl (fun hc2 => ?_) (fun hc2 => ?_)
    ·
      have hkn : k < n := by omega
      obtain ⟨p, hp⟩ : ∃ p, l[k]? = some p := ⟨_, List.getElem?_eq_getElem (by omega)⟩
      have hmem : p ∈ l := List.mem_of_getElem? hp
      have htk : l.take (k + 1) = l.take k ++ [p] := by
        rw [List.take_add_one, hp]; rfl
      obtain ⟨hH, hH1, hH25⟩ := okP_h (hok.2.1 p hmem).1
      have hsn : hsum ((l.take (k + 1)).map tv) = hsum ((l.take k).map tv) + hN (tv p) := by rw [htk, List.map_append]; exact hsum_snoc _ _
      have hs60 : hsum ((l.take (k + 1)).map tv) ≤ hsum (l.map tv) := by rw [List.map_take]; exact hsum_take _
      obtain ⟨g, o, rfl, hcell⟩ := h.cellsN (by omega)
      have hc2 := fun L => hcell L (k * 2) 2 (by rw [prow, flat_len pcl]; omega)
      simp only [prow, flat_take pcl l k p hp] at hc2
      refine x_skip <| .then_normal <| .s3 0 3 4 rfl rfl rfl <| x_seq <| x_block <| zr <| mvS rfl rfl <| mvI rfl rfl <| tl_y rfl (y_indexAddr rfl rfl (by omega)) <| tl_y rfl (y_loadAgg rfl rfl (.at_ (hc2 _) (by omega))) <| tl_e rfl <| e_call' rfl (RSets12_spec p) ?_
      rintro _ _ _ _ ⟨rfl, rfl, rfl⟩
      refine mvU rfl rfl <| zx rfl rfl <| zx rfl rfl <| zx rfl rfl <| tl_e rfl <| e_alloc <| fun b1 => tl_e rfl <| e_alloc <| fun b2 => tl_e rfl <| e_st rfl rfl (by rfl) (by rfl) <| tl_e rfl <| e_st rfl rfl (by rfl) (by rfl) <| asB rfl rfl <| zq ?_
      refine .s4 0 3 4 6 rfl rfl rfl rfl <| zr <| as0 rfl rfl <| zq <| x_block ?_
      refine x_loop (I := fun m' F D M1 L1 => ∃ j : Nat, m' = hN (tv p) - j ∧ j ≤ hN (tv p) ∧ D = [] ∧ M = M1 ∧ (b2, .cells (List.toArray (treeV p.t).cells) 29 (0, 0)) :: (b1, .cells (List.toArray (otsV p.o).cells) 27 (0, 0)) :: L = L1 ∧ F = [(0, .slice (some ⟨g, o, none⟩) n c), (3, .int .u64 (pw2 (hsum ((l.take k).map tv) + j) : Nat)), (4, .int .i64 k), (6, .pointer (some ⟨b2, 0, none⟩)), (8, .int .i64 j)]) (hN (tv p)) (F0 := [(0, _), (3, _), (4, _), (6, _), (8, _)]) ?_ (.cons rfl (.cons rfl (.cons rfl (.cons rfl (.cons rfl .nil))))) ?_  -- slots [0, 3, 4, 6, 8], written [3, 8]
      · exact ⟨0, rfl, by omega, rfl, rfl, rfl, rfl⟩
      rintro m _ _ _ _ ⟨j, rfl, hj, rfl, rfl, rfl, rfl⟩
      refine zr2 <| mvI rfl rfl <| tl_y rfl (y_fieldAddr rfl) <| tl_y rfl (y_load (v := .int .i64 ((hN (tv p) : Nat) : Int)) rfl rfl (by rw [← hH]; exact .own inferInstance inferInstance)) <| tl_y rfl (y_lss rfl rfl) <| zq <| x_cond rfl (fun hc3 => ?_) (fun hc3 => ?_)
      ·
        have hj60 := pw2_60 (a := hsum ((l.take k).map tv) + (j + 1)) (by omega)
        have hdb := pw2_succ (hsum ((l.take k).map tv) + j)
        rw [← Nat.add_assoc] at hj60
        refine x_skip <| .then_normal <| .s5 0 3 4 6 8 rfl rfl rfl rfl rfl <| x_seq <| x_block <| x_region <| mvI rfl rfl <| tl_y rfl (y_mulN64 rfl rfl (by omega)) ?_
        rw [hdb]
        refine asI rfl rfl <| tl_nil <| .block_normal <| .then_normal <| x_region <| mvI rfl rfl <| tl_y rfl (y_addI rfl rfl (by omega)) <| asI rfl rfl <| tl_nil <| .loop_next (m' := hN (tv p) - (j + 1)) (by omega) (F' := [(0, _), (3, _), (4, _), (6, _), (8, _)]) (.cons rfl (.cons rfl (.cons rfl (.cons rfl (.cons rfl .nil))))) ?_
        exact ⟨j + 1, rfl, by omega, rfl, rfl, rfl, rfl⟩
      ·
        obtain rfl : j = hN (tv p) := by omega
        refine .dropTo L inferInstance <| x_exit <| .then_exit <| .loop_exit <| .block_exit <| .block_normal <| .then_normal <| .s3 0 3 4 rfl rfl rfl <| x_region <| mvI rfl rfl <| tl_y rfl (y_addI rfl rfl (by omega)) <| asI rfl rfl <| tl_nil <| .loop_next (m' := n - (k + 1)) (by omega) (F' := [(0, _), (3, _), (4, _)]) (.cons rfl (.cons rfl (.cons rfl .nil))) ?_
        exact ⟨k + 1, rfl, by omega, rfl, rfl, rfl, by rw [hsn]; rfl⟩
    ·
      obtain rfl : k = n := by omega
      rw [List.take_of_length_le (by omega)]
      refine x_exit <| .then_exit <| .loop_exit <| .block_exit <| .then_normal <| .s1 3 rfl <| zr <| mvI rfl rfl <| asI rfl rfl <| zq <| x_ret (ret1 rfl rfl (Le.refl _) ⟨rfl, rfl, by rw [totN, if_pos hok]⟩)
theorem RPlaces_spec {A : Option Addr} {n c : Nat} {l : List PairV} (h : Row M 2 A n c (prow l)) (x : UInt64) :
    Con Tryz.prog 26 #[.slice A n c, .int .u64 (x.toNat : Int)] G M L (fun v M' L' => L = L' ∧ ∃ A' n' c', v = .tuple #[.slice A' n' c', .int .i64 (plE l x.toNat)] ∧ Row M' 1 A' n' c' (u32r (plV l x.toNat))) noPanic := by
  have hmx := h.max
  have hle := h.le
  have hln : l.length = n := by have := h.len; rw [prow, flat_len pcl] at this; omega
  have hxl := x.toNat_lt
  refine enter (args := [_, _]) (fn := Tryz.f26) ⟨Tryz.func26, rfl, by kernel_rfl, by kernel_rfl⟩ 49 rfl <| zr <| as0 rfl rfl <| as0 rfl rfl <| zq <| zr2 <| mvS rfl rfl <| tl_e rfl <| e_call' rfl (RMay13_spec h) ?_
  rintro _ _ _ _ ⟨rfl, rfl, rfl⟩
  refine tl_y rfl (y_notd rfl) <| zq <| .s3 0 1 12 rfl rfl rfl <| x_cond rfl (fun hc1 => ?_) (fun hc1 => ?_)
  ·
    refine zr <| as0 rfl rfl <| as0 rfl rfl <| zq <| x_ret (.then_ret (ret2 rfl rfl rfl (Le.refl _) ⟨rfl, _, _, _, by rw [plE, if_neg hc1], by rw [plV, if_neg (fun h => hc1 h.1)]; exact Row.nil _ _⟩))
  ·
    have hok : okL l := Classical.not_not.1 hc1
    have h60 := hok.2.2
    refine x_skip <| .then_normal <| zr2 <| mvI rfl rfl <| mvS rfl rfl <| tl_e rfl <| e_call' rfl (RTotal_spec h) ?_
    rintro _ _ _ _ ⟨rfl, rfl, rfl⟩
    refine tl_y rfl (y_geq rfl rfl) <| zq <| .s3 0 1 16 rfl rfl rfl <| x_cond rfl (fun hc2 => ?_) (fun hc2 => ?_)
    ·
      refine zr <| as0 rfl rfl <| as0 rfl rfl <| zq <| x_ret (.then_ret (ret2 rfl rfl rfl (Le.refl _) ⟨rfl, _, _, _, by rw [plE, if_pos hok, if_neg (by omega)], by rw [plV, if_neg (fun h => by have := h.2; omega)]; exact Row.nil _ _⟩))
    ·
      have hxt : x.toNat < totN l := by omega
      have hn8 := hok.1.2
      refine x_skip <| .then_normal <| zr <| as0 rfl rfl <| zq <| zr2 <| as0 rfl rfl <| zq <| x_block ?_
      refine x_loop (I := fun m' F D M1 L1 => ∃ (k : Nat) (A1 : Option Addr) (c1 : Nat) (E : Own), m' = n - k ∧ k ≤ n ∧ Le M M1 ∧ OwnRow 22 1 A1 k c1 (u32r ((atsN (l.map tv) x.toNat).take k)) E ∧ D = [] ∧ L1 = E ++ L ∧ F = [(0, .slice A n c), (1, .int .u64 (x.toNat : Int)), (6, .slice A1 k c1), (7, .int .i64 k)]) (n) (F0 := [(0, _), (1, _), (6, _), (7, _)]) ?_ (.cons rfl (.cons rfl (.cons rfl (.cons rfl .nil)))) ?_  -- slots [0, 1, 6, 7], written [6, 7]
      · exact ⟨0, none, 0, [], rfl, by omega, Le.refl _, .nil, rfl, rfl, rfl⟩
      rintro m _ _ M1 _ ⟨k, A1, c1, E, rfl, hk, hM1, hE, rfl, rfl, rfl⟩
      refine zr2 <| mvI rfl rfl <| mvS rfl rfl <| tl_y rfl (y_len rfl) <| tl_y rfl (y_lss rfl rfl) <| zq <| x_cond rfl (fun hc3 => ?_) (fun hc3 => ?_)
      ·
        have hkn : k < n := by omega
        obtain ⟨p, hp⟩ : ∃ p, l[k]? = some p := ⟨_, List.getElem?_eq_getElem (by omega)⟩
        have hmem : p ∈ l := List.mem_of_getElem? hp
        have hokp := (hok.2.1 p hmem).1
        have hpt : (l.map tv)[k]? = some (tv p) := by rw [List.getElem?_map, hp]; rfl
        have hlt := atN_lt hpt x.toNat
        have hH25 := (okP_h hokp).2.2
        have hpw := pw2_25 hH25
        have hone := prow_sub (h.mono hM1) (i := k) (j := k + 1) (by omega) (by omega)
        have hone' : (l.drop k).take (k + 1 - k) = [p] := by
          rw [show k + 1 - k = 1 by omega, List.drop_eq_getElem_cons (by omega), List.take_succ_cons, List.take_zero, (List.getElem?_eq_some_iff.1 hp).2]
        rw [hone'] at hone
        have hat : atN (l.map tv) x.toNat k = x.toNat / pw2 (hsum ((l.map tv).drop (k + 1))) % pw2 (hN (tv p)) := by
          rw [atN, List.getD_eq_getElem?_getD, hpt]; rfl
        have hrest := prow_sub (h.mono hM1) (i := k + 1) (j := n) (by omega) (by omega)
        have hrest' : (l.drop (k + 1)).take (n - (k + 1)) = l.drop (k + 1) := List.take_of_length_le (by rw [List.length_drop]; omega)
        rw [hrest'] at hrest
        have hpos := pw2_pos (hsum ((l.map tv).drop (k + 1)))
        have hpos2 := pw2_pos (hN (tv p))
        have htk : (atsN (l.map tv) x.toNat).take (k + 1) = (atsN (l.map tv) x.toNat).take k ++ [atN (l.map tv) x.toNat k] := by
          rw [List.take_add_one, atsN_get _ _ (by rw [List.length_map]; omega)]; rfl
        refine x_skip <| .then_normal <| .s4 0 1 6 7 rfl rfl rfl rfl <| x_seq <| x_block <| zr <| as0 rfl rfl <| zq <| zr2 <| mvI rfl rfl <| tl_y rfl (y_addI rfl rfl (by omega)) ?_
        refine mvS rfl rfl <| tl_y rfl (y_len rfl) <| tl_y rfl (y_lss rfl rfl) <| zq <| .s6 0 1 6 7 8 27 rfl rfl rfl rfl rfl rfl <| x_cond rfl (fun hc4 => ?_) (fun hc4 => ?_)
        ·
          refine x_region <| mvS rfl rfl <| mvI rfl rfl <| tl_y rfl (y_addI rfl rfl (by omega)) <| tl_y rfl (y_sliceL rfl rfl (by omega)) ?_
          rw [show ((k : Int) + 1).toNat = k + 1 by omega]
          refine tl_e rfl <| e_call' rfl (RTotal_spec hrest) ?_
          rintro _ _ _ _ ⟨rfl, rfl, rfl⟩
          have htot : totN (l.drop (k + 1)) = pw2 (hsum ((l.map tv).drop (k + 1))) := by rw [totN, if_pos (okL_drop hok (by omega)), List.map_drop]
          rw [htot]
          refine asI rfl rfl <| zq <| .s5 0 1 6 7 8 rfl rfl rfl rfl rfl <| zr <| mvS rfl rfl <| mvI rfl rfl <| mvI rfl rfl <| tl_y rfl (y_addI rfl rfl (by omega)) <| tl_y rfl (y_sliceLH rfl rfl rfl (by omega) (by omega)) ?_
          rw [Int.toNat_natCast, show ((k : Int) + 1).toNat = k + 1 by omega]
          refine tl_e rfl <| e_call' rfl (RTotal_spec hone) ?_
          rintro _ _ _ _ ⟨rfl, rfl, rfl⟩
          rw [totN_one hokp]
          refine asI rfl rfl <| zq <| .s6 0 1 6 7 8 9 rfl rfl rfl rfl rfl rfl <| x_region <| mvS rfl rfl <| mvI rfl rfl <| mvI rfl rfl <| tl_y rfl (y_quoN64 rfl rfl (by omega)) ?_
          rw [show (x.toNat : Int) / ((pw2 (hsum ((l.map tv).drop (k + 1))) : Nat) : Int) = ((x.toNat / pw2 (hsum ((l.map tv).drop (k + 1))) : Nat) : Int) from (Int.natCast_ediv _ _).symm]
          refine mvI rfl rfl <| tl_y rfl (y_remI rfl rfl ⟨Int.natCast_nonneg _, by omega⟩) ?_
          rw [show ((x.toNat / pw2 (hsum ((l.map tv).drop (k + 1))) : Nat) : Int) % ((pw2 (hN (tv p)) : Nat) : Int) = ((atN (l.map tv) x.toNat k : Nat) : Int) by rw [hat]; push_cast; rfl]
          refine tl_y rfl (y_convN32 rfl (by omega)) <| tl_e rfl <| e_buildSlice rfl (by decide) <| fun b8 => .pub b8 inferInstance <| fun M5 hM5 hb8 => tl_e rfl <| e_append (by decide) rfl rfl hE (.row (Row.whole (s := 1) (vs := [Value.int .u32 ((atN (l.map tv) x.toNat k : Nat) : Int)]) hb8 rfl (by omega))) rfl (by omega) (by omega) <| fun A9 c9 E9 hE9 => ?_
          have hrr : u32r ((atsN (l.map tv) x.toNat).take k) ++ [Value.int .u32 ((atN (l.map tv) x.toNat k : Nat) : Int)] = u32r ((atsN (l.map tv) x.toNat).take (k + 1)) := by rw [htk]; simp [u32r]
          rw [hrr] at hE9
          refine asS rfl rfl <| tl_nil <| .block_normal <| .then_normal <| .s4 0 1 6 7 rfl rfl rfl rfl <| x_region <| mvI rfl rfl <| tl_y rfl (y_addI rfl rfl (by omega)) <| asI rfl rfl <| tl_nil <| .loop_next (m' := n - (k + 1)) (by omega) (F' := [(0, _), (1, _), (6, _), (7, _)]) (.cons rfl (.cons rfl (.cons rfl (.cons rfl .nil)))) ?_
          exact ⟨k + 1, A9, c9, E9, rfl, by omega, hM1.trans hM5, hE9, rfl, rfl, rfl⟩
        ·
          have hlast : (l.map tv).drop (k + 1) = [] := List.drop_of_length_le (by rw [List.length_map]; omega)
          refine x_skip <| .then_normal <| zr <| mvS rfl rfl <| mvI rfl rfl <| mvI rfl rfl <| tl_y rfl (y_addI rfl rfl (by omega)) <| tl_y rfl (y_sliceLH rfl rfl rfl (by omega) (by omega)) ?_
          rw [Int.toNat_natCast, show ((k : Int) + 1).toNat = k + 1 by omega]
          refine tl_e rfl <| e_call' rfl (RTotal_spec hone) ?_
          rintro _ _ _ _ ⟨rfl, rfl, rfl⟩
          rw [totN_one hokp]
          refine asI rfl rfl <| zq <| .s6 0 1 6 7 8 9 rfl rfl rfl rfl rfl rfl <| x_region <| mvS rfl rfl <| mvI rfl rfl <| mvI rfl rfl <| tl_y rfl (y_quoN64 rfl rfl (by omega)) ?_
          rw [Int.ediv_one]
          refine mvI rfl rfl <| tl_y rfl (y_remI rfl rfl (by omega)) ?_
          rw [show (x.toNat : Int) % ((pw2 (hN (tv p)) : Nat) : Int) = ((atN (l.map tv) x.toNat k : Nat) : Int) by rw [hat, hlast, show pw2 (hsum []) = 1 from rfl, Nat.div_one]; push_cast; rfl]
          refine tl_y rfl (y_convN32 rfl (by omega)) <| tl_e rfl <| e_buildSlice rfl (by decide) <| fun b8 => .pub b8 inferInstance <| fun M5 hM5 hb8 => tl_e rfl <| e_append (by decide) rfl rfl hE (.row (Row.whole (s := 1) (vs := [Value.int .u32 ((atN (l.map tv) x.toNat k : Nat) : Int)]) hb8 rfl (by omega))) rfl (by omega) (by omega) <| fun A9 c9 E9 hE9 => ?_
          have hrr : u32r ((atsN (l.map tv) x.toNat).take k) ++ [Value.int .u32 ((atN (l.map tv) x.toNat k : Nat) : Int)] = u32r ((atsN (l.map tv) x.toNat).take (k + 1)) := by rw [htk]; simp [u32r]
          rw [hrr] at hE9
          refine asS rfl rfl <| tl_nil <| .block_normal <| .then_normal <| .s4 0 1 6 7 rfl rfl rfl rfl <| x_region <| mvI rfl rfl <| tl_y rfl (y_addI rfl rfl (by omega)) <| asI rfl rfl <| tl_nil <| .loop_next (m' := n - (k + 1)) (by omega) (F' := [(0, _), (1, _), (6, _), (7, _)]) (.cons rfl (.cons rfl (.cons rfl (.cons rfl .nil)))) ?_
          exact ⟨k + 1, A9, c9, E9, rfl, by omega, hM1.trans hM5, hE9, rfl, rfl, rfl⟩
      ·
        obtain rfl : k = n := by omega
        refine .pubRow hE <| fun M4 hM4 hrow => ?_
        rw [List.take_of_length_le (by rw [atsN_len, List.length_map]; omega)] at hrow
        refine x_exit <| .then_exit <| .loop_exit <| .block_exit <| .then_normal <| .s1 6 rfl <| zr <| mvS rfl rfl <| asS rfl rfl <| as0 rfl rfl <| zq <| x_ret (ret2 rfl rfl rfl (hM1.trans hM4) ⟨rfl, _, _, _, by rw [plE, if_pos hok, if_pos hxt], by rw [plV, if_pos ⟨hok, hxt⟩]; exact hrow⟩)
theorem RBelow_spec (x : PairV) (hname : Bytes M NA nl nc name) (hsec : Bytes M SA sl_ sc sec) (q : UInt32) :
  Con Tryz.prog 33 #[.agg (List.toArray x.cells), .agg (List.toArray (seedC NA nl nc SA sl_ sc)), .int .u32 (q.toNat : Int)] G M L (fun v M' L' => L' = L ∧ ∃ y z : SlV, v = .tuple #[.agg (List.toArray [y.v, z.v]), .int .i64 (belE x nl sl_)] ∧ Bytes M' y.a y.n y.c (belNV x nl sl_ name sec q.toNat) ∧ Bytes M' z.a z.n z.c (belSV x nl sl_ name sec q.toNat)) noPanic := by
 refine enter (args := [_, _, _]) (fn := Tryz.f33) ⟨Tryz.func33, rfl, by kernel_rfl, by kernel_rfl⟩ 35 rfl <| zr <| tl_e rfl <| e_box rfl <| fun b1 => tl_e rfl <| e_box rfl <| fun b2 => tl_e rfl <| e_alloc <| fun b3 => as0 rfl rfl <| zq <| zr <| tl_y rfl (y_lg rfl rfl) <| tl_e rfl <| e_call' rfl (RSets12_spec x) ?_
 rintro _ _ _ _ ⟨rfl, rfl, rfl⟩
 refine mvU rfl rfl <| zx rfl rfl <| zx rfl rfl <| zx rfl rfl <| tl_e rfl <| e_alloc <| fun b4 => tl_e rfl <| e_alloc <| fun b5 => tl_e rfl <| e_st rfl rfl (by rfl) (by rfl) <| tl_e rfl <| e_st rfl rfl (by rfl) (by rfl) <| asB rfl rfl <| zq ?_
 refine .s5 2 4 6 8 10 rfl rfl rfl rfl rfl <| zr2 <| mvB rfl rfl <| tl_y rfl (y_notd rfl) <| zq <| x_cond rfl (fun hc1 => ?_) (fun hc1 => ?_)
 ·
  refine zr <| tl_y rfl (y_build rfl) <| tl_e rfl <| e_st rfl rfl (by rfl) (by rfl) <| as0 rfl rfl <| zq <| .s2 6 7 rfl rfl <| x_ret (.then_ret (retRV (L' := L) (rv2 rfl (rc_cellAgg (by rfl) rfl (.own inferInstance inferInstance)) (rc_tmp (by rfl))) inferInstance (Le.refl _) (by
   have e : belE x nl sl_ = 4 := by rw [belE, if_pos hc1]
   exact ⟨rfl, ⟨none, 0, 0⟩, ⟨none, 0, 0⟩, by rw [e], by rw [belNV, e]; exact Row.nil _ _, by rw [belSV, e]; exact Row.nil _ _⟩)))
 ·
  have hok : okP x := Classical.not_not.1 hc1
  obtain ⟨n, w, p, H, hx⟩ := okP_facts hok
  have hn32 := hx.o.n32
  have hll := hidB_len hx.o name sec q.toNat 65535
  refine x_skip <| .then_normal <| zr2 <| tl_y rfl (y_lg rfl rfl) <| tl_y rfl (y_lg rfl rfl) <| tl_e rfl <| e_call' rfl (RoMay_spec (otsV x.o)) ?_
  rintro _ _ _ _ ⟨rfl, rfl, rfl⟩
  refine tl_y rfl (y_notd rfl) <| zq <| .s5 2 4 6 8 23 rfl rfl rfl rfl rfl <| x_cond rfl (fun hc2 => ?_) (fun hc2 => ?_)
  ·
   refine zr <| tl_y rfl (y_build rfl) <| tl_e rfl <| e_st rfl rfl (by rfl) (by rfl) <| as0 rfl rfl <| zq <| .s2 6 7 rfl rfl <| x_ret (.then_ret (retRV (L' := L) (rv2 rfl (rc_cellAgg (by rfl) rfl (.own inferInstance inferInstance)) (rc_tmp (by rfl))) inferInstance (Le.refl _) (by
    have e : belE x nl sl_ = 1 := by rw [belE, if_neg hc1, if_pos hc2]
    exact ⟨rfl, ⟨none, 0, 0⟩, ⟨none, 0, 0⟩, by rw [e], by rw [belNV, e]; exact Row.nil _ _, by rw [belSV, e]; exact Row.nil _ _⟩)))
  ·
   have hy : okY (otsV x.o) nl sl_ := Classical.not_not.1 hc2
   have he0 : belE x nl sl_ = 0 := by rw [belE, if_neg hc1, if_neg hc2]
   refine x_skip <| .then_normal <| x_seq ?_
   have he : Le M M := Le.refl _
   refine x_draw 10 hmix rfl <| zy 0 rfl rfl (y_lg rfl rfl) <| zy 1 rfl rfl (y_lg rfl rfl) <| zp 2 rfl rfl (y_move (v := .int _ _) rfl) <| zy 5 rfl rfl (y_lg rfl rfl) <| zy 6 rfl rfl (y_lg rfl rfl) <| zp 7 rfl rfl (y_move (v := .int _ _) rfl) <| ze 3 rfl rfl <| e_call' rfl (RoSecret_spec (otsV x.o) (hname.mono he) (hsec.mono he) q 65535 (by omega)) ?_
   rintro _ M4 _ hM4 ⟨rfl, A4, m4, c4, rfl, hA4⟩
   rw [if_pos hy] at hA4
   have hm4 := hA4.size
   have hc4 := hA4.le
   replace he := he.trans hM4
   try replace hA5 := hA5.mono hM4
   refine ⟨⟨he, Keeps.mem⟩, ?_⟩
   refine zp 4 rfl rfl (y_sliceH rfl rfl (by omega) (by omega)) <| ze 8 rfl rfl <| e_call' rfl (RoSecret_spec (otsV x.o) (hname.mono he) (hsec.mono he) q 65534 (by omega)) ?_
   rintro _ M5 _ hM5 ⟨rfl, A5, m5, c5, rfl, hA5⟩
   rw [if_pos hy] at hA5
   replace he := he.trans hM5
   try replace hA4 := hA4.mono hM5
   refine ⟨⟨he, Keeps.mem⟩, ?_⟩
   refine zp 9 rfl rfl (y_build rfl) <| zt 10 rfl rfl <| e_st rfl rfl (by rfl) (by rfl) <| zp 11 rfl rfl (y_assign rfl) <| zz <| .then_normal <| .s2 6 7 rfl rfl <| x_ret (retRV (L' := L) (rv2 rfl (rc_cellAgg (by rfl) rfl (.own inferInstance inferInstance)) (rc_tmp (by rfl))) inferInstance he ⟨rfl, ⟨_, _, _⟩, ⟨_, _, _⟩, by rw [he0], by rw [belNV, if_pos he0]; exact Bytes.take hA4 16 (by omega), by rw [belSV, if_pos he0]; exact hA5⟩)
end
end Go.Proofs.YtiimjodbaogjbaaGreatDoor
