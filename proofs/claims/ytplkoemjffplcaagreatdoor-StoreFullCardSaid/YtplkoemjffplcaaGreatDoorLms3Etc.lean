/-
Contracts of functions, each proved by a walk through its code.
-/
import Derived.Test.YtplkoemjffplcaaGreatDoorSlotsPureEtc
import Derived.Test.YtplkoemjffplcaaGreatDoorLaw11Etc
import Derived.Test.YtplkoemjffplcaaGreatDoorEngWEtc
import Derived.Test.YtplkoemjffplcaaGreatDoorHss7Etc
set_option linter.all false
namespace Go.Proofs.YtplkoemjffplcaaGreatDoor
open Go Go.Eng
section
variable {G : World} {M : Mem} {L : Own} {NA SA TA : Option Addr} {nl nc sl sc tl tc : Nat} {name sec text : List UInt8}
theorem lsigE_may {x : PairV} {nl sl q tl : Nat} (h : mayC x nl sl ≠ 0) : lsigE x nl sl q tl = mayC x nl sl := by rw [lsigE, if_pos h]
theorem way_le {x : PairV} (name sec : List UInt8) (q k : Nat) : (wayB (treeV x.t) name (keysX x name sec) q k).flatten.length ≤ k * 32 := by
 rw [way_flat]
 exact catR_le (fun i => (lvl_short _ _ _ _).get _) k
theorem Sign1_lspec (hg : LmG M) (x : PairV) (hname : Bytes M NA nl nc name) (hsec : Bytes M SA sl sc sec) (q : UInt32) (htext : Bytes M TA tl tc text) {bp bs bq bt : Nat}
  [i1 : Has L bp (.cells (List.toArray x.cells) 63 (0, 0))] [i2 : Has L bs (.cells (List.toArray (seedC NA nl nc SA sl sc)) 33 (0, 0))] [i3 : Has L bq (.cells #[.int .u32 (q.toNat : Int)] 61 (0, 0))] [i4 : Has L bt (.cells #[.slice TA tl tc] 22 (0, 0))] :
  Con Tryz.prog 154 #[.pointer (some ⟨bp, 0, none⟩), .pointer (some ⟨bs, 0, none⟩), .pointer (some ⟨bt, 0, none⟩), .pointer (some ⟨bq, 0, none⟩)] G M L (fun v M' L' => L' = L ∧ ∃ A m c, v = .slice A m c ∧ lsigE x nl sl q.toNat tl = 0 ∧ Bytes M' A m c (lsigB x name sec q.toNat text)) (fun ch M' L' => L' = L ∧ ∃ e, (lsigE x nl sl q.toNat tl ≠ 0 ∧ e = lsigE x nl sl q.toNat tl) ∧ ch = lwrong e) := by
 have hql := q.toNat_lt
 refine zfn Tryz.func154 rfl 45 rfl <| zr <| as0 rfl <| zq <| zr <| tLg rfl rfl <| tLg rfl rfl <| tl_e rfl (e_call rfl (made_spec hg x) (by
  rintro _ M1 _ hM1 ⟨rfl, hno, rfl⟩
  exact .retA rfl hM1 ⟨rfl, _, ⟨by rw [lsigE_may hno]; exact hno, rfl⟩, by rw [lsigE_may hno]⟩) ?_)
 rintro _ M1 L hM1 ⟨rfl, hmay, rfl⟩
 obtain ⟨hok, hH10, hy⟩ := mayC_zero hmay
 obtain ⟨n, w, p, H, hx⟩ := okP_facts hok
 obtain ⟨z1, z2, z3, z4, z5⟩ := hx.sizes
 have hn32 := hx.o.n32
 have hnl := hy.2.1
 have hnn := hname.size
 have hpw := pw2_25 hx.h2
 have hHh := hx.th
 have hd : Le M M1 := hM1
 refine tl_e rfl <| e_alloc <| fun b1 => tl_e rfl <| e_sT rfl rfl <| zq <| .s5 0 1 2 3 5 rfl rfl rfl rfl rfl <| zr <| tLd rfl rfl <| tLen rfl <| tl_y rfl (y_leq rfl rfl) <| tl_e rfl (e_call rfl (lmust_spec _ _) (by
  rintro _ _ _ _ ⟨rfl, rfl, ht, rfl⟩
  have e : lsigE x nl sl q.toNat tl = 1 := by rw [lsigE, if_neg (fun h => h hmay), if_pos (by simp at ht; omega)]
  exact TP.dropTo L iI (.retA rfl hd ⟨rfl, _, ⟨by rw [e]; decide, rfl⟩, by rw [e]⟩)) ?_)
 rintro _ _ _ _ ⟨rfl, rfl, ht⟩
 have htl : tl ≤ 65536 := by simp at ht; omega
 refine zq <| .s5 0 1 2 3 5 rfl rfl rfl rfl rfl <| x_seq <| x_draw 7 hmix rfl <| pLd 0 rfl rfl rfl <| zp 1 rfl rfl (y_convN64 rfl (by omega)) <| pFa 2 rfl rfl <| zy 3 rfl rfl (y_lg rfl rfl) ?_
 refine ze 4 rfl rfl <| e_call' rfl (Leaves_spec (treeV x.t)) ?_
 rintro _ _ _ _ ⟨rfl, rfl, rfl⟩
 rw [hx.lv]
 refine kp ?_
 refine zp 5 rfl rfl (y_lss rfl rfl) <| to_e 6 rfl (by kernel_rfl) rfl (e_call rfl (lmust_spec _ _) (by
  rintro _ _ _ _ ⟨rfl, rfl, ht, rfl⟩
  have e : lsigE x nl sl q.toNat tl = 9 := by rw [lsigE, if_neg (fun h => h hmay), if_neg (by omega), hx.lv, if_pos (by simp at ht; omega)]
  exact TP.dropTo L iI (.retA rfl hd ⟨rfl, _, ⟨by rw [e]; decide, rfl⟩, by rw [e]⟩)) ?_)
 rintro _ _ _ _ ⟨rfl, rfl, ht⟩
 have hq : q.toNat < pw2 H := by simp at ht; omega
 have hE0 : lsigE x nl sl q.toNat tl = 0 := by rw [lsigE, if_neg (fun h => h hmay), if_neg (by omega), hx.lv, if_neg (by omega)]
 refine kp ?_
 refine zz <| .then_normal <| .s5 0 1 2 3 5 rfl rfl rfl rfl rfl <| x_seq ?_
 have he : Le M1 M1 := Le.refl _
 refine x_draw 10 hmix rfl <| pFa 0 rfl rfl <| zy 1 rfl rfl (y_lg rfl rfl) <| pFa 2 rfl rfl <| pLd 3 rfl rfl rfl <| zy 4 rfl rfl (y_lg rfl rfl) <| zy 5 rfl rfl (y_lg rfl rfl) <| pLd 7 rfl rfl rfl <| ze 6 rfl rfl <| e_call' rfl (lkeys_spec (hg.mono hd) hx hy (hname.mono hd) (hsec.mono hd)) ?_
 rintro _ M4 _ hM4 ⟨rfl, A4, c4, kvs, rfl, hrow, hB⟩
 replace hd := hd.trans hM4
 replace he := he.trans hM4
 refine ⟨⟨he, Keeps.mem⟩, ?_⟩
 refine ze 8 rfl rfl <| e_call' rfl (Way_spec (hg.mono hd).mr (treeV x.t) (hname.mono hd) hrow hB (keysB_le _ _ _ _) q) ?_
 rintro _ M5 _ hM5 ⟨rfl, AW, mW, cW, wvs, rfl, hwr, hwB⟩
 rw [if_pos ⟨⟨by rw [hnl]; exact hx.s, hH10, hx.lv.symm⟩, hq⟩] at hwB
 replace hd := hd.trans hM5
 replace he := he.trans hM5
 refine ⟨⟨he, Keeps.mem⟩, ?_⟩
 refine paS 9 rfl rfl <| zz <| .then_normal <| .s6 0 1 2 3 5 6 rfl rfl rfl rfl rfl rfl <| x_seq ?_
 have he : Le M5 M5 := Le.refl _
 obtain ⟨sgl, _, _, _⟩ := sig_parts hx.o (name := name) (by omega) sec q.toNat text
 have hwfl := way_le (x := x) name sec q.toNat (treeV x.t).h.toNat
 have hHN : (treeV x.t).h.toNat ≤ 25 := by rw [hHh]; exact hx.h2
 refine x_draw 16 hmix rfl <| pLd 0 rfl rfl rfl <| pFa 2 rfl rfl <| zy 3 rfl rfl (y_lg rfl rfl) <| zy 4 rfl rfl (y_lg rfl rfl) <| pLd 5 rfl rfl rfl <| pLd 6 rfl rfl rfl <| pFa 8 rfl rfl <| pLd 9 rfl rfl rfl <| pmS 11 rfl rfl ?_
 refine ze 1 rfl rfl <| e_call' rfl (lcode_spec q) ?_
 rintro _ M6 _ hM6 ⟨rfl, AQ, cQ, rfl, hAQ⟩
 replace hd := hd.trans hM6
 replace he := he.trans hM6
 replace hwr := hwr.mono hM6
 replace hwB := hwB.mono hM6
 try replace hAS := hAS.mono hM6
 try replace hAT := hAT.mono hM6
 try replace hAF := hAF.mono hM6
 refine ⟨⟨he, Keeps.mem⟩, ?_⟩
 refine ze 7 rfl rfl <| e_call' rfl (oSign_spec (hg.mono hd).ch (otsV x.o) (hname.mono hd) (hsec.mono hd) q (htext.mono hd)) ?_
 rintro _ M7 _ hM7 ⟨rfl, AS, mS, cS, rfl, hAS⟩
 rw [if_pos ⟨hy, htl⟩] at hAS
 replace hd := hd.trans hM7
 replace he := he.trans hM7
 replace hwr := hwr.mono hM7
 replace hwB := hwB.mono hM7
 try replace hAQ := hAQ.mono hM7
 try replace hAT := hAT.mono hM7
 try replace hAF := hAF.mono hM7
 refine ⟨⟨he, Keeps.mem⟩, ?_⟩
 refine ze 10 rfl rfl <| e_call' rfl (lcode_spec x.t) ?_
 rintro _ M8 _ hM8 ⟨rfl, AT, cT, rfl, hAT⟩
 replace hd := hd.trans hM8
 replace he := he.trans hM8
 replace hwr := hwr.mono hM8
 replace hwB := hwB.mono hM8
 try replace hAQ := hAQ.mono hM8
 try replace hAS := hAS.mono hM8
 try replace hAF := hAF.mono hM8
 refine ⟨⟨he, Keeps.mem⟩, ?_⟩
 refine ze 12 rfl rfl <| e_call' rfl (Cat_spec hwr hwB (by omega)) ?_
 rintro _ M9 _ hM9 ⟨rfl, AF, cF, rfl, hAF⟩
 replace hd := hd.trans hM9
 replace he := he.trans hM9
 replace hwr := hwr.mono hM9
 replace hwB := hwB.mono hM9
 try replace hAQ := hAQ.mono hM9
 try replace hAS := hAS.mono hM9
 try replace hAT := hAT.mono hM9
 refine ⟨⟨he, Keeps.mem⟩, ?_⟩
 refine ze 13 rfl rfl <| e_buildSlice rfl (by decide) <| fun b7 => ⟨⟨he, Keeps.mem⟩, ?_⟩
 refine .pub b7 iI <| fun M10 hM10 hb7 => ?_
 have hd6 := hd.trans hM10
 have he6 := he.trans hM10
 have hfl : [putB q.toNat 4, sigB (otsV x.o) name sec q.toNat text, putB x.t.toNat 4, (wayB (treeV x.t) name (keysX x name sec) q.toNat (treeV x.t).h.toNat).flatten].flatten = lsigB x name sec q.toNat text := by simp [lsigB]
 have hfll : (lsigB x name sec q.toNat text).length ≤ 20000 := by
  rw [lsigB, List.length_append, List.length_append, List.length_append, putB_length, putB_length, sgl]; omega
 refine ze 14 rfl rfl <| e_call' rfl (Cat_spec (Row.whole hb7 rfl (by omega)) (.cons (hAQ.mono hM10) (.cons (hAS.mono hM10) (.cons (hAT.mono hM10) (.cons (hAF.mono hM10) .nil)))) (by rw [hfl]; omega)) ?_
 rintro _ M11 _ hM11 ⟨rfl, A7, c7, rfl, hA7⟩
 rw [hfl] at hA7
 rw [hfl]
 replace hd6 := hd6.trans hM11
 replace he6 := he6.trans hM11
 refine ⟨⟨he6, Keeps.mem⟩, ?_⟩
 refine paS 15 rfl rfl <| zz <| .then_normal <| .s1 4 rfl <| x_ret (.dropTo L iI (ret1 rfl rfl hd6 ⟨rfl, _, _, _, rfl, hE0, hA7⟩))
theorem Sign_lspec (hg : LmG M) (x : PairV) (hname : Bytes M NA nl nc name) (hsec : Bytes M SA sl sc sec) (q : UInt32) (htext : Bytes M TA tl tc text) :
  Con Tryz.prog 107 #[.agg (List.toArray x.cells), .agg (List.toArray (seedC NA nl nc SA sl sc)), .int .u32 (q.toNat : Int), .slice TA tl tc] G M L (fun v M' L' => L' = L ∧ ∃ A m c, v = .tuple #[.slice A m c, .int .i64 (lsigE x nl sl q.toNat tl)] ∧ Bytes M' A m c (lsigV x nl sl name sec q.toNat tl text)) noPanic := by
 refine zfn Tryz.func107 rfl 14 rfl <| zr <| tl_e rfl <| e_box rfl <| fun b1 => tl_e rfl <| e_box rfl <| fun b2 => tl_e rfl <| e_box rfl <| fun b3 => tl_e rfl <| e_box rfl <| fun b4 => as0 rfl <| as0 rfl <| zq <| .s4 4 5 6 7 rfl rfl rfl rfl <| zr <| tl_y rfl (y_makeFunc rfl rfl) <| zca rfl (caughtB_spec (K := fun A m c M' => lsigE x nl sl q.toNat tl = 0 ∧ Bytes M' A m c (lsigB x name sec q.toNat text)) (Kp := fun e => lsigE x nl sl q.toNat tl ≠ 0 ∧ e = lsigE x nl sl q.toNat tl) (first := []) (cap := [.pointer (some ⟨b1, 0, none⟩), .pointer (some ⟨b2, 0, none⟩), .pointer (some ⟨b4, 0, none⟩), .pointer (some ⟨b3, 0, none⟩)]) (fun p' q' => Sign1_lspec hg x hname hsec q htext)) ?_
 rintro v M1 _ hM1 ⟨rfl, hv⟩
 obtain ⟨A2, m2, c2, rfl, hA⟩ : ∃ A m c, v = .tuple #[.slice A m c, .int .i64 (lsigE x nl sl q.toNat tl)] ∧ Bytes M1 A m c (lsigV x nl sl name sec q.toNat tl text) := by
  rcases hv with ⟨A, m, c, rfl, h0, hb⟩ | ⟨e, rfl, hno, rfl⟩
  ·
   exact ⟨A, m, c, by rw [h0], by rw [lsigV, if_pos h0]; exact hb⟩
  exact ⟨none, 0, 0, rfl, by rw [lsigV, if_neg hno]; exact Row.nil _ _⟩
 refine zx rfl <| zx rfl <| asS rfl <| asI rfl <| zq <| .s2 8 9 rfl rfl <| x_ret (.dropTo L iI (ret2 rfl rfl rfl hM1 ⟨rfl, _, _, _, rfl, hA⟩))
end
structure SlV where
 a : Option Addr
 n : Nat
 c : Nat
abbrev SlV.v (x : SlV) : Value := .slice x.a x.n x.c
section
variable {G : World} {M : Mem} {L : Own}
theorem caughtTk1_ret {b c : Nat} {x : Int} {cs : List Value} : ConD Tryz.prog 256 #[.pointer (some ⟨b, 0, none⟩), .pointer (some ⟨c, 0, none⟩)] .returning G M ((c, .cells #[.int .i64 x] 25 (0, 0)) :: (b, .cells (List.toArray cs) 295 (0, 0)) :: L) (fun u' M' L' => u' = .returning ∧ M' = M ∧ L' = (c, .cells #[.int .i64 x] 25 (0, 0)) :: (b, .cells cs.toArray 295 (0, 0)) :: L) := by
 refine enterRec (args := [_, _]) (fn := Tryz.f256) ⟨Tryz.func256, rfl, by kernel_rfl, by kernel_rfl⟩ 15 rfl rfl <| x_block <| zr <| tl_y rfl (y_eqNilIface rfl rfl) <| zq <| x_true rfl (rfl) <| x_region <| as0 rfl <| tl_nil (.block_normal (.rec_normal lR ⟨rfl, rfl, rfl⟩))
theorem caughtTk1_wrong {b c : Nat} {x e : Int} : ConD Tryz.prog 256 #[.pointer (some ⟨b, 0, none⟩), .pointer (some ⟨c, 0, none⟩)] (.panicking (lwrong e)) G M ((c, .cells #[.int .i64 x] 25 (0, 0)) :: (b, .cells #[.slice none 0 0, .slice none 0 0] 295 (0, 0)) :: L)
  (fun u' M' L' => u' = .panicking [{ v := lwrongv e, recovered := true }] ∧ M' = M ∧ L' = (c, .cells #[.int .i64 e] 25 (0, 0)) :: (b, .cells #[.slice none 0 0, .slice none 0 0] 295 (0, 0)) :: L) := by
 refine enterRec (args := [_, _]) (fn := Tryz.f256) ⟨Tryz.func256, rfl, by kernel_rfl, by kernel_rfl⟩ 15 rfl rfl <| x_block <| zr <| tl_y rfl (y_eqIfaceNil rfl rfl) <| zq <| x_false rfl (rfl) <| zr <| tl_y rfl (y_assertOk rfl (by intro _ h; cases h)) <| zx rfl <| zx rfl <| zq <| x_true rfl (rfl) <| zr <| tl_e rfl <| e_alloc <| fun b7 => tl_e rfl <| e_sT rfl rfl <| zq <| .s3 0 1 3 rfl rfl rfl <| zr <| tl_e rfl <| e_alloc <| fun b8 => zq <| x_draw0 4 ((b7, .cells #[.int .i64 e] 248 (0, 0)) :: (b8, .cells #[.slice none 0 0, .slice none 0 0] 295 (0, 0)) :: []) Keeps.mem hmix rfl ?_
 refine zy 0 rfl rfl (y_lg rfl rfl) <| pFa 1 rfl rfl <| pLd 2 rfl rfl rfl <| ze 3 rfl rfl <| e_sT rfl rfl <| kp ?_
 refine zt 4 rfl rfl <| e_sT rfl rfl <| zz (.block_normal (.dropTo ((c, .cells #[.int .i64 e] 25 (0, 0)) :: (b, .cells #[.slice none 0 0, .slice none 0 0] 295 (0, 0)) :: L) iI (.rec_normal lR ⟨rfl, rfl, rfl⟩)))
theorem caughtTk_spec {wf : FuncId} {first cap : List Value} {K : SlV → SlV → Mem → Prop} {Kp : Int → Prop}
  (hw : ∀ p q, Con Tryz.prog wf (first ++ [] ++ cap).toArray G M (p :: q :: L) (fun v M' L' => L' = p :: q :: L ∧ ∃ x y, v = .agg (List.toArray ([x.v, y.v])) ∧ K x y M') (fun ch M' L' => L' = p :: q :: L ∧ ∃ e, Kp e ∧ ch = lwrong e)) :
  Con Tryz.prog 215 #[.func (.func wf) first.toArray cap.toArray] G M L (fun v M' L' => L' = L ∧ ((∃ x y, v = .tuple #[.agg (List.toArray ([x.v, y.v])), .int .i64 0] ∧ K x y M') ∨ (∃ e, v = .tuple #[.agg #[.slice none 0 0, .slice none 0 0], .int .i64 e] ∧ Kp e))) noPanic := by
 refine enterD (args := [_]) (fn := Tryz.f215) ⟨Tryz.func215, rfl, by kernel_rfl, by kernel_rfl⟩ 7 rfl <| zr <| tl_e rfl <| e_alloc <| fun b1 => tl_e rfl <| e_alloc <| fun b2 => zq <| zr <| tl_y rfl (y_makeFunc rfl rfl) <| tl_e rfl <| e_defer rfl rfl rfl <| zq <| zr <| mvF rfl <| tl_e rfl (e_callv rfl rfl (hw _ _) (by
  rintro _ M1 _ hM1 ⟨rfl, e, hr, rfl⟩
  refine .retD (cap := [_, _]) (args := []) caughtTk1_wrong ?_
  rintro _ M2 _ hM2 ⟨rfl, rfl, rfl⟩
  exact .inl ⟨rfl, _, L, rv2 rfl (rc_cellAgg (by rfl) rfl (.own iI iI)) (rc_cell (by rfl) rfl (.own iI iI)), iI, hM1, rfl, .inr ⟨e, rfl, hr⟩⟩) ?_)
 rintro _ M1 _ hM1 ⟨rfl, x, y, rfl, hk⟩
 refine tl_e rfl <| e_sT rfl rfl <| tl_e rfl <| e_sT rfl rfl <| zq <| .s2 2 3 rfl rfl <| x_ret <| .retD (cap := [_, _]) (args := []) (caughtTk1_ret (cs := [x.v, y.v])) ?_
 rintro _ M2 _ hM2 ⟨rfl, rfl, rfl⟩
 exact .inl ⟨rfl, _, L, rv2 rfl (rc_cellAgg (by rfl) rfl (.own iI iI)) (rc_cell (by rfl) rfl (.own iI iI)), iI, hM1, rfl, .inl ⟨x, y, rfl, hk⟩⟩
theorem Pair1_spec (hg : LmG M) {A : Option Addr} {m c : Nat} {bs : List UInt8} (h : Bytes M A m c bs) (hmb : m ≤ 1000000000000) {b : Nat} [hb : Has L b (.cells #[.slice A m c] 22 (0, 0))] :
  Con Tryz.prog 168 #[.pointer (some ⟨b, 0, none⟩)] G M L (fun v M' L' => L' = L ∧ ∃ x : PairV, v = .agg (List.toArray x.cells) ∧ pairE bs = 0 ∧ x = pairC bs) (fun ch M' L' => L' = L ∧ ∃ e, (pairE bs ≠ 0 ∧ e = pairE bs) ∧ ch = lwrong e) := by
 have hm := h.size
 have hc := h.le
 refine zfn Tryz.func168 rfl 40 rfl <| zr <| tl_e rfl <| e_alloc <| fun b1 => zq <| zr <| tLd rfl rfl <| tLen rfl <| tl_y rfl (y_geq rfl rfl) <| tl_e rfl (e_call rfl (lmust_spec _ _) (by
  rintro _ _ _ _ ⟨rfl, rfl, ht, rfl⟩
  have e : pairE bs = 2 := by rw [pairE, if_pos (by simp at ht; omega)]
  exact TP.dropTo L iI (.retA rfl lR ⟨rfl, _, ⟨by rw [e]; decide, rfl⟩, by rw [e]⟩)) ?_)
 rintro _ _ _ _ ⟨rfl, rfl, ht⟩
 have h8 : 8 ≤ m := by simp at ht; omega
 have hs4 : Bytes M (sl A 4 c 1) 4 (c - 4) ((bs.drop 4).take 4) := Bytes.sub h 4 8 (by omega) h8
 refine zq <| .s2 0 1 rfl rfl <| zr <| tLd rfl rfl <| tl_y rfl (y_sliceH rfl rfl (by omega) (by omega)) ?_
 refine zca rfl (Get8_spec (Bytes.take h 4 (by omega)) (by omega)) ?_
 rintro _ _ _ _ ⟨rfl, rfl, x, hx, rfl⟩
 have hgl := getB_lt (bs.take 4)
 rw [List.length_take, Nat.min_eq_left (by omega)] at hgl
 have hcv : ((pairC bs).t.toNat : Int) = (x.toNat : Int) := by rw [pairC, UInt32.toNat_ofNat', hx, Nat.mod_eq_of_lt (by omega)]
 refine mvU rfl <| zx rfl <| zx rfl <| asI rfl <| asB rfl <| zq <| .s3 0 1 2 rfl rfl rfl <| zr <| tLd rfl rfl <| tl_y rfl (y_sliceLH rfl rfl rfl (by omega) (by omega)) ?_
 refine zca rfl (Get8_spec hs4 (by omega)) ?_
 rintro _ _ _ _ ⟨rfl, rfl, y, hy, rfl⟩
 have hgl2 := getB_lt ((bs.drop 4).take 4)
 rw [List.length_take, List.length_drop, Nat.min_eq_left (by omega)] at hgl2
 have hcv2 : ((pairC bs).o.toNat : Int) = (y.toNat : Int) := by rw [pairC, UInt32.toNat_ofNat', hy, Nat.mod_eq_of_lt (by omega)]
 refine mvU rfl <| zx rfl <| zx rfl <| asI rfl <| asB rfl <| zq <| .s4 0 1 2 4 rfl rfl rfl rfl <| zr <| mvI rfl <| tl_y rfl (y_convE (b := ((pairC bs).o.toNat : Int)) rfl (by rw [wrapU32, hcv2]; omega)) <| mvI rfl <| tl_y rfl (y_convE (b := ((pairC bs).t.toNat : Int)) rfl (by rw [wrapU32, hcv]; omega)) <| tl_y rfl (y_build rfl) <| tl_e rfl <| e_alloc <| fun b2 => tl_e rfl <| e_sT rfl rfl <| zq <| .s3 0 1 6 rfl rfl rfl <| zr <| tLg rfl rfl <| tl_e rfl (e_call rfl (of_spec hg.hs (pairC bs)) (by
  rintro _ M1 _ hM1 ⟨rfl, hno, rfl⟩
  have e : pairE bs = 4 := by rw [pairE, if_neg (by omega), if_pos hno]
  exact TP.dropTo L iI (.retA rfl hM1 ⟨rfl, _, ⟨by rw [e]; decide, rfl⟩, by rw [e]⟩)) ?_)
 rintro _ M1 _ hM1 ⟨rfl, hok, rfl⟩
 obtain ⟨n, w, p, H, hx⟩ := okP_facts hok
 obtain ⟨z1, z2, z3, z4, z5⟩ := hx.sizes
 have hn32 := hx.o.n32
 refine tl_e rfl <| e_alloc <| fun b3 => tl_e rfl <| e_sT rfl rfl <| zq <| zr <| tLd rfl rfl <| tLen rfl <| tFa rfl <| tFa rfl <| tl_y rfl (y_load (v := .int .i64 (n : Int)) rfl rfl (by rw [← hx.tn]; exact .own iI iI)) <| tl_y rfl (y_addI rfl rfl (by omega)) <| tl_y rfl (y_eql rfl rfl) ?_
 refine tl_e rfl (e_call rfl (lmust_spec _ _) (by
  rintro _ _ _ _ ⟨rfl, rfl, ht, rfl⟩
  have e : pairE bs = 5 := by rw [pairE, if_neg (by omega), if_neg (fun h => h hok), if_pos (by simp at ht; omega)]
  exact TP.dropTo L iI (.retA rfl hM1 ⟨rfl, _, ⟨by rw [e]; decide, rfl⟩, by rw [e]⟩)) ?_)
 rintro _ _ _ _ ⟨rfl, rfl, ht⟩
 have h0 : pairE bs = 0 := by rw [pairE, if_neg (by omega), if_neg (fun h => h hok), if_neg (by simp at ht; omega)]
 refine zq <| .s2 1 6 rfl rfl <| zr <| tLg rfl rfl <| tl_e rfl <| e_sT rfl rfl <| zq <| x_ret (retRV (L' := L) (rv1 rfl (rc_cellAgg (by rfl) rfl (.own iI iI))) iI hM1 ⟨rfl, _, rfl, h0, rfl⟩)
theorem Pair_spec (hg : LmG M) {A : Option Addr} {m c : Nat} {bs : List UInt8} (h : Bytes M A m c bs) (hmb : m ≤ 1000000000000) :
  Con Tryz.prog 126 #[.slice A m c] G M L (fun v M' L' => L' = L ∧ v = .tuple #[.agg (List.toArray (pairX bs).cells), .int .i64 (pairE bs)]) noPanic := by
 refine zfn Tryz.func126 rfl 8 rfl <| zr <| tl_e rfl <| e_box rfl <| fun b1 => tl_e rfl <| e_alloc <| fun b2 => as0 rfl <| zq <| zr <| tl_y rfl (y_makeFunc rfl rfl) <| zca rfl (caughtX_spec (K := fun x _ => pairE bs = 0 ∧ x = pairC bs) (Kp := fun e => pairE bs ≠ 0 ∧ e = pairE bs) (first := []) (cap := [.pointer (some ⟨b1, 0, none⟩)]) (fun p' q' => Pair1_spec hg h hmb)) ?_
 rintro v M1 _ hM1 ⟨rfl, hv⟩
 obtain rfl : v = .tuple #[.agg (List.toArray (pairX bs).cells), .int .i64 (pairE bs)] := by
  rcases hv with ⟨x, rfl, h0, rfl⟩ | ⟨e, rfl, hno, rfl⟩
  ·
   rw [pairX, if_pos h0, h0]
  rw [pairX, if_neg hno]; rfl
 refine zx rfl <| zx rfl <| tl_e rfl <| e_sT rfl rfl <| asI rfl <| zq <| .s2 2 3 rfl rfl <| x_ret (retRV (L' := L) (rv2 rfl (rc_cellAgg (by rfl) rfl (.own iI iI)) (rc_tmp (by rfl))) iI hM1 ⟨rfl, rfl⟩)
theorem Take1_spec (hg : LmG M) (x : PairV) {A : Option Addr} {m c : Nat} {bs : List UInt8} (h : Bytes M A m c bs) (hmb : m ≤ 1000000000000) {bp b : Nat} [hp : Has L bp (.cells (List.toArray x.cells) 63 (0, 0))] [hb : Has L b (.cells #[.slice A m c] 22 (0, 0))] :
  Con Tryz.prog 216 #[.pointer (some ⟨bp, 0, none⟩), .pointer (some ⟨b, 0, none⟩)] G M L (fun v M' L' => L' = L ∧ ∃ y z : SlV, v = .agg #[y.v, z.v] ∧ takeE x m = 0 ∧ Le M M' ∧ y = ⟨sl A 0 (sigN x) 1, sigN x, sigN x⟩ ∧ z = ⟨sl A (sigN x) c 1, m - sigN x, c - sigN x⟩) (fun ch M' L' => L' = L ∧ ∃ e, (takeE x m ≠ 0 ∧ e = takeE x m) ∧ ch = lwrong e) := by
 have hm := h.size
 have hc := h.le
 refine zfn Tryz.func216 rfl 20 rfl <| zr <| tl_e rfl <| e_alloc <| fun b1 => zq <| zr <| tLg rfl rfl <| tl_e rfl (e_call rfl (of_spec hg.hs x) (by
  rintro _ M1 _ hM1 ⟨rfl, hno, rfl⟩
  have e : takeE x m = 4 := by rw [takeE, if_pos hno]
  exact TP.dropTo L iI (.retA rfl hM1 ⟨rfl, _, ⟨by rw [e]; decide, rfl⟩, by rw [e]⟩)) ?_)
 rintro _ M1 _ hM1 ⟨rfl, hok, rfl⟩
 obtain ⟨n, w, p, H, hx⟩ := okP_facts hok
 obtain ⟨z1, z2, z3, z4, z5⟩ := hx.sizes
 refine zca rfl (lsize_spec hx) ?_
 rintro _ _ _ _ ⟨rfl, rfl, rfl⟩
 refine asI rfl <| zq <| .s3 1 2 3 rfl rfl rfl <| zr <| tLd rfl rfl <| tLen rfl <| mvI rfl <| tl_y rfl (y_geq rfl rfl) <| tl_e rfl (e_call rfl (lmust_spec _ _) (by
  rintro _ _ _ _ ⟨rfl, rfl, ht, rfl⟩
  have e : takeE x m = 2 := by rw [takeE, if_neg (fun h => h hok), if_pos (by simp at ht; omega)]
  exact TP.dropTo L iI (.retA rfl hM1 ⟨rfl, _, ⟨by rw [e]; decide, rfl⟩, by rw [e]⟩)) ?_)
 rintro _ _ _ _ ⟨rfl, rfl, ht⟩
 have hN : sigN x ≤ m := by simp at ht; omega
 have h0 : takeE x m = 0 := by rw [takeE, if_neg (fun h => h hok), if_neg (by omega)]
 refine zq <| .s3 1 2 3 rfl rfl rfl <| x_seq <| x_draw 8 hmix rfl <| pLd 0 rfl rfl rfl <| pmI 1 rfl rfl <| pmI 2 rfl rfl <| zp 3 rfl rfl (y_slice3 rfl rfl rfl (by omega) (by omega)) <| pLd 4 rfl rfl rfl <| pmI 5 rfl rfl ?_
 refine zp 6 rfl rfl (y_sliceL rfl rfl (by omega)) <| zp 7 rfl rfl (y_buildArr rfl) <| zt 8 rfl rfl <| e_sT rfl rfl <| zz <| .then_normal <| .s1 2 rfl <| x_ret (retRV (L' := L) (rv1 rfl (rc_cellAgg (by rfl) rfl (.own iI iI))) iI hM1 ⟨rfl, ⟨_, _, _⟩, ⟨_, _, _⟩, rfl, h0, hM1, rfl, rfl⟩)
theorem Take_spec (hg : LmG M) (x : PairV) {A : Option Addr} {m c : Nat} {bs : List UInt8} (h : Bytes M A m c bs) (hmb : m ≤ 1000000000000) :
  Con Tryz.prog 165 #[.agg (List.toArray x.cells), .slice A m c] G M L (fun v M' L' => L' = L ∧ ∃ A1 n1 c1 A2 n2 c2, v = .tuple #[.slice A1 n1 c1, .slice A2 n2 c2, .int .i64 (takeE x m)] ∧ Bytes M' A1 n1 c1 (if takeE x m = 0 then bs.take (sigN x) else []) ∧ Bytes M' A2 n2 c2 (if takeE x m = 0 then bs.drop (sigN x) else [])) noPanic := by
 have hm := h.size
 have hc := h.le
 refine zfn Tryz.func165 rfl 19 rfl <| zr <| tl_e rfl <| e_box rfl <| fun b1 => tl_e rfl <| e_box rfl <| fun b2 => as0 rfl <| as0 rfl <| as0 rfl <| zq <| .s2 2 3 rfl rfl <| zr <| tl_y rfl (y_makeFunc rfl rfl) <| zca rfl (caughtTk_spec (K := fun y z M' => takeE x m = 0 ∧ Le M M' ∧ y = ⟨sl A 0 (sigN x) 1, sigN x, sigN x⟩ ∧ z = ⟨sl A (sigN x) c 1, m - sigN x, c - sigN x⟩) (Kp := fun e => takeE x m ≠ 0 ∧ e = takeE x m) (first := []) (cap := [.pointer (some ⟨b1, 0, none⟩), .pointer (some ⟨b2, 0, none⟩)]) (fun p' q' => Take1_spec hg x h hmb)) ?_
 rintro v M1 _ hM1 ⟨rfl, hv⟩
 obtain ⟨⟨A1, n1, c1⟩, ⟨A2, n2, c2⟩, rfl, hb1, hb2⟩ : ∃ y z : SlV, v = .tuple #[.agg #[y.v, z.v], .int .i64 (takeE x m)] ∧ Bytes M1 y.a y.n y.c (if takeE x m = 0 then bs.take (sigN x) else []) ∧ Bytes M1 z.a z.n z.c (if takeE x m = 0 then bs.drop (sigN x) else []) := by
  rcases hv with ⟨y, z, rfl, h0, hle, rfl, rfl⟩ | ⟨e, rfl, hno, rfl⟩
  ·
   have hN : sigN x ≤ m := by
    unfold takeE at h0
    split at h0
    ·
     cases h0
    split at h0
    ·
     cases h0
    omega
   exact ⟨_, _, by rw [h0], by rw [if_pos h0]; exact Bytes.take3 (h.mono hM1) _ _ hN (Nat.le_refl _) (by omega), by rw [if_pos h0]; exact Bytes.drop (h.mono hM1) _ hN⟩
  exact ⟨⟨none, 0, 0⟩, ⟨none, 0, 0⟩, rfl, by rw [if_neg hno]; exact Row.nil _ _, by rw [if_neg hno]; exact Row.nil _ _⟩
 refine mvU rfl <| zx rfl <| zx rfl <| tl_e rfl <| e_alloc <| fun b3 => tl_e rfl <| e_sT rfl rfl <| asI rfl <| zq <| .s2 7 8 rfl rfl <| x_seq <| x_draw 8 hmix rfl ?_
 refine zp 0 rfl rfl (y_indexArrK 0 rfl rfl (by omega)) <| pLd 1 rfl rfl rfl <| zp 2 rfl rfl (y_indexArrK 1 rfl rfl (by omega)) <| pLd 3 rfl rfl rfl <| pmI 4 rfl rfl <| paS 5 rfl rfl <| paS 6 rfl rfl <| paI 7 rfl rfl <| zz <| .then_normal <| .s3 4 5 6 rfl rfl rfl ?_
 refine x_ret (.dropTo L iI (ret3 rfl rfl rfl rfl hM1 ⟨rfl, _, _, _, _, _, _, rfl, hb1, hb2⟩))
end
section
variable {G : World} {M : Mem} {L : Own} {NA SA TA : Option Addr} {nl nc sl_ sc tl tc : Nat} {name sec text : List UInt8}
theorem caughtHB1_ret {b c : Nat} {x : Int} {cs : List Value} : ConD Tryz.prog 98 #[.pointer (some ⟨b, 0, none⟩), .pointer (some ⟨c, 0, none⟩)] .returning G M ((c, .cells #[.int .i64 x] 25 (0, 0)) :: (b, .cells cs.toArray 22 (0, 0)) :: L) (fun u' M' L' => u' = .returning ∧ M' = M ∧ L' = (c, .cells #[.int .i64 x] 25 (0, 0)) :: (b, .cells cs.toArray 22 (0, 0)) :: L) := by
 refine enterRec (args := [_, _]) (fn := Tryz.f98) ⟨Tryz.func98, rfl, by kernel_rfl, by kernel_rfl⟩ 15 rfl rfl <| x_block <| zr <| tl_y rfl (y_eqNilIface rfl rfl) <| zq <| x_true rfl (rfl) <| x_region <| as0 rfl <| tl_nil (.block_normal (.rec_normal lR ⟨rfl, rfl, rfl⟩))
theorem caughtHB1_wrong {b c : Nat} {x e : Int} : ConD Tryz.prog 98 #[.pointer (some ⟨b, 0, none⟩), .pointer (some ⟨c, 0, none⟩)] (.panicking (hwrong e)) G M ((c, .cells #[.int .i64 x] 25 (0, 0)) :: (b, .cells #[.slice none 0 0] 22 (0, 0)) :: L)
  (fun u' M' L' => u' = .panicking [{ v := hwrongv e, recovered := true }] ∧ M' = M ∧ L' = (c, .cells #[.int .i64 e] 25 (0, 0)) :: (b, .cells #[.slice none 0 0] 22 (0, 0)) :: L) := by
 refine enterRec (args := [_, _]) (fn := Tryz.f98) ⟨Tryz.func98, rfl, by kernel_rfl, by kernel_rfl⟩ 15 rfl rfl <| x_block <| zr <| tl_y rfl (y_eqIfaceNil rfl rfl) <| zq <| x_false rfl (rfl) <| zr <| tl_y rfl (y_assertOk rfl (by intro _ h; cases h)) <| zx rfl <| zx rfl <| zq <| x_true rfl (rfl) <| zr <| tl_e rfl <| e_alloc <| fun b7 => tl_e rfl <| e_sT rfl rfl <| zq <| .s3 0 1 3 rfl rfl rfl <| zr <| as0 rfl <| zq <| x_draw0 4 ((b7, .cells #[.int .i64 e] 180 (0, 0)) :: []) Keeps.mem hmix rfl ?_
 refine pmS 0 rfl rfl <| pFa 1 rfl rfl <| pLd 2 rfl rfl rfl <| ze 3 rfl rfl <| e_sT rfl rfl <| kp ?_
 refine zt 4 rfl rfl <| e_sT rfl rfl <| zz (.block_normal (.dropTo ((c, .cells #[.int .i64 e] 25 (0, 0)) :: (b, .cells #[.slice none 0 0] 22 (0, 0)) :: L) iI (.rec_normal lR ⟨rfl, rfl, rfl⟩)))
theorem caughtHB_spec {wf : FuncId} {first cap : List Value} {K : Option Addr → Nat → Nat → Mem → Prop} {Kp : Int → Prop}
  (hw : ∀ p q, Con Tryz.prog wf (first ++ [] ++ cap).toArray G M (p :: q :: L) (fun v M' L' => L' = p :: q :: L ∧ ∃ A n c, v = .slice A n c ∧ K A n c M') (fun ch M' L' => L' = p :: q :: L ∧ ∃ e, Kp e ∧ ch = hwrong e)) :
  Con Tryz.prog 46 #[.func (.func wf) first.toArray cap.toArray] G M L (fun v M' L' => L' = L ∧ ((∃ A n c, v = .tuple #[.slice A n c, .int .i64 0] ∧ K A n c M') ∨ (∃ e, v = .tuple #[.slice none 0 0, .int .i64 e] ∧ Kp e))) noPanic := by
 refine enterD (args := [_]) (fn := Tryz.f46) ⟨Tryz.func46, rfl, by kernel_rfl, by kernel_rfl⟩ 7 rfl <| zr <| tl_e rfl <| e_alloc <| fun b1 => tl_e rfl <| e_alloc <| fun b2 => zq <| zr <| tl_y rfl (y_makeFunc rfl rfl) <| tl_e rfl <| e_defer rfl rfl rfl <| zq <| zr <| mvF rfl <| tl_e rfl (e_callv rfl rfl (hw _ _) (by
  rintro _ M1 _ hM1 ⟨rfl, e, hr, rfl⟩
  refine .retD (cap := [_, _]) (args := []) caughtHB1_wrong ?_
  rintro _ M2 _ hM2 ⟨rfl, rfl, rfl⟩
  exact .inl ⟨rfl, _, L, rv2 rfl (rc_cell (by rfl) rfl (.own iI iI)) (rc_cell (by rfl) rfl (.own iI iI)), iI, hM1, rfl, .inr ⟨e, rfl, hr⟩⟩) ?_)
 rintro _ M1 _ hM1 ⟨rfl, A, n, c, rfl, hk⟩
 refine tl_e rfl <| e_sT rfl rfl <| tl_e rfl <| e_sT rfl rfl <| zq <| .s2 2 3 rfl rfl <| x_ret <| .retD (cap := [_, _]) (args := []) (caughtHB1_ret (cs := [.slice A n c])) ?_
 rintro _ M2 _ hM2 ⟨rfl, rfl, rfl⟩
 exact .inl ⟨rfl, _, L, rv2 rfl (rc_cell (by rfl) rfl (.own iI iI)) (rc_cell (by rfl) rfl (.own iI iI)), iI, hM1, rfl, .inl ⟨A, n, c, rfl, hk⟩⟩
theorem hwell_spec (e : Int) :
  Con Tryz.prog 106 #[.int .i64 e] G M L (fun v M' L' => M = M' ∧ L = L' ∧ e = 0) (fun ch M' L' => M = M' ∧ L = L' ∧ e ≠ 0 ∧ ch = hwrong e) := by
 refine zfn Tryz.func106 rfl 6 rfl <| x_region <| mvI rfl <| tl_y rfl (y_eql rfl rfl) <| mvI rfl <| tl_e rfl (e_call rfl (hmust_spec _ _) (by
  rintro _ _ _ _ ⟨rfl, rfl, ht, rfl⟩
  exact .retA rfl lR ⟨rfl, rfl, by simpa using ht, rfl⟩) ?_)
 rintro _ _ _ _ ⟨rfl, rfl, ht⟩
 refine tl_nil (end0 rfl lR ⟨rfl, rfl, by simpa using ht⟩)
theorem below_spec (hg : LmG M) (x : PairV) (hname : Bytes M NA nl nc name) (hsec : Bytes M SA sl_ sc sec) (q : UInt32) :
  Con Tryz.prog 102 #[.agg (List.toArray x.cells), .agg (List.toArray (seedC NA nl nc SA sl_ sc)), .int .u32 (q.toNat : Int)] G M L (fun v M' L' => L' = L ∧ ∃ y z : SlV, v = .agg #[y.v, z.v] ∧ belE x nl sl_ = 0 ∧ Bytes M' y.a y.n y.c (belN x name sec q.toNat) ∧ Bytes M' z.a z.n z.c (belS x name sec q.toNat)) (fun ch M' L' => L' = L ∧ belE x nl sl_ ≠ 0 ∧ ch = hwrong (belE x nl sl_)) := by
 refine zfn Tryz.func102 rfl 32 rfl <| zr <| tl_e rfl <| e_box rfl <| fun b1 => tl_e rfl <| e_box rfl <| fun b2 => tl_e rfl <| e_alloc <| fun b3 => zq <| zr <| tLg rfl rfl <| zca rfl (lMay_spec hg.hs x) ?_
 rintro _ M1 _ hM1 ⟨rfl, rfl⟩
 have hd := hM1
 refine tl_e rfl (e_call rfl (hmust_spec _ _) (by
  rintro _ _ _ _ ⟨rfl, rfl, ht, rfl⟩
  have e : belE x nl sl_ = 4 := by rw [belE, if_pos (by simpa using ht)]
  exact TP.dropTo L iI (.retA rfl hd ⟨rfl, by rw [e]; decide, by rw [e]⟩)) ?_)
 rintro _ _ _ _ ⟨rfl, rfl, ht⟩
 have hok : okP x := by simpa using ht
 obtain ⟨n, w, p, H, hx⟩ := okP_facts hok
 have hn32 := hx.o.n32
 refine zq <| .s4 2 3 4 6 rfl rfl rfl rfl <| zr <| tFa rfl <| tLd rfl rfl <| zca rfl (Ots_spec (hg.mono hd).ch.set x.o) ?_
 rintro _ M2 _ hM2 ⟨rfl, rfl⟩
 replace hd := hd.trans hM2
 refine mvU rfl <| zx rfl <| zx rfl <| tl_e rfl <| e_alloc <| fun b4 => tl_e rfl <| e_sT rfl rfl <| asI rfl <| zq <| .s4 2 4 6 7 rfl rfl rfl rfl <| zr <| tLg rfl rfl <| tLg rfl rfl <| zca rfl (oMay_spec (hg.mono hd).ch.set (otsV x.o)) ?_
 rintro _ M3 _ hM3 ⟨rfl, rfl⟩
 replace hd := hd.trans hM3
 refine tl_e rfl (e_call rfl (hmust_spec _ _) (by
  rintro _ _ _ _ ⟨rfl, rfl, ht, rfl⟩
  have e : belE x nl sl_ = 1 := by rw [belE, if_neg (fun h => h hok), if_pos (by simpa using ht)]
  exact TP.dropTo L iI (.retA rfl hd ⟨rfl, by rw [e]; decide, by rw [e]⟩)) ?_)
 rintro _ _ _ _ ⟨rfl, rfl, ht⟩
 have hy : okY (otsV x.o) nl sl_ := by simpa using ht
 have he0 : belE x nl sl_ = 0 := by rw [belE, if_neg (fun h => h hok), if_neg (fun h => h hy)]
 have hll := hidB_len hx.o name sec q.toNat 65535
 refine zq <| .s4 2 4 6 7 rfl rfl rfl rfl <| x_seq ?_
 have he : Le M3 M3 := Le.refl _
 refine x_draw 10 hmix rfl <| zy 0 rfl rfl (y_lg rfl rfl) <| zy 1 rfl rfl (y_lg rfl rfl) <| pmI 2 rfl rfl <| zy 5 rfl rfl (y_lg rfl rfl) <| zy 6 rfl rfl (y_lg rfl rfl) <| pmI 7 rfl rfl <| ze 3 rfl rfl <| e_call' rfl (oSecret_spec (hg.mono hd).ch (otsV x.o) (hname.mono hd) (hsec.mono hd) q 65535 (by omega)) ?_
 rintro _ M4 _ hM4 ⟨rfl, A4, m4, c4, rfl, hA4⟩
 rw [if_pos hy] at hA4
 have hm4 := hA4.size
 have hc4 := hA4.le
 replace hd := hd.trans hM4
 replace he := he.trans hM4
 try replace hA5 := hA5.mono hM4
 refine ⟨⟨he, Keeps.mem⟩, ?_⟩
 refine zp 4 rfl rfl (y_slice3 rfl rfl rfl (by omega) (by omega)) ?_
 refine ze 8 rfl rfl <| e_call' rfl (oSecret_spec (hg.mono hd).ch (otsV x.o) (hname.mono hd) (hsec.mono hd) q 65534 (by omega)) ?_
 rintro _ M5 _ hM5 ⟨rfl, A5, m5, c5, rfl, hA5⟩
 rw [if_pos hy] at hA5
 replace hd := hd.trans hM5
 replace he := he.trans hM5
 try replace hA4 := hA4.mono hM5
 refine ⟨⟨he, Keeps.mem⟩, ?_⟩
 refine zp 9 rfl rfl (y_build rfl) <| zt 10 rfl rfl <| e_sT rfl rfl <| zz <| .then_normal <| .s1 6 rfl <| x_ret (retRV (L' := L) (rv1 rfl (rc_cellAgg (by rfl) rfl (.own iI iI))) iI hd ⟨rfl, ⟨_, _, _⟩, ⟨_, _, _⟩, rfl, he0, Bytes.take3 hA4 16 16 (by omega) (Nat.le_refl _) (by omega), hA5⟩)
theorem hpublic_spec (hg : LmG M) (x : PairV) (hname : Bytes M NA nl nc name) (hsec : Bytes M SA sl_ sc sec) :
  Con Tryz.prog 53 #[.agg (List.toArray x.cells), .agg (List.toArray (seedC NA nl nc SA sl_ sc))] G M L (fun v M' L' => L' = L ∧ mayC x nl sl_ = 0 ∧ ∃ A m c, v = .slice A m c ∧ Bytes M' A m c (pubB x name sec)) (fun ch M' L' => L' = L ∧ mayC x nl sl_ ≠ 0 ∧ ch = hwrong (mayC x nl sl_)) := by
 refine zfn Tryz.func53 rfl 16 rfl <| zr <| tl_e rfl <| e_box rfl <| fun b1 => tl_e rfl <| e_box rfl <| fun b2 => as0 rfl <| zq <| zr <| tLg rfl rfl <| tLg rfl rfl <| zca rfl (Public_lspec hg x hname hsec) ?_
 rintro _ M1 _ hM1 ⟨rfl, A1, m1, c1, rfl, hA1⟩
 refine mvU rfl <| zx rfl <| zx rfl <| asS rfl <| asI rfl <| zq <| .s2 5 6 rfl rfl <| zr <| mvI rfl <| tl_e rfl (e_call rfl (hwell_spec _) (by
  rintro _ _ _ _ ⟨rfl, rfl, hne, rfl⟩
  exact TP.dropTo L iI (.retA rfl hM1 ⟨rfl, hne, rfl⟩)) ?_)
 rintro _ _ _ _ ⟨rfl, rfl, h0⟩
 rw [pubV, if_pos h0] at hA1
 refine zq <| zr <| mvS rfl <| asS rfl <| zq <| .s1 4 rfl <| x_ret (.dropTo L iI (ret1 rfl rfl hM1 ⟨rfl, h0, _, _, _, rfl, hA1⟩))
theorem makes_spec (hg : LmG M) {A : Option Addr} {n c : Nat} {l : List PairV} (h : Row M 2 A n c (prow l)) :
  Con Tryz.prog 48 #[.slice A n c, .agg (List.toArray (seedC NA nl nc SA sl_ sc))] G M L (fun v M' L' => L' = L ∧ canE l nl sl_ = 0) (fun ch M' L' => L' = L ∧ canE l nl sl_ ≠ 0 ∧ ch = hwrong (canE l nl sl_)) := by
 have hmx := h.max
 have hle := h.le
 have hln : l.length = n := by have := h.len; rw [prow, flat_len pcl] at this; omega
 refine zfn Tryz.func48 rfl 37 rfl <| zr <| tl_e rfl <| e_box rfl <| fun b1 => zq <| zr <| mvS rfl <| tl_e rfl (e_call rfl (trees_spec hg.hs h) (by
  rintro _ M1 _ hM1 ⟨rfl, hno, rfl⟩
  have e : canE l nl sl_ = 4 := by rw [canE, if_pos hno]
  exact TP.dropTo L iI (.retA rfl hM1 ⟨rfl, by rw [e]; decide, by rw [e]⟩)) ?_)
 rintro _ M1 _ hM1 ⟨rfl, hok, AT, cT, rfl, hrow⟩
 have hn8 := hok.1.2
 refine asS rfl <| zq <| zr <| mvS rfl <| tLen rfl <| mv0 rfl <| zq <| .s5 0 3 11 12 13 rfl rfl rfl rfl rfl <| x_block ?_
 refine x_loop (I := fun m' F D M2 L2 => ∃ (k : Nat), m' = n - k ∧ k ≤ n ∧ Le M1 M2 ∧ (∀ p ∈ l.take k, (tv p).h ≤ 10 ∧ okY (otsV p.o) nl sl_) ∧ D = [] ∧ L2 = (b1, .cells (List.toArray (seedC NA nl nc SA sl_ sc)) 33 (0, 0)) :: L ∧ F = [(0, .slice A n c), (3, .pointer (some ⟨b1, 0, none⟩)), (11, .slice AT n cT), (12, .int .i64 n), (13, .int .i64 k)]) (n) (F0 := [(0, _), (3, _), (11, _), (12, _), (13, _)]) ?_ (cs5 rfl rfl rfl rfl rfl) ?_
 ·
  exact ⟨0, rfl, by omega, Le.refl _, fun p hp => by simp at hp, rfl, rfl, rfl⟩
 rintro m _ _ M2 _ ⟨k, rfl, hk, hM2, hgd, rfl, rfl, rfl⟩
 refine zr <| tl_y rfl (y_lss rfl rfl) <| zq <| x_seq <| x_cond rfl (fun hc1 => ?_) (fun hc1 => ?_)
 ·
  have hkn : k < n := by omega
  obtain ⟨p, hp⟩ : ∃ p, l[k]? = some p := ⟨_, List.getElem?_eq_getElem (by omega)⟩
  have hmem : p ∈ l := List.mem_of_getElem? hp
  have htk : l.take (k + 1) = l.take k ++ [p] := by
   rw [List.take_add_one, hp]; rfl
  have hpt : (l.map tv)[k]? = some (tv p) := by rw [List.getElem?_map, hp]; rfl
  have hd := hM1.trans hM2
  obtain ⟨g, o, rfl, hcell⟩ := (hrow.mono hM2).cellsN (by omega)
  have hc2 := fun L => hcell L (k * 4) 4 (by rw [trow, flat_len tcl, List.length_map]; omega)
  simp only [trow, flat_take tcl _ k _ hpt] at hc2
  obtain ⟨g2, o2, rfl, hcell2⟩ := (h.mono hd).addr (by omega)
  have hv0 := fun L => hcell2 L (k * 2 + 0) (.int .u32 (p.o.toNat : Int)) (by rw [prow, flat_get pcl _ k p hp 0 (by omega)]; rfl)
  refine x_skip <| .then_normal <| x_seq <| x_block <| zr <| mvI rfl <| tl_y rfl (y_indexAddr rfl rfl (by omega)) <| tl_y rfl (y_loadAgg rfl rfl (.at_ (hc2 _) (by omega))) <| tl_e rfl <| e_alloc <| fun b2 => asI rfl <| tl_e rfl <| e_sT rfl rfl <| zq <| .s7 0 3 5 6 11 12 13 rfl rfl rfl rfl rfl rfl rfl <| zr <| mvS rfl <| mvI rfl <| tl_y rfl (y_indexAddr rfl rfl (by omega)) <| tFa rfl <| tl_y rfl (y_load rfl rfl (.at_ (hv0 _) (by omega))) ?_
  refine zca rfl (Ots_spec (hg.mono hd).ch.set p.o) ?_
  rintro _ M3 _ hM3 ⟨rfl, rfl⟩
  replace hd := hd.trans hM3
  refine mvU rfl <| zx rfl <| zx rfl <| tl_e rfl <| e_alloc <| fun b3 => tl_e rfl <| e_sT rfl rfl <| asI rfl <| zq <| .s7 0 3 6 7 11 12 13 rfl rfl rfl rfl rfl rfl rfl <| x_region <| tFa rfl <| tLd rfl rfl <| tl_y rfl (y_leq rfl rfl) <| mvB rfl <| tl_cases (s := 30) rfl (fun hk1 => ?_) (fun hk1 => ?_)
  ·
   refine tLg rfl rfl <| tLg rfl rfl <| zca rfl (oMay_spec (hg.mono hd).ch.set (otsV p.o)) ?_
   rintro _ M4 _ hM4 ⟨rfl, rfl⟩
   replace hd := hd.trans hM4
   refine tPt rfl rfl <| tl_e rfl (e_call rfl (hmust_spec _ _) (by
    rintro _ _ _ _ ⟨rfl, rfl, ht, rfl⟩
    have e : canE l nl sl_ = 1 := by rw [canE, if_neg (fun h => h hok), if_pos (fun h => by have := (h p hmem).2; simp [this] at ht)]
    exact TP.dropTo L iI (.retA rfl hd ⟨rfl, by rw [e]; decide, by rw [e]⟩)) ?_)
   rintro _ _ _ _ ⟨rfl, rfl, ht⟩
   refine tl_nil <| .block_normal <| .then_normal <| .s5 0 3 11 12 13 rfl rfl rfl rfl rfl <| x_region <| tl_y rfl (y_addI rfl rfl (by omega)) <| mvI rfl <| .dropTo ((b1, .cells (List.toArray (seedC NA nl nc SA sl_ sc)) 33 (0, 0)) :: L) iI <| tl_nil <| .loop_next (m' := n - (k + 1)) (by omega) (F' := [(0, _), (3, _), (11, _), (12, _), (13, _)]) (cs5 rfl rfl rfl rfl rfl) ?_
   exact ⟨k + 1, rfl, by omega, hM2.trans (hM3.trans hM4), fun p' hp' => by
    rw [htk, List.mem_append, List.mem_singleton] at hp'
    rcases hp' with hp' | rfl
    ·
     exact hgd p' hp'
    exact ⟨hk1, by simpa using ht⟩, rfl, rfl, rfl⟩
  refine sk3 rfl rfl rfl <| tPf rfl rfl <| tl_e rfl (e_call rfl (hmust_spec _ _) (by
   rintro _ _ _ _ ⟨rfl, rfl, ht, rfl⟩
   have e : canE l nl sl_ = 1 := by rw [canE, if_neg (fun h => h hok), if_pos (fun h => hk1 (h p hmem).1)]
   exact TP.dropTo L iI (.retA rfl hd ⟨rfl, by rw [e]; decide, by rw [e]⟩)) ?_)
  rintro _ _ _ _ ⟨rfl, rfl, ht⟩
  refine tl_nil <| .block_normal <| .then_normal <| .s5 0 3 11 12 13 rfl rfl rfl rfl rfl <| x_region <| tl_y rfl (y_addI rfl rfl (by omega)) <| mvI rfl <| tl_nil <| .loop_next (m' := n - (k + 1)) (by omega) (F' := [(0, _), (3, _), (11, _), (12, _), (13, _)]) (cs5 rfl rfl rfl rfl rfl) ?_
  exact absurd ht (by simp)
 obtain rfl : k = n := by omega
 rw [List.take_of_length_le (by omega)] at hgd
 refine x_exit (.then_exit (.loop_exit (.block_exit (.dropTo L iI (end0 rfl (hM1.trans hM2) ⟨rfl, canE_ok hok hgd⟩)))))
theorem Public1_hspec (hg : LmG M) {A : Option Addr} {n c : Nat} {l : List PairV} (h : Row M 2 A n c (prow l)) (hname : Bytes M NA nl nc name) (hsec : Bytes M SA sl_ sc sec) {bl bs : Nat}
  [i1 : Has L bl (.cells #[.slice A n c] 31 (0, 0))] [i2 : Has L bs (.cells (List.toArray (seedC NA nl nc SA sl_ sc)) 33 (0, 0))] :
  Con Tryz.prog 115 #[.pointer (some ⟨bl, 0, none⟩), .pointer (some ⟨bs, 0, none⟩)] G M L (fun v M' L' => L' = L ∧ ∃ A m c, v = .slice A m c ∧ canE l nl sl_ = 0 ∧ Bytes M' A m c (hpubB l name sec)) (fun ch M' L' => L' = L ∧ ∃ e, (canE l nl sl_ ≠ 0 ∧ e = canE l nl sl_) ∧ ch = hwrong e) := by
 have hln : l.length = n := by have := h.len; rw [prow, flat_len pcl] at this; omega
 have hns := hname.size
 have hss := hsec.size
 refine zfn Tryz.func115 rfl 17 rfl <| zr <| as0 rfl <| zq <| zr <| tLd rfl rfl <| tLg rfl rfl <| tl_e rfl (e_call rfl (makes_spec hg h) (by
  rintro _ M1 _ hM1 ⟨rfl, hno, rfl⟩
  exact .retA rfl hM1 ⟨rfl, _, ⟨hno, rfl⟩, rfl⟩) ?_)
 rintro _ M1 L hM1 ⟨rfl, h0⟩
 have hd : Le M M1 := hM1
 obtain ⟨hok, hcan⟩ := canE_zero h0
 have hn8 := hok.1
 obtain ⟨hp0, hm0, he0, _⟩ := okL_get hok (i := 0) (by omega)
 have hmay : mayC (l.getD 0 p0) nl sl_ = 0 := by
  have := (seedR_may hok hcan [] hns hss (i := 0) (j := 0) (by omega) (by omega)).2
  rw [seedR, hns, hss] at this
  exact this
 obtain ⟨n', w', p', H', hx⟩ := okP_facts hp0
 have hn32 := hx.o.n32
 have hn16 : name.length = 16 := by rw [hns]; exact (hcan _ hm0).2.2.1
 obtain ⟨pp1, _, _, _, _⟩ := pub_parts hx hn16 sec
 obtain ⟨g, o, rfl, hcell⟩ := (h.mono hd).cellsN (by omega)
 have hc2 := fun L => hcell L (0 * 2) 2 (by rw [prow, flat_len pcl]; omega)
 simp only [prow, flat_take pcl l 0 _ he0] at hc2
 refine zq <| .s2 0 1 rfl rfl <| x_seq ?_
 have he : Le M1 M1 := Le.refl _
 refine x_draw 12 hmix rfl <| pLd 0 rfl rfl rfl <| zp 1 rfl rfl (y_len rfl) <| zp 2 rfl rfl (y_convN64 rfl (by omega)) <| pLd 4 rfl rfl rfl <| zp 5 rfl rfl (y_indexAddr rfl rfl (by omega)) <| zy 6 rfl rfl (y_loadAgg rfl rfl (.at_ (hc2 _) (by omega))) <| zy 7 rfl rfl (y_lg rfl rfl) ?_
 refine ze 3 rfl rfl <| e_call' rfl (PutV_spec n 4 (by omega) (by omega)) ?_
 rintro _ M2 _ hM2 ⟨rfl, A2, c2, rfl, hA2⟩
 replace hd := hd.trans hM2
 replace he := he.trans hM2
 try replace hA3 := hA3.mono hM2
 refine ⟨⟨he, Keeps.mem⟩, ?_⟩
 refine to_e 8 rfl (by kernel_rfl) rfl (e_call rfl (hpublic_spec (hg.mono hd) (l.getD 0 p0) (hname.mono hd) (hsec.mono hd)) (by
  rintro _ M3 _ hM3 ⟨rfl, hno, rfl⟩
  exact absurd hmay hno) ?_)
 rintro _ M3 L hM3 ⟨rfl, _, A3, m3, c3, rfl, hA3⟩
 replace hd := hd.trans hM3
 replace he := he.trans hM3
 try replace hA2 := hA2.mono hM3
 refine ⟨⟨he, Keeps.mem⟩, ?_⟩
 refine ze 9 rfl rfl <| e_buildSlice rfl (by decide) <| fun b7 => ⟨⟨he, Keeps.mem⟩, ?_⟩
 refine .pub b7 iI <| fun M6 hM6 hb7 => ?_
 have hd6 := hd.trans hM6
 have he6 := he.trans hM6
 have hfl : [putB n 4, pubB (l.getD 0 p0) name sec].flatten = hpubB l name sec := by simp [hpubB, hln]
 have hfll : (hpubB l name sec).length ≤ 100 := by rw [hpubB, List.length_append, putB_length, pp1]; omega
 refine ze 10 rfl rfl <| e_call' rfl (Cat_spec (Row.whole hb7 rfl (by omega)) (.cons (hA2.mono hM6) (.cons (hA3.mono hM6) .nil)) (by rw [hfl]; omega)) ?_
 rintro _ M7 _ hM7 ⟨rfl, A7, c7, rfl, hA7⟩
 rw [hfl] at hA7
 rw [hfl]
 replace hd6 := hd6.trans hM7
 replace he6 := he6.trans hM7
 refine ⟨⟨he6, Keeps.mem⟩, ?_⟩
 refine paS 11 rfl rfl <| zz <| .then_normal <| .s1 2 rfl <| x_ret (.dropTo L iI (ret1 rfl rfl hd6 ⟨rfl, _, _, _, rfl, h0, hA7⟩))
theorem Public_hspec (hg : LmG M) {A : Option Addr} {n c : Nat} {l : List PairV} (h : Row M 2 A n c (prow l)) (hname : Bytes M NA nl nc name) (hsec : Bytes M SA sl_ sc sec) :
  Con Tryz.prog 66 #[.slice A n c, .agg (List.toArray (seedC NA nl nc SA sl_ sc))] G M L (fun v M' L' => L' = L ∧ ∃ A m c, v = .tuple #[.slice A m c, .int .i64 (canE l nl sl_)] ∧ Bytes M' A m c (hpubV l nl sl_ name sec)) noPanic := by
 refine zfn Tryz.func66 rfl 10 rfl <| zr <| tl_e rfl <| e_box rfl <| fun b1 => tl_e rfl <| e_box rfl <| fun b2 => as0 rfl <| as0 rfl <| zq <| .s2 2 3 rfl rfl <| zr <| tl_y rfl (y_makeFunc rfl rfl) <| zca rfl (caughtHB_spec (K := fun A m c M' => canE l nl sl_ = 0 ∧ Bytes M' A m c (hpubB l name sec)) (Kp := fun e => canE l nl sl_ ≠ 0 ∧ e = canE l nl sl_) (first := []) (cap := [.pointer (some ⟨b1, 0, none⟩), .pointer (some ⟨b2, 0, none⟩)]) (fun p' q' => Public1_hspec hg h hname hsec)) ?_
 rintro v M1 _ hM1 ⟨rfl, hv⟩
 obtain ⟨A2, m2, c2, rfl, hA⟩ : ∃ A m c, v = .tuple #[.slice A m c, .int .i64 (canE l nl sl_)] ∧ Bytes M1 A m c (hpubV l nl sl_ name sec) := by
  rcases hv with ⟨A, m, c, rfl, h0, hb⟩ | ⟨e, rfl, hno, rfl⟩
  ·
   exact ⟨A, m, c, by rw [h0], by rw [hpubV, if_pos h0]; exact hb⟩
  exact ⟨none, 0, 0, rfl, by rw [hpubV, if_neg hno]; exact Row.nil _ _⟩
 refine zx rfl <| zx rfl <| asS rfl <| asI rfl <| zq <| .s2 4 5 rfl rfl <| x_ret (.dropTo L iI (ret2 rfl rfl rfl hM1 ⟨rfl, _, _, _, rfl, hA⟩))
end
inductive PtRows (M : Mem) : List Value → List PartB → Prop
 | nil : PtRows M [] []
 | cons {x : PartB} {KA SA NA : Option Addr} {kl kc sl_ sc nl nc : Nat} {vs : List Value} {ps : List PartB} : Bytes M KA kl kc x.key → Bytes M SA sl_ sc x.sig → Bytes M NA nl nc x.next → (x.next = [] → NA = none) → PtRows M vs ps → PtRows M (.slice KA kl kc :: .slice SA sl_ sc :: .slice NA nl nc :: vs) (x :: ps)
theorem PtRows.mono {M M' : Mem} (hle : Le M M') {vs : List Value} {ps : List PartB} (h : PtRows M vs ps) : PtRows M' vs ps := by
 induction h with
 | nil => exact .nil
 | cons h1 h2 h3 h4 _ ih => exact .cons (h1.mono hle) (h2.mono hle) (h3.mono hle) h4 ih
theorem PtRows.len {M : Mem} {vs : List Value} {ps : List PartB} (h : PtRows M vs ps) : vs.length = ps.length * 3 := by
 induction h with
 | nil => rfl
 | cons _ _ _ _ _ ih => simp only [List.length_cons, ih]; omega
theorem PtRows.snoc {M : Mem} {vs : List Value} {ps : List PartB} (h : PtRows M vs ps) {x : PartB} {KA SA NA : Option Addr} {kl kc sl_ sc nl nc : Nat} (h1 : Bytes M KA kl kc x.key) (h2 : Bytes M SA sl_ sc x.sig) (h3 : Bytes M NA nl nc x.next) (h4 : x.next = [] → NA = none) :
  PtRows M (vs ++ [.slice KA kl kc, .slice SA sl_ sc, .slice NA nl nc]) (ps ++ [x]) := by
 induction h with
 | nil => exact .cons h1 h2 h3 h4 .nil
 | cons a1 a2 a3 a4 _ ih => exact .cons a1 a2 a3 a4 ih
theorem PtRows.get {M : Mem} {vs : List Value} {ps : List PartB} (h : PtRows M vs ps) : ∀ i x, ps[i]? = some x → ∃ KA SA NA kl kc sl_ sc nl nc, (vs.drop (i * 3)).take 3 = [.slice KA kl kc, .slice SA sl_ sc, .slice NA nl nc] ∧ Bytes M KA kl kc x.key ∧ Bytes M SA sl_ sc x.sig ∧ Bytes M NA nl nc x.next ∧ (x.next = [] → NA = none) := by
 induction h with
 | nil => intro i x hi; simp at hi
 | @cons y KA SA NA kl kc sl_ sc nl nc vs ps h1 h2 h3 h4 _ ih =>
  intro i x hi
  cases i with
  | zero =>
   obtain rfl : y = x := by simpa using hi
   exact ⟨KA, SA, NA, kl, kc, sl_, sc, nl, nc, rfl, h1, h2, h3, h4⟩
  | succ i =>
   have := ih i x (by simpa using hi)
   rwa [show (i + 1) * 3 = i * 3 + 3 by omega]
section
variable {G : World} {M : Mem} {L : Own} {A : Option Addr} {m c : Nat} {bs : List UInt8}
theorem caughtHL1_ret {b c : Nat} {x : Int} {cs : List Value} : ConD Tryz.prog 119 #[.pointer (some ⟨b, 0, none⟩), .pointer (some ⟨c, 0, none⟩)] .returning G M ((c, .cells #[.int .i64 x] 25 (0, 0)) :: (b, .cells cs.toArray 144 (0, 0)) :: L) (fun u' M' L' => u' = .returning ∧ M' = M ∧ L' = (c, .cells #[.int .i64 x] 25 (0, 0)) :: (b, .cells cs.toArray 144 (0, 0)) :: L) := by
 refine enterRec (args := [_, _]) (fn := Tryz.f119) ⟨Tryz.func119, rfl, by kernel_rfl, by kernel_rfl⟩ 15 rfl rfl <| x_block <| zr <| tl_y rfl (y_eqNilIface rfl rfl) <| zq <| x_true rfl (rfl) <| x_region <| as0 rfl <| tl_nil (.block_normal (.rec_normal lR ⟨rfl, rfl, rfl⟩))
theorem caughtHL1_wrong {b c : Nat} {x e : Int} : ConD Tryz.prog 119 #[.pointer (some ⟨b, 0, none⟩), .pointer (some ⟨c, 0, none⟩)] (.panicking (hwrong e)) G M ((c, .cells #[.int .i64 x] 25 (0, 0)) :: (b, .cells #[.slice none 0 0] 144 (0, 0)) :: L)
  (fun u' M' L' => u' = .panicking [{ v := hwrongv e, recovered := true }] ∧ M' = M ∧ L' = (c, .cells #[.int .i64 e] 25 (0, 0)) :: (b, .cells #[.slice none 0 0] 144 (0, 0)) :: L) := by
 refine enterRec (args := [_, _]) (fn := Tryz.f119) ⟨Tryz.func119, rfl, by kernel_rfl, by kernel_rfl⟩ 15 rfl rfl <| x_block <| zr <| tl_y rfl (y_eqIfaceNil rfl rfl) <| zq <| x_false rfl (rfl) <| zr <| tl_y rfl (y_assertOk rfl (by intro _ h; cases h)) <| zx rfl <| zx rfl <| zq <| x_true rfl (rfl) <| zr <| tl_e rfl <| e_alloc <| fun b7 => tl_e rfl <| e_sT rfl rfl <| zq <| .s3 0 1 3 rfl rfl rfl <| zr <| as0 rfl <| zq <| x_draw0 4 ((b7, .cells #[.int .i64 e] 180 (0, 0)) :: []) Keeps.mem hmix rfl ?_
 refine pmS 0 rfl rfl <| pFa 1 rfl rfl <| pLd 2 rfl rfl rfl <| ze 3 rfl rfl <| e_sT rfl rfl <| kp ?_
 refine zt 4 rfl rfl <| e_sT rfl rfl <| zz (.block_normal (.dropTo ((c, .cells #[.int .i64 e] 25 (0, 0)) :: (b, .cells #[.slice none 0 0] 144 (0, 0)) :: L) iI (.rec_normal lR ⟨rfl, rfl, rfl⟩)))
theorem caughtHL_spec {wf : FuncId} {first cap : List Value} {K : Option Addr → Nat → Nat → Mem → Prop} {Kp : Int → Prop}
  (hw : ∀ p q, Con Tryz.prog wf (first ++ [] ++ cap).toArray G M (p :: q :: L) (fun v M' L' => L' = p :: q :: L ∧ ∃ A n c, v = .slice A n c ∧ K A n c M') (fun ch M' L' => L' = p :: q :: L ∧ ∃ e, Kp e ∧ ch = hwrong e)) :
  Con Tryz.prog 72 #[.func (.func wf) first.toArray cap.toArray] G M L (fun v M' L' => L' = L ∧ ((∃ A n c, v = .tuple #[.slice A n c, .int .i64 0] ∧ K A n c M') ∨ (∃ e, v = .tuple #[.slice none 0 0, .int .i64 e] ∧ Kp e))) noPanic := by
 refine enterD (args := [_]) (fn := Tryz.f72) ⟨Tryz.func72, rfl, by kernel_rfl, by kernel_rfl⟩ 7 rfl <| zr <| tl_e rfl <| e_alloc <| fun b1 => tl_e rfl <| e_alloc <| fun b2 => zq <| zr <| tl_y rfl (y_makeFunc rfl rfl) <| tl_e rfl <| e_defer rfl rfl rfl <| zq <| zr <| mvF rfl <| tl_e rfl (e_callv rfl rfl (hw _ _) (by
  rintro _ M1 _ hM1 ⟨rfl, e, hr, rfl⟩
  refine .retD (cap := [_, _]) (args := []) caughtHL1_wrong ?_
  rintro _ M2 _ hM2 ⟨rfl, rfl, rfl⟩
  exact .inl ⟨rfl, _, L, rv2 rfl (rc_cell (by rfl) rfl (.own iI iI)) (rc_cell (by rfl) rfl (.own iI iI)), iI, hM1, rfl, .inr ⟨e, rfl, hr⟩⟩) ?_)
 rintro _ M1 _ hM1 ⟨rfl, A, n, c, rfl, hk⟩
 refine tl_e rfl <| e_sT rfl rfl <| tl_e rfl <| e_sT rfl rfl <| zq <| .s2 2 3 rfl rfl <| x_ret <| .retD (cap := [_, _]) (args := []) (caughtHL1_ret (cs := [.slice A n c])) ?_
 rintro _ M2 _ hM2 ⟨rfl, rfl, rfl⟩
 exact .inl ⟨rfl, _, L, rv2 rfl (rc_cell (by rfl) rfl (.own iI iI)) (rc_cell (by rfl) rfl (.own iI iI)), iI, hM1, rfl, .inl ⟨A, n, c, rfl, hk⟩⟩
theorem htake_spec {b : Nat} (h : Bytes M A m c bs) (n : Nat) :
  Con Tryz.prog 163 #[.pointer (some ⟨b, 0, none⟩), .int .i64 (n : Int)] G M ((b, .cells #[.slice A m c] 22 (0, 0)) :: L) (fun v M' L' => L' = (b, .cells #[.slice (sl A n c 1) (m - n) (c - n)] 22 (0, 0)) :: L ∧ n ≤ m ∧ v = .slice (sl A 0 n 1) n n) (fun ch M' L' => L' = (b, .cells #[.slice A m c] 22 (0, 0)) :: L ∧ m < n ∧ ch = hwrong 2) := by
 have hc := h.le
 refine zfn Tryz.func163 rfl 27 rfl <| zr <| as0 rfl <| zq <| zr <| mvP rfl <| zc rfl <| tLd rfl rfl <| tLen rfl <| mvI rfl <| tl_y rfl (y_geq rfl rfl) <| tl_e rfl (e_call rfl (hmust_spec _ _) (by
  rintro _ _ _ _ ⟨rfl, rfl, ht, rfl⟩
  exact .retA rfl lR ⟨rfl, by simp at ht; omega, rfl⟩) ?_)
 rintro _ _ _ _ ⟨rfl, rfl, ht⟩
 have hn : n ≤ m := by simp at ht; omega
 refine zq <| .s2 0 1 rfl rfl <| zr <| mvP rfl <| zc rfl <| tLd rfl rfl <| mvI rfl <| mvI rfl <| tl_y rfl (y_slice3 rfl rfl rfl (by omega) (by omega)) <| asS rfl <| zq <| .s3 0 1 5 rfl rfl rfl <| zr <| mvP rfl <| mvP rfl <| zc rfl <| tLd rfl rfl <| mvI rfl <| tl_y rfl (y_sliceL rfl rfl (by omega)) <| zc rfl <| tl_e rfl <| e_sT rfl rfl <| zq <| .s1 5 rfl <| zr <| mvS rfl <| asS rfl <| zq <| x_ret (ret1 rfl rfl lR ⟨rfl, hn, rfl⟩)
theorem hcount_spec {b : Nat} (h : Bytes M A m c bs) :
  Con Tryz.prog 120 #[.pointer (some ⟨b, 0, none⟩)] G M ((b, .cells #[.slice A m c] 22 (0, 0)) :: L) (fun v M' L' => L' = (b, .cells #[.slice (sl A 4 c 1) (m - 4) (c - 4)] 22 (0, 0)) :: L ∧ 4 ≤ m ∧ v = .int .i64 ((getB (bs.take 4) : Nat) : Int)) (fun ch M' L' => L' = (b, .cells #[.slice A m c] 22 (0, 0)) :: L ∧ m < 4 ∧ ch = hwrong 2) := by
 have hc := h.le
 have hm := h.size
 refine zfn Tryz.func120 rfl 13 rfl <| zr <| as0 rfl <| zq <| zr <| mvP rfl <| tl_e rfl (e_call rfl (htake_spec h 4) (by
  rintro _ M1 _ hM1 ⟨rfl, hlt, rfl⟩
  exact .retA rfl hM1 ⟨rfl, hlt, rfl⟩) ?_)
 rintro _ M1 _ hM1 ⟨rfl, h4, rfl⟩
 have hgl := getB_lt (bs.take 4)
 rw [List.length_take, Nat.min_eq_left (by omega)] at hgl
 refine zca rfl (Get8_spec (Bytes.take3 (h.mono hM1) 4 4 h4 (Nat.le_refl _) (by omega)) (by omega)) ?_
 rintro _ _ _ _ ⟨rfl, rfl, x, hx, rfl⟩
 refine mvU rfl <| zx rfl <| zx rfl <| asI rfl <| asB rfl <| zq <| .s1 3 rfl <| zr <| mvI rfl <| tl_y rfl (y_convE (b := ((getB (bs.take 4) : Nat) : Int)) rfl (by rw [← hx]; exact IntWalk.i64_in _ (by omega))) <| asI rfl <| zq <| x_ret (ret1 rfl rfl hM1 ⟨rfl, h4, rfl⟩)
theorem hkey_spec (hg : LmG M) {b : Nat} (h : Bytes M A m c bs) :
  Con Tryz.prog 121 #[.pointer (some ⟨b, 0, none⟩)] G M ((b, .cells #[.slice A m c] 22 (0, 0)) :: L) (fun v M' L' => keyE bs = 0 ∧ ∃ A' m' c' A2 n2 c2, L' = (b, .cells #[.slice A' m' c'] 22 (0, 0)) :: L ∧ v = .slice A2 n2 c2 ∧ Bytes M' A2 n2 c2 (keyT bs) ∧ Bytes M' A' m' c' (keyD bs)) (fun ch M' L' => L' = (b, .cells #[.slice A m c] 22 (0, 0)) :: L ∧ keyE bs ≠ 0 ∧ ch = hwrong (keyE bs)) := by
 have hc := h.le
 have hm := h.size
 refine zfn Tryz.func121 rfl 50 rfl <| zr <| as0 rfl <| zq <| zr <| mvP rfl <| zc rfl <| tLd rfl rfl <| tLen rfl <| tl_y rfl (y_geq rfl rfl) <| tl_e rfl (e_call rfl (hmust_spec _ _) (by
  rintro _ _ _ _ ⟨rfl, rfl, ht, rfl⟩
  have e : keyE bs = 2 := by rw [keyE, if_pos (by simp at ht; omega)]
  exact .retA rfl lR ⟨rfl, by rw [e]; decide, by rw [e]⟩) ?_)
 rintro _ _ _ _ ⟨rfl, rfl, ht⟩
 have h8 : 8 ≤ m := by simp at ht; omega
 have hs4 : Bytes M (sl A 4 c 1) 4 (c - 4) ((bs.drop 4).take 4) := Bytes.sub h 4 8 (by omega) h8
 refine zq <| .s1 0 rfl <| zr <| tl_y rfl (y_build rfl) <| tl_e rfl <| e_alloc <| fun b1 => tl_e rfl <| e_sT rfl rfl <| zq <| zr <| mvP rfl <| zc rfl <| tLd rfl rfl <| tl_y rfl (y_sliceH rfl rfl (by omega) (by omega)) ?_
 refine zca rfl (Get8_spec (Bytes.take h 4 (by omega)) (by omega)) ?_
 rintro _ _ _ _ ⟨rfl, rfl, x, hx, rfl⟩
 have hgl := getB_lt (bs.take 4)
 rw [List.length_take, Nat.min_eq_left (by omega)] at hgl
 have hcv : ((pairC bs).t.toNat : Int) = (x.toNat : Int) := by rw [pairC, UInt32.toNat_ofNat', hx, Nat.mod_eq_of_lt (by omega)]
 refine mvU rfl <| zx rfl <| zx rfl <| asI rfl <| asB rfl <| zq <| .s3 0 3 4 rfl rfl rfl <| zr <| mvP rfl <| zc rfl <| tLd rfl rfl <| tl_y rfl (y_sliceLH rfl rfl rfl (by omega) (by omega)) ?_
 refine zca rfl (Get8_spec hs4 (by omega)) ?_
 rintro _ _ _ _ ⟨rfl, rfl, y, hy, rfl⟩
 have hgl2 := getB_lt ((bs.drop 4).take 4)
 rw [List.length_take, List.length_drop, Nat.min_eq_left (by omega)] at hgl2
 have hcv2 : ((pairC bs).o.toNat : Int) = (y.toNat : Int) := by rw [pairC, UInt32.toNat_ofNat', hy, Nat.mod_eq_of_lt (by omega)]
 refine mvU rfl <| zx rfl <| zx rfl <| asI rfl <| asB rfl <| zq <| .s4 0 3 4 6 rfl rfl rfl rfl <| zr <| mvI rfl <| tl_y rfl (y_convE (b := ((pairC bs).t.toNat : Int)) rfl (by rw [wrapU32, hcv]; omega)) <| mvI rfl <| tl_y rfl (y_convE (b := ((pairC bs).o.toNat : Int)) rfl (by rw [wrapU32, hcv2]; omega)) <| tFa rfl <| tl_e rfl <| e_sT rfl rfl <| tFa rfl <| tl_e rfl <| e_sT rfl rfl <| zq <| .s2 0 3 rfl rfl <| zr <| tLg rfl rfl <| zca rfl (lMay_spec hg.hs (pairC bs)) ?_
 rintro _ M1 _ hM1 ⟨rfl, rfl⟩
 have hd := hM1
 refine tl_e rfl (e_call rfl (hmust_spec _ _) (by
  rintro _ _ _ _ ⟨rfl, rfl, ht, rfl⟩
  have e : keyE bs = 4 := by rw [keyE, if_neg (by omega), if_pos (by simpa using ht)]
  exact TP.dropTo ((b, .cells #[.slice A m c] 22 (0, 0)) :: L) iI (.retA rfl hd ⟨rfl, by rw [e]; decide, by rw [e]⟩)) ?_)
 rintro _ _ _ _ ⟨rfl, rfl, ht⟩
 have hok : okP (pairC bs) := by simpa using ht
 refine zq <| zr <| tLg rfl rfl <| zca rfl (Sizes_spec (hg.mono hd) (pairC bs)) ?_
 rintro _ M2 _ hM2 ⟨rfl, rfl⟩
 replace hd := hd.trans hM2
 rw [show szP (pairC bs) = pubN (pairC bs) by rw [szP, if_pos hok]]
 refine mvU rfl <| zx rfl <| zx rfl <| asI rfl <| asI rfl <| zq <| .s2 0 8 rfl rfl <| zr <| mvP rfl <| mvI rfl <| .dropTo ((b, .cells #[.slice A m c] 22 (0, 0)) :: L) iI <| tl_e rfl (e_call rfl (htake_spec (h.mono hd) (pubN (pairC bs))) (by
  rintro _ M3 _ hM3 ⟨rfl, hlt, rfl⟩
  have e : keyE bs = 2 := by rw [keyE, if_neg (by omega), if_neg (fun h => h hok), if_pos (by omega)]
  exact .retA rfl (hd.trans hM3) ⟨rfl, by rw [e]; decide, by rw [e]⟩) ?_)
 rintro _ M3 _ hM3 ⟨rfl, hle, rfl⟩
 replace hd := hd.trans hM3
 refine asS rfl <| zq <| .s1 2 rfl <| x_ret (ret1 rfl rfl hd ⟨by rw [keyE, if_neg (by omega), if_neg (fun h => h hok), if_neg (by omega)], _, _, _, _, _, _, rfl, rfl, Bytes.take3 (h.mono hd) _ _ hle (Nat.le_refl _) (by omega), Bytes.drop (h.mono hd) _ hle⟩)
theorem hsigned_spec (hg : LmG M) {b : Nat} (h : Bytes M A m c bs) (hmb : m ≤ 1000000000000) {KA : Option Addr} {kl kc : Nat} {k : List UInt8} (hk : Bytes M KA kl kc k) (hkb : kl ≤ 1000000000000) (hk0 : pairE k = 0) :
  Con Tryz.prog 122 #[.slice KA kl kc, .pointer (some ⟨b, 0, none⟩)] G M ((b, .cells #[.slice A m c] 22 (0, 0)) :: L) (fun v M' L' => sigN (pairC k) ≤ m ∧ ∃ A' m' c' A2 n2 c2, L' = (b, .cells #[.slice A' m' c'] 22 (0, 0)) :: L ∧ v = .slice A2 n2 c2 ∧ Bytes M' A2 n2 c2 (sgT k bs) ∧ Bytes M' A' m' c' (sgD k bs)) (fun ch M' L' => L' = (b, .cells #[.slice A m c] 22 (0, 0)) :: L ∧ m < sigN (pairC k) ∧ ch = hwrong 2) := by
 obtain ⟨h8, hok, hlen⟩ := pairE_zero hk0
 have hx0 : pairX k = pairC k := by rw [pairX, if_pos hk0]
 refine zfn Tryz.func122 rfl 31 rfl <| zr <| as0 rfl <| zq <| zr <| mvS rfl <| zca rfl (Pair_spec hg hk hkb) ?_
 rintro _ M1 _ hM1 ⟨rfl, rfl⟩
 have hd := hM1
 rw [hx0, hk0]
 refine mvU rfl <| zx rfl <| zx rfl <| tl_e rfl <| e_alloc <| fun b1 => tl_e rfl <| e_sT rfl rfl <| asI rfl <| zq <| .s3 1 5 6 rfl rfl rfl <| zr <| mvI rfl <| tl_e rfl (e_call rfl (hwell_spec _) (by
  rintro _ _ _ _ ⟨rfl, rfl, hne, rfl⟩
  exact absurd rfl hne) ?_)
 rintro _ _ _ _ ⟨rfl, rfl, _⟩
 refine zq <| x_seq ?_
 have he : Le M1 M1 := Le.refl _
 refine x_draw 12 hmix rfl <| zy 0 rfl rfl (y_lg rfl rfl) <| pmP 1 rfl rfl <| zp 2 rfl rfl (y_nilCheck rfl) <| pLd 3 rfl rfl rfl <| ze 4 rfl rfl <| e_call' rfl (Take_spec (hg.mono hd) (pairC k) (h.mono hd) hmb) ?_
 rintro _ M2 _ hM2 ⟨rfl, A2, n2, c2, A3, n3, c3, rfl, hA2, hA3⟩
 replace hd := hd.trans hM2
 replace he := he.trans hM2
 refine kp ?_
 refine pmU 5 rfl rfl <| zp 6 rfl rfl (y_extract rfl) <| zp 7 rfl rfl (y_extract rfl) <| zp 8 rfl rfl (y_extract rfl) <| paS 9 rfl rfl <| paS 10 rfl rfl <| paI 11 rfl rfl <| zz <| .then_normal <| .s4 1 6 7 8 rfl rfl rfl rfl <| zr ?_
 refine mvI rfl <| tl_e rfl (e_call rfl (hwell_spec _) (by
  rintro _ _ _ _ ⟨rfl, rfl, hne, rfl⟩
  have hlt : m < sigN (pairC k) := Nat.lt_of_not_le (fun hle => hne (by rw [takeE, if_neg (fun h => h hok), if_neg (by omega)]))
  exact TP.dropTo ((b, .cells #[.slice A m c] 22 (0, 0)) :: L) iI (.retA rfl hd ⟨rfl, hlt, by rw [takeE, if_neg (fun h => h hok), if_pos hlt]⟩)) ?_)
 rintro _ _ _ _ ⟨rfl, rfl, h0⟩
 rw [if_pos h0] at hA2 hA3
 have hle : sigN (pairC k) ≤ m := Nat.le_of_not_lt (fun hlt => by rw [takeE, if_neg (fun h => h hok), if_pos hlt] at h0; cases h0)
 refine zq <| zr <| mvP rfl <| mvS rfl <| zc rfl <| tl_e rfl <| e_sT rfl rfl <| zq <| .s1 7 rfl <| zr <| mvS rfl <| asS rfl <| zq <| x_ret (.dropTo ((b, .cells #[.slice A3 n3 c3] 22 (0, 0)) :: L) iI (ret1 rfl rfl hd ⟨hle, _, _, _, _, _, _, rfl, rfl, hA2, hA3⟩))
end
end Go.Proofs.YtplkoemjffplcaaGreatDoor
