/-
Contracts of functions, each proved by a walk through its code.
-/
import Derived.Test.YtplkoemjffplcaaGreatDoorRef1cEtc
import Derived.Test.YtplkoemjffplcaaGreatDoorSetsEtc
set_option linter.all false
namespace Go.Proofs.YtplkoemjffplcaaGreatDoor
open Go Go.Eng
theorem digO_get {o : OtsV} {n w p : Nat} (ho : OF o n w p) (name : List UInt8) (q : Nat) (salt text : List UInt8) : (digO o name q salt text).length = p ∧ ∀ d ∈ digO o name q salt text, d < pw2 w := by
 rw [digO, ho.hn, ho.hw, Int.toNat_natCast, Int.toNat_natCast]
 exact ⟨by rw [allD_len ho.isn ho.isw, ho.up], allD_lt _⟩
theorem intsL_at {xs : List Nat} {i : Nat} (h : i < xs.length) : (intsL xs)[i]? = some (.int .i64 ((xs.getD i 0 : Nat) : Int)) := by
 rw [intsL, List.getElem?_map, List.getD_eq_getElem?_getD, List.getElem?_eq_getElem h]; rfl
section
variable {G : World} {M : Mem} {L : Own} {NA SA TA YA : Option Addr} {nl nc sl sc tl tc yl yc : Nat} {name sec text y : List UInt8}
theorem osum_spec (hg : ChG M) (o : OtsV) {n w p : Nat} (ho : OF o n w p) (hname : Bytes M NA nl nc name) (hn16 : nl = 16) (q : UInt32) (hsalt : Bytes M SA sl sc sec) (htext : Bytes M TA tl tc text) (hsl : sl ≤ 1000000000) (htl : tl ≤ 1000000000) :
  Con Tryz.prog 198 #[.agg (List.toArray o.cells), .slice NA nl nc, .int .u32 (q.toNat : Int), .slice SA sl sc, .slice TA tl tc] G M L (fun v M' L' => L = L' ∧ ∃ A c, v = .slice A p c ∧ Row M' 1 A p c (intsL (digO o name q.toNat sec text))) noPanic := by
 have h1 := hname.size
 have h2 := hsalt.size
 have h3 := htext.size
 refine zfn Tryz.func198 rfl 24 rfl <| zr <| tl_e rfl <| e_box rfl <| fun b1 => as0 rfl <| zq <| x_seq ?_
 have he : Le M M := Le.refl _
 refine x_draw 14 hmix rfl <| pFa 0 rfl rfl <| pLd 1 rfl rfl rfl <| pFa 2 rfl rfl <| pLd 3 rfl rfl rfl <| pmS 4 rfl rfl <| pmI 5 rfl rfl <| pmS 6 rfl rfl <| pmS 7 rfl rfl <| pFa 10 rfl rfl ?_
 refine zy 11 rfl rfl (y_load (v := .int .i64 (w : Int)) rfl rfl (by rw [← ho.hw]; exact .own iI iI)) <| ze 8 rfl rfl <| e_buildSlice rfl (by decide) <| fun b7 => ⟨⟨he, Keeps.mem⟩, ?_⟩
 refine .pub b7 iI <| fun M3 hM3 hb7 => ?_
 replace he := he.trans hM3
 refine ze 9 rfl rfl <| e_call' rfl (Part_spec (hg.mono he).sha (hg.mono he).kec o.kind o.n (hname.mono he) q 33153 (by omega) (Row.whole hb7 rfl (by omega)) (.cons (hsalt.mono he) (.cons (htext.mono he) .nil)) (by simp only [List.flatten_cons, List.flatten_nil, List.length_append, List.length_nil]; omega)) ?_
 rintro _ M4 _ hM4 ⟨rfl, A4, m4, c4, rfl, hA4⟩
 rw [show [sec, text].flatten = sec ++ text by simp] at hA4
 replace he := he.trans hM4
 have hm4 := hA4.size
 rw [cPartO_len ho (by omega)] at hm4
 subst hm4
 refine kp ?_
 refine ze 12 rfl rfl <| e_call' rfl (All7_spec ho.isn ho.isw hA4) ?_
 rintro _ M5 _ hM5 ⟨rfl, A5, c5, rfl, hr5⟩
 replace he := he.trans hM5
 have hr5' : Row M5 1 A5 p c5 (intsL (digO o name q.toNat sec text)) := by
  rw [digO, ho.hn, ho.hw, Int.toNat_natCast, Int.toNat_natCast, ho.up]
  rw [ho.hn] at hr5
  exact hr5
 rw [← ho.up]
 refine kp ?_
 refine paS 13 rfl rfl <| zz <| .then_normal <| .s1 10 rfl <| x_ret (.dropTo L iI (ret1 rfl rfl he ⟨rfl, A5, c5, rfl, hr5'⟩))
theorem oSign1_spec (hg : ChG M) (o : OtsV) {n w p : Nat} (ho : OF o n w p) (hname : Bytes M NA nl nc name) (hsec : Bytes M SA sl sc sec) (hnl : nl ≤ 1000000) (hsl : sl ≤ 1000000) (q : UInt32) {DA : Option Addr} {dc : Nat} {d : List Nat} (hd : Row M 1 DA p dc (intsL d)) (i : Nat) (hi : i < p) {bo bs bq bd : Nat}
  [i1 : Has L bo (.cells (List.toArray o.cells) 103 (0, 0))] [i2 : Has L bs (.cells (List.toArray (seedC NA nl nc SA sl sc)) 33 (0, 0))] [i3 : Has L bq (.cells #[.int .u32 (q.toNat : Int)] 61 (0, 0))] [i4 : Has L bd (.cells #[.slice DA p dc] 68 (0, 0))] :
  Con Tryz.prog 200 #[.int .i64 (i : Int), .pointer (some ⟨bo, 0, none⟩), .pointer (some ⟨bs, 0, none⟩), .pointer (some ⟨bq, 0, none⟩), .pointer (some ⟨bd, 0, none⟩)] G M L (fun v M' L' => L = L' ∧ ∃ A m c, v = .slice A m c ∧ Bytes M' A m c (sigR o name sec q.toNat d i)) noPanic := by
 have hp2 := ho.p2
 have hdl : d.length = p := by have := hd.len; simpa [intsL] using this
 obtain ⟨g, oo, rfl, hcell⟩ := hd.addr (by omega)
 refine zfn Tryz.func200 rfl 23 rfl <| zr <| as0 rfl <| zq <| x_seq ?_
 have he : Le M M := Le.refl _
 refine x_draw 17 hmix rfl <| zy 0 rfl rfl (y_lg rfl rfl) <| pFa 1 rfl rfl <| pLd 2 rfl rfl rfl <| pLd 3 rfl rfl rfl <| pmI 4 rfl rfl <| pLd 5 rfl rfl rfl <| pmI 6 rfl rfl <| zp 7 rfl rfl (y_indexAddrK i rfl rfl (by omega)) <| zy 8 rfl rfl (y_load rfl rfl (.at_ (hcell _ i _ (intsL_at (by omega))) (by omega))) ?_
 refine zy 9 rfl rfl (y_lg rfl rfl) <| zy 10 rfl rfl (y_lg rfl rfl) <| pLd 11 rfl rfl rfl <| pmI 12 rfl rfl <| zp 13 rfl rfl (y_convE (b := (i : Int)) rfl (by rw [wrapU16]; omega)) <| ze 14 rfl rfl <| e_call' rfl (ohid_spec hg o hname hsec hnl hsl q i (by omega)) ?_
 rintro _ M2 _ hM2 ⟨rfl, A2, m2, c2, rfl, hA2⟩
 replace he := he.trans hM2
 refine kp ?_
 refine ze 15 rfl rfl <| e_call' rfl (Up_spec' (hg.mono he).sha (hg.mono he).kec (hg.mono he).set o (hname.mono he) hA2 q i 0 ((d.getD i 0 : Nat) : Int)) ?_
 rintro _ M3 _ hM3 ⟨rfl, A3, m3, c3, rfl, hA3⟩
 replace he := he.trans hM3
 refine kp ?_
 refine paS 16 rfl rfl <| zz <| .then_normal <| .s1 6 rfl <| x_ret (ret1 rfl rfl he ⟨rfl, _, _, _, rfl, hA3⟩)
theorem oSign_spec (hg : ChG M) (o : OtsV) (hname : Bytes M NA nl nc name) (hsec : Bytes M SA sl sc sec) (q : UInt32) (htext : Bytes M TA tl tc text) :
  Con Tryz.prog 157 #[.agg (List.toArray o.cells), .agg (List.toArray (seedC NA nl nc SA sl sc)), .int .u32 (q.toNat : Int), .slice TA tl tc] G M L (fun v M' L' => L = L' ∧ ∃ A m c, v = .slice A m c ∧ Bytes M' A m c (if okY o nl sl ∧ tl ≤ 65536 then sigB o name sec q.toNat text else [])) noPanic := by
 refine zfn Tryz.func157 rfl 43 rfl <| zr <| tl_e rfl <| e_box rfl <| fun b1 => tl_e rfl <| e_box rfl <| fun b2 => tl_e rfl <| e_box rfl <| fun b3 => as0 rfl <| zq <| .s4 3 4 5 6 rfl rfl rfl rfl <| zr2 <| tLg rfl rfl <| tLg rfl rfl <| zca rfl (oMay_spec hg.set o) ?_
 rintro _ M1 _ hM1 ⟨rfl, rfl⟩
 refine tl_y rfl (y_notd rfl) <| mvB rfl <| tl_cases (s := 16) rfl (fun hk1 => ?_) (fun hk1 => ?_)
 ·
  refine sk3 rfl rfl rfl <| tPt rfl rfl <| zq <| .s5 3 4 5 6 20 rfl rfl rfl rfl rfl <| x_true rfl rfl <| zr <| as0 rfl <| zq <| .s1 8 rfl <| x_ret (.then_ret (.dropTo L iI (ret1 rfl rfl hM1 ⟨rfl, _, _, _, rfl, by rw [if_neg (fun h => hk1 h.1)]; exact Row.nil _ _⟩)))
 refine mvS rfl <| tLen rfl <| tl_y rfl (y_gtr rfl rfl) <| tPf rfl rfl <| zq <| .s5 3 4 5 6 20 rfl rfl rfl rfl rfl <| x_cond rfl (fun hc1 => ?_) (fun hc1 => ?_)
 ·
  refine zr <| as0 rfl <| zq <| .s1 8 rfl <| x_ret (.then_ret (.dropTo L iI (ret1 rfl rfl hM1 ⟨rfl, _, _, _, rfl, by rw [if_neg (fun h => by have := h.2; omega)]; exact Row.nil _ _⟩)))
 have hok : okY o nl sl := Classical.not_not.1 hk1
 obtain ⟨n, w, p, ho⟩ := okO_facts hok.1
 have hn32 := ho.n32
 have hn := ho.hn
 have hsl := hok.2.2
 have hnl := hok.2.1
 have hp2 := ho.p2
 have hcl := o.code.toNat_lt
 have htl := htext.size
 refine x_skip <| .then_normal <| zr <| tLg rfl rfl <| tLg rfl rfl <| tLd rfl rfl <| zca rfl (ohid_spec (hg.mono hM1) o (hname.mono hM1) (hsec.mono hM1) (by omega) (by omega) q 65533 (by omega)) ?_
 rintro _ M2 _ hM2 ⟨rfl, A2, m2, c2, rfl, hA2⟩
 have hd := hM1.trans hM2
 have hm2 := hA2.size
 rw [hidB_len ho] at hm2
 subst hm2
 refine asS rfl <| zq <| .s5 3 4 5 6 9 rfl rfl rfl rfl rfl <| zr <| tLg rfl rfl <| tFa rfl <| tLd rfl rfl <| tLd rfl rfl <| mvS rfl <| mvS rfl <| zca rfl (osum_spec (hg.mono hd) o ho (hname.mono hd) hnl q hA2 (htext.mono hd) (by omega) (by omega)) ?_
 rintro _ M3 _ hM3 ⟨rfl, A3, c3, rfl, hr3⟩
 replace hd := hd.trans hM3
 obtain ⟨ds, hds⟩ : ∃ ds, ds = digO o name q.toNat (hidB o name sec q.toNat 65533) text := ⟨_, rfl⟩
 rw [← hds] at hr3
 refine tl_e rfl <| e_alloc <| fun b4 => tl_e rfl <| e_sT rfl rfl <| zq <| .s5 4 5 6 9 10 rfl rfl rfl rfl rfl <| zr <| tLg rfl rfl <| tl_y rfl (y_makeFunc rfl rfl) <| tl_e rfl (e_call' rfl (oall_spec o ho.hp (by omega) (rows := sigR o name sec q.toNat ds) (sigR_le o name sec q.toNat ds) (fun i M2 X hi hM2 hX => by
  haveI i1 : Has X b1 (.cells (List.toArray o.cells) 103 (0, 0)) := ⟨hX _ (Has.mem)⟩
  haveI i2 : Has X b2 (.cells (List.toArray (seedC NA nl nc SA sl sc)) 33 (0, 0)) := ⟨hX _ (Has.mem)⟩
  haveI i3 : Has X b3 (.cells #[.int .u32 (q.toNat : Int)] 61 (0, 0)) := ⟨hX _ (Has.mem)⟩
  haveI i4 : Has X b4 (.cells #[.slice A3 p c3] 68 (0, 0)) := ⟨hX _ (Has.mem)⟩
  exact oSign1_spec ((hg.mono hd).mono hM2) o ho ((hname.mono hd).mono hM2) ((hsec.mono hd).mono hM2) (by omega) (by omega) q (hr3.mono hM2) i hi)) ?_)
 rintro _ M4 _ hM4 ⟨rfl, A4, m4, c4, rfl, hA4⟩
 replace hd := hd.trans hM4
 have hm4 := hA4.size
 have hle := catR_le (sigR_le o name sec q.toNat ds) p
 refine asS rfl <| zq <| .s3 4 9 11 rfl rfl rfl <| zr <| tFa rfl <| tLd rfl rfl <| tl_y rfl (y_convN64 rfl (by omega)) ?_
 refine zca rfl (PutV_spec o.code.toNat 4 (by omega) (by omega)) ?_
 rintro _ M5 _ hM5 ⟨rfl, A5, c5, rfl, hA5⟩
 replace hd := hd.trans hM5
 refine mvS rfl <| mvS rfl <| tl_e rfl <| e_buildSlice rfl (by decide) <| fun b7 => .pub b7 iI <| fun M6 hM6 hb7 => ?_
 replace hd := hd.trans hM6
 have hfl : [putB o.code.toNat 4, hidB o name sec q.toNat 65533, catR (sigR o name sec q.toNat ds) p].flatten = sigB o name sec q.toNat text := by
  rw [sigB, ho.hp, Int.toNat_natCast, saltB, ← hds]; simp
 have hfll : (sigB o name sec q.toNat text).length ≤ 10000 := by
  rw [← hfl]
  simp only [List.flatten_cons, List.flatten_nil, List.length_append, List.length_nil, putB_length]
  rw [hidB_len ho]
  omega
 refine zca rfl (Cat_spec (Row.whole hb7 rfl (by omega)) (.cons (hA5.mono hM6) (.cons (hA2.mono (hM3.trans (hM4.trans (hM5.trans hM6)))) (.cons (hA4.mono (hM5.trans hM6)) .nil))) (by rw [hfl]; omega)) ?_
 rintro _ M7 _ hM7 ⟨rfl, A7, c7, rfl, hA7⟩
 rw [hfl] at hA7
 rw [hfl]
 refine asS rfl <| zq <| .s1 8 rfl <| x_ret (.dropTo L iI (ret1 rfl rfl (hd.trans hM7) ⟨rfl, _, _, _, rfl, by rw [if_pos ⟨hok, by omega⟩]; exact hA7⟩))
end
def sigC (bs : List UInt8) : UInt32 := UInt32.ofNat (getB (bs.take 4))
def ofV (bs : List UInt8) : OtsV × Int :=
 if bs.length < 4 then (ots0, 2) else if otsE (sigC bs) ≠ 0 then (ots0, otsE (sigC bs)) else if bs.length ≠ sizeN (otsV (sigC bs)) then (ots0, 5) else (otsV (sigC bs), 0)
theorem otsV_code {c : UInt32} (h : otsE c = 0) : (otsV c).code = c ∧ okO (otsV c) := by
 obtain ⟨k, hk, e1, e2, e3⟩ := otsE_some h
 have hc : (otsV c).code = c := by
  rw [e2]
  apply UInt32.toNat_inj.1
  show (UInt32.ofNat (k + 1)).toNat = c.toNat
  rw [UInt32.toNat_ofNat', e3, Nat.mod_eq_of_lt (by omega)]
 exact ⟨hc, by rw [okO, hc]; exact ⟨h, rfl⟩⟩
theorem OF.size {o : OtsV} {n w p : Nat} (h : OF o n w p) : sizeN o = 4 + n * (p + 1) ∧ n * (p + 1) = n * p + n ∧ n * p ≤ 32 * 265 := by
 refine ⟨by rw [sizeN, h.hn, h.hp, Int.toNat_natCast, Int.toNat_natCast], Nat.mul_succ n p, Nat.mul_le_mul h.n32.2 h.p2⟩
section
variable {G : World} {M : Mem} {L : Own} {NA SA TA YA : Option Addr} {nl nc sl sc tl tc yl yc : Nat} {name sec text y : List UInt8}
theorem oSize_spec (o : OtsV) {n w p : Nat} (ho : OF o n w p) :
  Con Tryz.prog 170 #[.agg (List.toArray o.cells)] G M L (fun v M' L' => M = M' ∧ L = L' ∧ v = .int .i64 ((sizeN o : Nat) : Int)) noPanic := by
 obtain ⟨h1, h2, h3⟩ := ho.size
 have hn32 := ho.n32
 have hp2 := ho.p2
 have hm : (n : Int) * ((p : Int) + 1) = ((n * (p + 1) : Nat) : Int) := by push_cast; rfl
 refine zfn Tryz.func170 rfl 10 rfl <| zr <| tl_e rfl <| e_box rfl <| fun b1 => as0 rfl <| zq <| zr <| tFa rfl <| tl_y rfl (y_load (v := .int .i64 (n : Int)) rfl rfl (by rw [← ho.hn]; exact .own iI iI)) <| tFa rfl <| tl_y rfl (y_load (v := .int .i64 (p : Int)) rfl rfl (by rw [← ho.hp]; exact .own iI iI)) <| tl_y rfl (y_addI rfl rfl (by omega)) ?_
 have hmb : -9223372036854775808 ≤ (n : Int) * ((p : Int) + 1) ∧ (n : Int) * ((p : Int) + 1) ≤ 9223372036854775807 := by rw [hm]; omega
 refine tl_y rfl (y_mulI rfl rfl hmb) ?_
 rw [hm]
 refine tl_y rfl (y_addI rfl rfl (by omega)) <| asI rfl <| zq <| .s1 2 rfl <| x_ret (.dropTo L iI (ret1 rfl rfl lR ⟨rfl, rfl, by rw [h1]; congr 1⟩))
theorem oof_spec (hs : SetG M) {A : Option Addr} {m c : Nat} {bs : List UInt8} (h : Bytes M A m c bs) :
  Con Tryz.prog 220 #[.slice A m c] G M L (fun v M' L' => L = L' ∧ v = .tuple #[.agg (List.toArray (ofV bs).1.cells), .int .i64 (ofV bs).2]) noPanic := by
 have hm := h.size
 have hc := h.le
 refine zfn Tryz.func220 rfl 37 rfl <| zr <| tl_e rfl <| e_alloc <| fun b1 => as0 rfl <| zq <| zr2 <| mvS rfl <| tLen rfl <| tl_y rfl (y_lss rfl rfl) <| zq <| x_cond rfl (fun hc1 => ?_) (fun hc1 => ?_)
 ·
  refine zr <| tl_y rfl (y_build rfl) <| tl_e rfl <| e_sT rfl rfl <| as0 rfl <| zq <| .s2 2 3 rfl rfl <| x_ret (.then_ret (retRV (L' := L) (rv2 rfl (rc_cellAgg (by rfl) rfl (.own iI iI)) (rc_tmp (by rfl))) iI lR ⟨rfl, by rw [ofV, if_pos (by omega)]; rfl⟩))
 have h4 : 4 ≤ m := by omega
 refine x_skip <| .then_normal <| .s2 0 2 rfl rfl <| zr <| mvS rfl <| tl_y rfl (y_sliceH rfl rfl (by omega) (by omega)) ?_
 refine zca rfl (Get8_spec (Bytes.take h 4 h4) (by omega)) ?_
 rintro _ _ _ _ ⟨rfl, rfl, x, hx, rfl⟩
 have hgl := getB_lt (bs.take 4)
 rw [List.length_take, Nat.min_eq_left (by omega)] at hgl
 have hcv : ((sigC bs).toNat : Int) = (x.toNat : Int) := by rw [sigC, UInt32.toNat_ofNat', hx, Nat.mod_eq_of_lt (by omega)]
 refine mvU rfl <| zx rfl <| zx rfl <| asI rfl <| asB rfl <| zq <| .s3 0 2 4 rfl rfl rfl <| zr <| mvI rfl <| tl_y rfl (y_convE (b := ((sigC bs).toNat : Int)) rfl (by rw [wrapU32, hcv]; omega)) <| zca rfl (Ots_spec hs (sigC bs)) ?_
 rintro _ M1 _ hM1 ⟨rfl, rfl⟩
 refine mvU rfl <| zx rfl <| zx rfl <| tl_e rfl <| e_alloc <| fun b2 => tl_e rfl <| e_sT rfl rfl <| asI rfl <| zq <| .s4 0 2 6 7 rfl rfl rfl rfl <| x_seq <| x_block <| zr <| mvI rfl <| tl_y rfl (y_neq rfl rfl) <| asB rfl <| zq <| x_cond rfl (fun hc2 => ?_) (fun hc2 => ?_)
 ·
  refine zr <| tl_y rfl (y_build rfl) <| mvI rfl <| tl_e rfl <| e_sT rfl rfl <| asI rfl <| zq <| .s3 2 3 6 rfl rfl rfl <| x_ret (.block_ret (.then_ret (retRV (L' := L) (rv2 rfl (rc_cellAgg (by rfl) rfl (.own iI iI)) (rc_tmp (by rfl))) iI hM1 ⟨rfl, by rw [ofV, if_neg (by omega), if_pos hc2]; rfl⟩)))
 have he0 : otsE (sigC bs) = 0 := Classical.not_not.1 hc2
 obtain ⟨n, w, p, ho⟩ := okO_facts (otsV_code he0).2
 refine zr <| mvS rfl <| tLen rfl <| tLg rfl rfl <| zca rfl (oSize_spec _ ho) ?_
 rintro _ _ _ _ ⟨rfl, rfl, rfl⟩
 refine tl_y rfl (y_neq rfl rfl) <| asB rfl <| zq <| .s3 2 6 29 rfl rfl rfl <| x_cond rfl (fun hc3 => ?_) (fun hc3 => ?_)
 ·
  refine zr <| tl_y rfl (y_build rfl) <| tl_e rfl <| e_sT rfl rfl <| as0 rfl <| zq <| x_ret (.block_ret (.then_ret (retRV (L' := L) (rv2 rfl (rc_cellAgg (by rfl) rfl (.own iI iI)) (rc_tmp (by rfl))) iI hM1 ⟨rfl, by rw [ofV, if_neg (by omega), if_neg hc2, if_pos (by omega)]; rfl⟩)))
 refine x_skip <| .block_normal <| .then_normal <| zr <| tLg rfl rfl <| tl_e rfl <| e_sT rfl rfl <| as0 rfl <| zq <| x_ret (retRV (L' := L) (rv2 rfl (rc_cellAgg (by rfl) rfl (.own iI iI)) (rc_tmp (by rfl))) iI hM1 ⟨rfl, by rw [ofV, if_neg (by omega), if_neg hc2, if_neg (by omega)]⟩)
theorem oStands1_spec (hg : ChG M) (o : OtsV) {n w p : Nat} (ho : OF o n w p) (hname : Bytes M NA nl nc name) (q : UInt32) {DA : Option Addr} {dc : Nat} {d : List Nat} (hd : Row M 1 DA p dc (intsL d)) (hy : Bytes M YA yl yc y) (hyl : yl = n * p) (i : Nat) (hi : i < p) {bo bn bq bd by_ : Nat}
  [i1 : Has L bo (.cells (List.toArray o.cells) 103 (0, 0))] [i2 : Has L bn (.cells #[.slice NA nl nc] 22 (0, 0))] [i3 : Has L bq (.cells #[.int .u32 (q.toNat : Int)] 61 (0, 0))] [i4 : Has L bd (.cells #[.slice DA p dc] 68 (0, 0))] [i5 : Has L by_ (.cells #[.slice YA yl yc] 22 (0, 0))] :
  Con Tryz.prog 221 #[.int .i64 (i : Int), .pointer (some ⟨bo, 0, none⟩), .pointer (some ⟨bn, 0, none⟩), .pointer (some ⟨bq, 0, none⟩), .pointer (some ⟨bd, 0, none⟩), .pointer (some ⟨by_, 0, none⟩)] G M L (fun v M' L' => L = L' ∧ ∃ A m c, v = .slice A m c ∧ Bytes M' A m c (staR o name q.toNat d y i)) noPanic := by
 have hp2 := ho.p2
 have hn32 := ho.n32
 have hdl : d.length = p := by have := hd.len; simpa [intsL] using this
 obtain ⟨g, oo, rfl, hcell⟩ := hd.addr (by omega)
 have hyc := hy.le
 have hin : i * n + n ≤ n * p := by
  have := Nat.mul_le_mul_left n (show i + 1 ≤ p from hi)
  rw [Nat.mul_succ, Nat.mul_comm n i] at this
  omega
 have hin2 : n * p ≤ 32 * 265 := Nat.mul_le_mul hn32.2 hp2
 have hm1 : (i : Int) * (n : Int) = ((i * n : Nat) : Int) := by push_cast; rfl
 have hm2 : ((i : Int) + 1) * (n : Int) = ((i * n + n : Nat) : Int) := by rw [Int.add_mul, Int.one_mul, hm1]; push_cast; rfl
 have hsub := Bytes.sub hy (i * n) (i * n + n) (by omega) (by omega)
 rw [show i * n + n - i * n = n by omega] at hsub
 refine zfn Tryz.func221 rfl 30 rfl <| zr <| as0 rfl <| zq <| x_seq ?_
 have he : Le M M := Le.refl _
 refine x_draw 23 hmix rfl <| zy 0 rfl rfl (y_lg rfl rfl) <| pLd 1 rfl rfl rfl <| pLd 2 rfl rfl rfl <| pmI 3 rfl rfl <| pLd 4 rfl rfl rfl <| pmI 5 rfl rfl <| zp 6 rfl rfl (y_indexAddrK i rfl rfl (by omega)) <| zy 7 rfl rfl (y_load rfl rfl (.at_ (hcell _ i _ (intsL_at (by omega))) (by omega))) <| zy 8 rfl rfl (y_lg rfl rfl) ?_
 refine pLd 10 rfl rfl rfl <| pmI 11 rfl rfl <| pFa 12 rfl rfl <| zy 13 rfl rfl (y_load (v := .int .i64 (n : Int)) rfl rfl (by rw [← ho.hn]; exact .own iI iI)) <| zp 14 rfl rfl (y_mulI rfl rfl (by rw [hm1]; omega)) ?_
 rw [hm1]
 refine pmI 15 rfl rfl <| zp 16 rfl rfl (y_addI rfl rfl (by omega)) <| pFa 17 rfl rfl <| zy 18 rfl rfl (y_load (v := .int .i64 (n : Int)) rfl rfl (by rw [← ho.hn]; exact .own iI iI)) <| zp 19 rfl rfl (y_mulI rfl rfl (by rw [hm2]; omega)) ?_
 rw [hm2]
 refine zp 20 rfl rfl (y_sliceLH rfl rfl rfl (by omega) (by omega)) ?_
 rw [Int.toNat_natCast, Int.toNat_natCast, show i * n + n - i * n = n by omega]
 refine ze 9 rfl rfl <| e_call' rfl (otop_spec o ho) ?_
 rintro _ _ _ _ ⟨rfl, rfl, rfl⟩
 refine kp ?_
 refine ze 21 rfl rfl <| e_call' rfl (Up_spec' hg.sha hg.kec hg.set o hname hsub q i ((d.getD i 0 : Nat) : Int) (topN o)) ?_
 rintro _ M3 _ hM3 ⟨rfl, A3, m3, c3, rfl, hA3⟩
 replace he := he.trans hM3
 refine kp ?_
 refine paS 22 rfl rfl <| zz <| .then_normal <| .s1 7 rfl <| x_ret (ret1 rfl rfl he ⟨rfl, _, _, _, rfl, by rw [staR, ho.hn, Int.toNat_natCast]; exact hA3⟩)
def staE (nl tl : Nat) (sig : List UInt8) : Int := if nl ≠ 16 ∨ tl > 65536 then 1 else (ofV sig).2
def staV (nl tl : Nat) (name : List UInt8) (q : Nat) (text sig : List UInt8) : List UInt8 := if staE nl tl sig = 0 then staB (ofV sig).1 name q text sig else []
theorem ofV_ok {bs : List UInt8} (h : (ofV bs).2 = 0) : okO (ofV bs).1 ∧ bs.length = sizeN (ofV bs).1 ∧ otsE (sigC bs) = 0 ∧ (ofV bs).1 = otsV (sigC bs) := by
 unfold ofV at h ⊢
 split at h
 ·
  cases h
 rename_i h1
 split at h
 ·
  rename_i h2; exact absurd h h2
 rename_i h2
 split at h
 ·
  cases h
 rename_i h3
 rw [if_neg h1, if_neg h2, if_neg h3]
 exact ⟨(otsV_code (Classical.not_not.1 h2)).2, Classical.not_not.1 h3, Classical.not_not.1 h2, rfl⟩
theorem oStands_spec (hg : ChG M) (hname : Bytes M NA nl nc name) (q : UInt32) (htext : Bytes M TA tl tc text) {A : Option Addr} {m c : Nat} {sig : List UInt8} (hsig : Bytes M A m c sig) :
  Con Tryz.prog 172 #[.slice NA nl nc, .int .u32 (q.toNat : Int), .slice TA tl tc, .slice A m c] G M L (fun v M' L' => L = L' ∧ ∃ A' m' c', v = .tuple #[.slice A' m' c', .int .i64 (staE nl tl sig)] ∧ Bytes M' A' m' c' (staV nl tl name q.toNat text sig)) noPanic := by
 have hsl := hsig.size
 have hsc := hsig.le
 refine zfn Tryz.func172 rfl 60 rfl <| zr <| tl_e rfl <| e_box rfl <| fun b1 => tl_e rfl <| e_box rfl <| fun b2 => as0 rfl <| as0 rfl <| zq <| .s4 2 3 4 5 rfl rfl rfl rfl <| zr2 <| tLd rfl rfl <| tLen rfl <| tl_y rfl (y_neq rfl rfl) <| mvB rfl <| tl_cases (s := 19) rfl (fun hk1 => ?_) (fun hk1 => ?_)
 ·
  have hE1 : staE nl tl sig = 1 := by rw [staE, if_pos (.inl (by omega))]
  refine sk3 rfl rfl rfl <| tPt rfl rfl <| zq <| .s5 2 3 4 5 23 rfl rfl rfl rfl rfl <| x_true rfl rfl <| zr <| as0 rfl <| as0 rfl <| zq <| .s2 8 9 rfl rfl <| x_ret (.then_ret (.dropTo L iI (ret2 rfl rfl rfl lR ⟨rfl, none, 0, 0, by rw [hE1], by rw [staV, hE1, if_neg (by decide)]; exact Row.nil _ _⟩)))
 refine mvS rfl <| tLen rfl <| tl_y rfl (y_gtr rfl rfl) <| tPf rfl rfl <| zq <| .s5 2 3 4 5 23 rfl rfl rfl rfl rfl <| x_cond rfl (fun hc1 => ?_) (fun hc1 => ?_)
 ·
  have hE1 : staE nl tl sig = 1 := by rw [staE, if_pos (.inr (by omega))]
  refine zr <| as0 rfl <| as0 rfl <| zq <| .s2 8 9 rfl rfl <| x_ret (.then_ret (.dropTo L iI (ret2 rfl rfl rfl lR ⟨rfl, none, 0, 0, by rw [hE1], by rw [staV, hE1, if_neg (by decide)]; exact Row.nil _ _⟩)))
 have hn16 : nl = 16 := by omega
 have htl : tl ≤ 65536 := by omega
 have hE : staE nl tl sig = (ofV sig).2 := by rw [staE, if_neg (by omega)]
 refine x_skip <| .then_normal <| zr <| mvS rfl <| zca rfl (oof_spec hg.set hsig) ?_
 rintro _ M1 _ hM1 ⟨rfl, rfl⟩
 refine mvU rfl <| zx rfl <| zx rfl <| tl_e rfl <| e_alloc <| fun b3 => tl_e rfl <| e_sT rfl rfl <| asI rfl <| zq <| .s6 2 3 4 5 10 11 rfl rfl rfl rfl rfl rfl <| zr2 <| mvI rfl <| tl_y rfl (y_neq rfl rfl) <| zq <| x_cond rfl (fun hc2 => ?_) (fun hc2 => ?_)
 ·
  refine zr <| mvI rfl <| as0 rfl <| asI rfl <| zq <| .s2 8 9 rfl rfl <| x_ret (.then_ret (.dropTo L iI (ret2 rfl rfl rfl hM1 ⟨rfl, none, 0, 0, by rw [hE], by rw [staV, hE, if_neg hc2]; exact Row.nil _ _⟩)))
 have he0 : (ofV sig).2 = 0 := Classical.not_not.1 hc2
 obtain ⟨hok, hlen, _, _⟩ := ofV_ok he0
 obtain ⟨o, hoe⟩ : ∃ o, o = (ofV sig).1 := ⟨_, rfl⟩
 rw [← hoe] at hok hlen ⊢
 obtain ⟨n, w, p, ho⟩ := okO_facts hok
 obtain ⟨hz1, hz2, hz3⟩ := ho.size
 have hn32 := ho.n32
 have hp2 := ho.p2
 have hsalt := Bytes.sub hsig 4 (4 + n) (by omega) (by omega)
 rw [show 4 + n - 4 = n by omega] at hsalt
 have hyy := Bytes.sub hsig (4 + n) m (by omega) (by omega)
 rw [List.take_of_length_le (by rw [List.length_drop]; omega)] at hyy
 have hts := htext.size
 refine x_skip <| .then_normal <| x_seq <| x_draw 12 hmix rfl <| pmS 0 rfl rfl <| pFa 1 rfl rfl <| zy 2 rfl rfl (y_load (v := .int .i64 (n : Int)) rfl rfl (by rw [← ho.hn]; exact .own iI iI)) <| zp 3 rfl rfl (y_addI rfl rfl (by omega)) <| zp 4 rfl rfl (y_sliceLH rfl rfl rfl (by omega) (by omega)) ?_
 rw [show ((4 : Int) + (n : Int)).toNat = 4 + n by omega, show (4 : Int).toNat = 4 from rfl, show 4 + n - 4 = n by omega]
 refine pmS 5 rfl rfl <| pFa 6 rfl rfl <| zy 7 rfl rfl (y_load (v := .int .i64 (n : Int)) rfl rfl (by rw [← ho.hn]; exact .own iI iI)) <| zp 8 rfl rfl (y_addI rfl rfl (by omega)) <| zp 9 rfl rfl (y_sliceL rfl rfl (by omega)) ?_
 rw [show ((4 : Int) + (n : Int)).toNat = 4 + n by omega]
 refine ze 10 rfl rfl <| e_alloc <| fun b4 => kp ?_
 refine paS 11 rfl rfl <| zt 12 rfl rfl <| e_sT rfl rfl <| zz <| .then_normal <| .s6 2 4 5 10 12 13 rfl rfl rfl rfl rfl rfl <| zr <| tLg rfl rfl <| tLd rfl rfl <| tLd rfl rfl <| mvS rfl <| mvS rfl ?_
 refine zca rfl (osum_spec (hg.mono hM1) o ho (hname.mono hM1) hn16 q (hsalt.mono hM1) (htext.mono hM1) (by omega) (by omega)) ?_
 rintro _ M3 _ hM3 ⟨rfl, A3, c3, rfl, hr3⟩
 have hd := hM1.trans hM3
 obtain ⟨ds, hds⟩ : ∃ ds, ds = digO o name q.toNat ((sig.drop 4).take n) text := ⟨_, rfl⟩
 rw [← hds] at hr3
 refine tl_e rfl <| e_alloc <| fun b5 => tl_e rfl <| e_sT rfl rfl <| zq <| .s5 4 5 10 13 14 rfl rfl rfl rfl rfl <| zr <| tLg rfl rfl <| tl_y rfl (y_makeFunc rfl rfl) <| tl_e rfl (e_call' rfl (oall_spec o ho.hp (by omega) (rows := staR o name q.toNat ds (sig.drop (4 + n))) (staR_le ho name q.toNat ds (sig.drop (4 + n))) (fun i M2 X hi hM2 hX => by
  haveI i1 : Has X b3 (.cells (List.toArray o.cells) 103 (0, 0)) := ⟨hX _ (Has.mem)⟩
  haveI i2 : Has X b1 (.cells #[.slice NA nl nc] 22 (0, 0)) := ⟨hX _ (Has.mem)⟩
  haveI i3 : Has X b2 (.cells #[.int .u32 (q.toNat : Int)] 61 (0, 0)) := ⟨hX _ (Has.mem)⟩
  haveI i4 : Has X b5 (.cells #[.slice A3 p c3] 68 (0, 0)) := ⟨hX _ (Has.mem)⟩
  haveI i5 : Has X b4 (.cells #[.slice (sl A (4 + n) c 1) (m - (4 + n)) (c - (4 + n))] 22 (0, 0)) := ⟨hX _ (Has.mem)⟩
  exact oStands1_spec ((hg.mono hd).mono hM2) o ho ((hname.mono hd).mono hM2) q (hr3.mono hM2) ((hyy.mono hd).mono hM2) (by omega) i hi)) ?_)
 rintro _ M4 _ hM4 ⟨rfl, A4, m4, c4, rfl, hA4⟩
 replace hd := hd.trans hM4
 have hm4 := hA4.size
 have hle := catR_le (staR_le ho name q.toNat ds (sig.drop (4 + n))) p
 refine asS rfl <| zq <| .s4 4 5 10 15 rfl rfl rfl rfl <| zr <| tFa rfl <| tLd rfl rfl <| tFa rfl <| tLd rfl rfl <| tLd rfl rfl <| tLd rfl rfl <| mvS rfl <| tl_e rfl <| e_buildSlice rfl (by decide) <| fun b7 => .pub b7 iI <| fun M5 hM5 hb7 => ?_
 replace hd := hd.trans hM5
 refine zca rfl (Part_spec (hg.mono hd).sha (hg.mono hd).kec o.kind o.n (hname.mono hd) q 32896 (by omega) (Row.whole hb7 rfl (by omega)) (.cons (hA4.mono hM5) .nil) (by simp only [List.flatten_cons, List.flatten_nil, List.length_append, List.length_nil]; omega)) ?_
 rintro _ M6 _ hM6 ⟨rfl, A6, m6, c6, rfl, hA6⟩
 rw [show [catR (staR o name q.toNat ds (sig.drop (4 + n))) p].flatten = catR (staR o name q.toNat ds (sig.drop (4 + n))) p by simp] at hA6
 refine asS rfl <| as0 rfl <| zq <| .s2 8 9 rfl rfl <| x_ret (.dropTo L iI (ret2 rfl rfl rfl (hd.trans hM6) ⟨rfl, _, _, _, by rw [hE, he0], by
  rw [staV, hE, if_pos he0, ← hoe, staB, show o.n.toNat = n by rw [ho.hn]; rfl, show o.p.toNat = p by rw [ho.hp]; rfl, ← hds]
  exact hA6⟩))
end
theorem upC_add10 (o : OtsV) (name : List UInt8) (q i f : Nat) (x : List UInt8) (a b : Nat) : upC o name q i f x (a + b) = upC o name q i (f + a) (upC o name q i f x a) b := by
 induction b with
 | zero => rfl
 | succ b ih => rw [← Nat.add_assoc, upC, upC, ih, Nat.add_assoc]
theorem okR_of {o : OtsV} {n w p : Nat} (ho : OF o n w p) {nl i xl : Nat} (hn : nl = 16) (hi : i < p) (hx : xl = n) : okR o nl (i : Int) xl := by
 refine ⟨ho.ok.1, ho.ok.2, hn, by omega, ?_, ?_⟩
 ·
  rw [ho.hp]; omega
 rw [ho.hn, hx]
theorem cUp_of {o : OtsV} {n w p : Nat} (ho : OF o n w p) {name : List UInt8} (hn : name.length = 16) (q : Nat) {i f t : Nat} (hi : i < p) (hft : f ≤ t) (ht : t < pw2 w) {x : List UInt8} (hx : x.length = n) :
  cUp o name q (i : Int) (f : Int) (t : Int) x = upC o name q i f x (t - f) ∧ (upC o name q i f x (t - f)).length = n := by
 refine ⟨?_, ?_⟩
 ·
  rw [cUp, if_pos ⟨okR_of ho hn hi hx, by omega, by omega, by rw [ho.hw, Int.toNat_natCast]; omega⟩]
  rw [Int.toNat_natCast, Int.toNat_natCast, show ((t : Int) - (f : Int)).toNat = t - f by omega]
 have := upC_length ho.c sha_length name q i f (x := x) (by rw [hx, ho.hn]) (t - f)
 rw [ho.hn] at this
 omega
theorem topN_of {o : OtsV} {n w p : Nat} (ho : OF o n w p) : topN o = ((pw2 w - 1 : Nat) : Int) := by
 have := ho.w2
 rw [topN, ho.hw, Int.toNat_natCast]; omega
theorem chain_two {o : OtsV} {n w p : Nat} (ho : OF o n w p) {name : List UInt8} (hn : name.length = 16) (q : Nat) {i d : Nat} (hi : i < p) (hd : d < pw2 w) {x : List UInt8} (hx : x.length = n) :
  cUp o name q (i : Int) (d : Int) (topN o) (cUp o name q (i : Int) 0 (d : Int) x) = cUp o name q (i : Int) 0 (topN o) x := by
 have hw := ho.w2
 obtain ⟨h1, h2⟩ := cUp_of ho hn q (f := 0) (t := d) hi (by omega) hd hx
 obtain ⟨h3, _⟩ := cUp_of ho hn q (f := 0) (t := pw2 w - 1) hi (by omega) (by omega) hx
 rw [topN_of ho]
 have e0 : ((0 : Nat) : Int) = 0 := rfl
 rw [e0] at h1 h3
 rw [h1, h3, Nat.sub_zero, Nat.sub_zero] at *
 obtain ⟨h5, _⟩ := cUp_of ho hn q (f := d) (t := pw2 w - 1) hi (by omega) (by omega) h2
 rw [h5, ← Nat.zero_add d, Nat.zero_add d]
 have := upC_add10 o name q i 0 x d (pw2 w - 1 - d)
 rw [Nat.zero_add, show d + (pw2 w - 1 - d) = pw2 w - 1 by omega] at this
 exact this.symm
theorem sigR_len {o : OtsV} {n w p : Nat} (ho : OF o n w p) {name : List UInt8} (hn : name.length = 16) (sec : List UInt8) (q : Nat) {ds : List Nat} (hd : ∀ d ∈ ds, d < pw2 w) (hdl : ds.length = p) {i : Nat} (hi : i < p) : (sigR o name sec q ds i).length = n := by
 have hdi : ds.getD i 0 < pw2 w := hd _ (by rw [List.getD_eq_getElem?_getD, List.getElem?_eq_getElem (by omega)]; exact List.getElem_mem _)
 obtain ⟨h1, h2⟩ := cUp_of ho hn q (f := 0) (t := ds.getD i 0) hi (by omega) hdi (hidB_len ho name sec q i)
 rw [sigR]
 have e0 : ((0 : Nat) : Int) = 0 := rfl
 rw [e0] at h1
 rw [h1]; exact h2
theorem drop_at {a b : List UInt8} {k : Nat} (h : a.length = k) : (a ++ b).drop k = b := by subst h; exact List.drop_left
theorem take_at {a b : List UInt8} {k : Nat} (h : a.length = k) : (a ++ b).take k = a := by subst h; exact List.take_left
theorem sig_parts {o : OtsV} {n w p : Nat} (ho : OF o n w p) {name : List UInt8} (hn : name.length = 16) (sec : List UInt8) (q : Nat) (text : List UInt8) :
  (sigB o name sec q text).length = sizeN o ∧ ofV (sigB o name sec q text) = (o, 0) ∧ ((sigB o name sec q text).drop 4).take n = saltB o name sec q ∧
   (sigB o name sec q text).drop (4 + n) = catR (sigR o name sec q (digO o name q (saltB o name sec q) text)) p := by
 obtain ⟨hdl, hdd⟩ := digO_get ho name q (saltB o name sec q) text
 have hsl : (saltB o name sec q).length = n := hidB_len ho name sec q 65533
 have hcl := o.code.toNat_lt
 have hp4 : (putB o.code.toNat 4).length = 4 := putB_length 4 _
 have hrl := catR_len (rows := sigR o name sec q (digO o name q (saltB o name sec q) text)) (n := n) p (fun i hi => sigR_len ho hn sec q hdd hdl hi)
 obtain ⟨hz1, hz2, hz3⟩ := ho.size
 have hl : (sigB o name sec q text).length = sizeN o := by
  rw [sigB, List.length_append, List.length_append, hp4, hsl, ho.hp, Int.toNat_natCast, hrl, hz1, hz2, Nat.mul_comm p n]; omega
 have hc : sigC (sigB o name sec q text) = o.code := by
  rw [sigC, sigB, List.take_append_of_le_length (by omega), List.take_of_length_le (by omega), getB_put]
  apply UInt32.toNat_inj.1
  rw [UInt32.toNat_ofNat', Nat.mod_eq_of_lt, Nat.mod_eq_of_lt]
  ·
   omega
  exact Nat.lt_of_le_of_lt (Nat.mod_le _ _) hcl
 refine ⟨hl, ?_, ?_, ?_⟩
 ·
  rw [ofV, hc, if_neg (by rw [hl, hz1]; omega), if_neg (fun h => h ho.ok.1), ho.ok.2, if_neg (by rw [hl]; simp)]
 ·
  rw [sigB, drop_at hp4, take_at hsl]
 rw [sigB, ← List.append_assoc, ho.hp, Int.toNat_natCast]
 exact drop_at (by rw [List.length_append, hp4, hsl])
theorem sig_stands {o : OtsV} {n w p : Nat} (ho : OF o n w p) {name : List UInt8} (hn : name.length = 16) (sec : List UInt8) (q : Nat) (text : List UInt8) : staB o name q text (sigB o name sec q text) = keyB o name sec q := by
 obtain ⟨h1, h2, h3, h4⟩ := sig_parts ho hn sec q text
 obtain ⟨hdl, hdd⟩ := digO_get ho name q (saltB o name sec q) text
 rw [staB, keyB, ho.hp, Int.toNat_natCast, show o.n.toNat = n by rw [ho.hn]; rfl, h3, h4]
 congr 1
 refine catR_congr p <| fun i hi => ?_
 have hdi : (digO o name q (saltB o name sec q) text).getD i 0 < pw2 w := hdd _ (by rw [List.getD_eq_getElem?_getD, List.getElem?_eq_getElem (by omega)]; exact List.getElem_mem _)
 rw [staR, show o.n.toNat = n by rw [ho.hn]; rfl, catR_row (fun j hj => sigR_len ho hn sec q hdd hdl hj) hi, sigR, keyR]
 exact chain_two ho hn q hi hdi (hidB_len ho name sec q i)
theorem sta_sig {o : OtsV} {n w p : Nat} (ho : OF o n w p) {name : List UInt8} (hn : name.length = 16) (sec : List UInt8) (q : Nat) (text : List UInt8) {nl tl : Nat} (h16 : nl = 16) (htl : tl ≤ 65536) :
  staE nl tl (sigB o name sec q text) = 0 ∧ staV nl tl name q text (sigB o name sec q text) = keyB o name sec q := by
 obtain ⟨_, h2, _, _⟩ := sig_parts ho hn sec q text
 have hE : staE nl tl (sigB o name sec q text) = 0 := by rw [staE, if_neg (by omega), h2]
 exact ⟨hE, by rw [staV, if_pos hE, h2]; exact sig_stands ho hn sec q text⟩
def leavesN (h : Int) : Nat := if h < 1 ∨ 25 < h then 0 else pw2 h.toNat
theorem pw2_25 {h : Nat} (hh : h ≤ 25) : pw2 h ≤ 33554432 := pw2_le (k := 25) hh
theorem pw2_pos (h : Nat) : 1 ≤ pw2 h := Nat.one_le_two_pow
theorem shl64_one {h : Nat} (hh : h ≤ 25) : (shl64 1 h).toNat = pw2 h := by
 have h1 := pw2_25 hh
 have h2 : pw2 h = 2 ^ h := rfl
 rw [shl64, UInt64.toNat_ofNat', show (1 : UInt64).toNat = 1 from rfl, Nat.one_mul, ← h2, Nat.mod_eq_of_lt (by omega)]
theorem treeOf_own {c : UInt32} (h : ¬ (c.toNat < 4026531841)) : treeOf c = if c.toNat - 4026531841 < 16 then some (treeT c (c.toNat - 4026531841) 4) else none := by
 rw [treeOf, if_neg (by omega)]
 by_cases h2 : c.toNat - 4026531841 < 16
 ·
  rw [if_pos (by omega), if_pos h2]
 rw [if_neg (by omega), if_neg h2]
theorem treeOf_std {c : UInt32} (h : c.toNat < 4026531841) : treeOf c = if 5 ≤ c.toNat ∧ c.toNat - 5 < 20 then some (treeT c (c.toNat - 5) 5) else none := by
 rw [treeOf]
 by_cases h2 : 5 ≤ c.toNat ∧ c.toNat - 5 < 20
 ·
  rw [if_pos (by omega), if_pos h2]
 rw [if_neg (by omega), if_neg (by omega), if_neg h2]
section
variable {G : World} {M : Mem} {L : Own}
theorem Tree1_spec (hg : SetT M) (code : UInt32) {b : Nat} [hb : Has L b (.cells #[.int .u32 (code.toNat : Int)] 61 (0, 0))] :
  Con Tryz.prog 188 #[.pointer (some ⟨b, 0, none⟩)] G M L (fun v M' L' => L' = L ∧ ∃ o, treeOf code = some o ∧ v = .agg (List.toArray o.cells)) (fun ch M' L' => L' = L ∧ treeOf code = none ∧ ch = unks) := by
 have hc := code.toNat_lt
 have h1 : (5 : UInt32).toNat = 5 := rfl
 have h2 : (4026531841 : UInt32).toNat = 4026531841 := rfl
 obtain ⟨ht, hf, hh⟩ := hg.heights
 obtain ⟨ot, of_, ho⟩ := hg.own
 refine zfn Tryz.func188 rfl 36 rfl <| zr <| tl_e rfl <| e_alloc <| fun b1 => zq <| zr2 <| tLd rfl rfl <| tl_y rfl (y_geq rfl rfl) <| zq <| x_cond rfl (fun hc1 => ?_) (fun hc1 => ?_)
 ·
  refine zr <| tLd rfl rfl <| tl_e rfl (e_call rfl (setsAt_spec hg.sums code 4026531841 4 (by omega)) (by
   rintro _ _ _ _ ⟨rfl, rfl, hne, rfl⟩
   exact TP.dropTo L iI (.retA rfl lR ⟨rfl, by rw [treeOf_own (by omega), if_neg (by omega)], rfl⟩)) ?_)
  rintro _ _ _ _ ⟨rfl, rfl, hle, hlt, rfl⟩
  rw [h2] at hle hlt ⊢
  have hto : treeOf code = some (treeT code (code.toNat - 4026531841) 4) := by rw [treeOf_own (by omega), if_pos (by omega)]
  obtain ⟨i, hi⟩ : ∃ i, i = code.toNat - 4026531841 := ⟨_, rfl⟩
  rw [← hi] at hlt hto ⊢
  have hi4 : i % 4 < 4 := Nat.mod_lt _ (by omega)
  refine mvU rfl <| zx rfl <| zx rfl <| tl_e rfl <| e_alloc <| fun b2 => tl_e rfl <| e_sT rfl rfl <| asI rfl <| zq <| .s4 0 1 2 3 rfl rfl rfl rfl <| x_seq <| x_draw 9 hmix rfl ?_
  refine pLd 0 rfl rfl rfl <| pFa 1 rfl rfl <| pLd 2 rfl rfl rfl <| pFa 3 rfl rfl <| pLd 4 rfl rfl rfl <| pmI 5 rfl rfl <| zp 6 rfl rfl (y_indexArr rfl rfl (by omega)) <| zy 7 rfl rfl (y_load rfl rfl (.at_ (.ro (i := i % 4) ho (by rw [List.getElem?_toArray]; exact own_get _ hi4)) (by omega))) ?_
  refine zp 8 rfl rfl (y_build rfl) <| zt 9 rfl rfl <| e_sT rfl rfl <| zz <| .then_normal <| .s1 1 rfl <| x_ret (.then_ret (retRV (L' := L) (rv1 rfl (rc_cellAgg (by rfl) rfl (.own iI iI))) iI lR ⟨rfl, _, hto, rfl⟩))
 refine x_skip <| .then_normal <| zr <| tLd rfl rfl <| tl_e rfl (e_call rfl (setsAt_spec hg.sums code 5 5 (by omega)) (by
  rintro _ _ _ _ ⟨rfl, rfl, hne, rfl⟩
  exact TP.dropTo L iI (.retA rfl lR ⟨rfl, by rw [treeOf_std (by omega), if_neg (by omega)], rfl⟩)) ?_)
 rintro _ _ _ _ ⟨rfl, rfl, hle, hlt, rfl⟩
 rw [h1] at hle hlt ⊢
 have hto : treeOf code = some (treeT code (code.toNat - 5) 5) := by rw [treeOf_std (by omega), if_pos (by omega)]
 obtain ⟨i, hi⟩ : ∃ i, i = code.toNat - 5 := ⟨_, rfl⟩
 rw [← hi] at hlt hto ⊢
 have hi5 : i % 5 < 5 := Nat.mod_lt _ (by omega)
 refine mvU rfl <| zx rfl <| zx rfl <| tl_e rfl <| e_alloc <| fun b3 => tl_e rfl <| e_sT rfl rfl <| asI rfl <| zq <| .s4 0 1 4 5 rfl rfl rfl rfl <| x_seq <| x_draw 9 hmix rfl ?_
 refine pLd 0 rfl rfl rfl <| pFa 1 rfl rfl <| pLd 2 rfl rfl rfl <| pFa 3 rfl rfl <| pLd 4 rfl rfl rfl <| pmI 5 rfl rfl <| zp 6 rfl rfl (y_indexArr rfl rfl (by omega)) <| zy 7 rfl rfl (y_load rfl rfl (.at_ (.ro (i := i % 5) hh (by rw [List.getElem?_toArray]; exact heights_get _ hi5)) (by omega))) ?_
 refine zp 8 rfl rfl (y_build rfl) <| zt 9 rfl rfl <| e_sT rfl rfl <| zz <| .then_normal <| .s1 1 rfl <| x_ret (retRV (L' := L) (rv1 rfl (rc_cellAgg (by rfl) rfl (.own iI iI))) iI lR ⟨rfl, _, hto, rfl⟩)
theorem Tree_spec (hg : SetT M) (code : UInt32) :
  Con Tryz.prog 138 #[.int .u32 (code.toNat : Int)] G M L (fun v M' L' => L = L' ∧ v = .tuple #[.agg (List.toArray (treeV code).cells), .int .i64 (treeE code)]) noPanic := by
 refine zfn Tryz.func138 rfl 8 rfl <| zr <| tl_e rfl <| e_box rfl <| fun b1 => tl_e rfl <| e_alloc <| fun b2 => as0 rfl <| zq <| zr <| tl_y rfl (y_makeFunc rfl rfl) <| zca rfl (caughtT_spec (r := treeOf code) (first := []) (cap := [.pointer (some ⟨b1, 0, none⟩)]) (fun p q => Tree1_spec hg code)) ?_
 rintro _ M1 _ hM1 ⟨rfl, rfl⟩
 refine zx rfl <| zx rfl <| tl_e rfl <| e_sT rfl rfl <| asI rfl <| zq <| .s2 2 3 rfl rfl <| x_ret (retRV (L' := L) (rv2 rfl (rc_cellAgg (by rfl) rfl (.own iI iI)) (rc_tmp (by rfl))) iI hM1 ⟨rfl, rfl⟩)
theorem Leaves_spec (t : TreeV) :
  Con Tryz.prog 155 #[.agg (List.toArray t.cells)] G M L (fun v M' L' => M = M' ∧ L = L' ∧ v = .int .u64 (leavesN t.h : Nat)) noPanic := by
 refine zfn Tryz.func155 rfl 14 rfl <| zr <| tl_e rfl <| e_box rfl <| fun b1 => as0 rfl <| zq <| zr2 <| tFa rfl <| tLd rfl rfl <| tl_y rfl (y_lss rfl rfl) <| mvB rfl <| tl_cases (s := 6) rfl (fun hk1 => ?_) (fun hk1 => ?_)
 ·
  refine sk3 rfl rfl rfl <| tPt rfl rfl <| zq <| .s2 1 10 rfl rfl <| x_true rfl rfl <| zr <| as0 rfl <| zq <| x_ret (.then_ret (.dropTo L iI (ret1 rfl rfl lR ⟨rfl, rfl, by rw [leavesN, if_pos (by omega)]; rfl⟩)))
 refine tFa rfl <| tLd rfl rfl <| tl_y rfl (y_gtr rfl rfl) <| tPf rfl rfl <| zq <| .s2 1 10 rfl rfl <| x_cond rfl (fun hc1 => ?_) (fun hc1 => ?_)
 ·
  refine zr <| as0 rfl <| zq <| x_ret (.then_ret (.dropTo L iI (ret1 rfl rfl lR ⟨rfl, rfl, by rw [leavesN, if_pos (by omega)]; rfl⟩)))
 obtain ⟨h', hh⟩ : ∃ h' : Nat, t.h = (h' : Int) := ⟨t.h.toNat, by omega⟩
 have hlv : leavesN t.h = pw2 h' := by rw [leavesN, if_neg (by omega), hh, Int.toNat_natCast]
 rw [hlv]
 refine x_skip <| .then_normal <| zr <| tFa rfl <| tLd rfl rfl ?_
 rw [hh]
 refine tl_y rfl (y_shl64 (a := 1) rfl rfl) ?_
 rw [show u64v (shl64 1 h') = .int .u64 ((pw2 h' : Nat) : Int) from congrArg (fun (x : Nat) => Value.int .u64 (x : Int)) (shl64_one (by omega))]
 refine asI rfl <| zq <| .s1 2 rfl <| x_ret (.dropTo L iI (ret1 rfl rfl lR ⟨rfl, rfl, rfl⟩))
end
theorem treeE_some {c : UInt32} (h : treeE c = 0) : ∃ x, treeOf c = some x ∧ treeV c = x := by
 unfold treeE at h
 unfold treeV
 cases e : treeOf c with
 | none => rw [e] at h; exact absurd h (by decide)
 | some x => exact ⟨x, rfl, rfl⟩
theorem treeT_facts (c : UInt32) : (∀ i, i < 20 → okC (treeT c i 5).kind (treeT c i 5).n ∧ 1 ≤ (treeT c i 5).h ∧ (treeT c i 5).h ≤ 25) ∧ (∀ i, i < 16 → okC (treeT c i 4).kind (treeT c i 4).n ∧ 1 ≤ (treeT c i 4).h ∧ (treeT c i 4).h ≤ 25) := by
 have h1 : ∀ i : Fin 20, okC (treeT 0 i.val 5).kind (treeT 0 i.val 5).n ∧ 1 ≤ (treeT 0 i.val 5).h ∧ (treeT 0 i.val 5).h ≤ 25 := by decide +kernel
 have h2 : ∀ i : Fin 16, okC (treeT 0 i.val 4).kind (treeT 0 i.val 4).n ∧ 1 ≤ (treeT 0 i.val 4).h ∧ (treeT 0 i.val 4).h ≤ 25 := by decide +kernel
 exact ⟨fun i hi => h1 ⟨i, hi⟩, fun i hi => h2 ⟨i, hi⟩⟩
theorem treeV_facts {c : UInt32} (h : treeE c = 0) : okC (treeV c).kind (treeV c).n ∧ 1 ≤ (treeV c).h ∧ (treeV c).h ≤ 25 := by
 obtain ⟨x, h1, h2⟩ := treeE_some h
 rw [h2]
 unfold treeOf at h1
 split at h1
 ·
  obtain rfl := Option.some.inj h1; exact (treeT_facts c).1 _ (by omega)
 split at h1
 ·
  obtain rfl := Option.some.inj h1; exact (treeT_facts c).2 _ (by omega)
 cases h1
theorem tree_eq {a b : TreeV} (h : (a.code.toNat : Int) = b.code.toNat ∧ a.kind = b.kind ∧ a.n = b.n ∧ a.h = b.h ∧ True) : a = b := by
 obtain ⟨h1, h2, h3, h4, _⟩ := h
 cases a; cases b
 simp only [TreeV.mk.injEq]
 exact ⟨UInt32.toNat_inj.1 (Int.ofNat_inj.1 h1), h2, h3, h4⟩
theorem eq_tree {a b : TreeV} (h : a = b) : (a.code.toNat : Int) = b.code.toNat ∧ a.kind = b.kind ∧ a.n = b.n ∧ a.h = b.h ∧ True := by
 subst h; exact ⟨rfl, rfl, rfl, rfl, trivial⟩
theorem pw2_half {a b : Nat} (h : b < a) : pw2 (a - b) / 2 = pw2 (a - (b + 1)) ∧ pw2 (a - b) = 2 * pw2 (a - (b + 1)) := by
 have : a - b = (a - (b + 1)) + 1 := by omega
 rw [this, pw2, pw2, Nat.pow_succ]
 omega
def okS (t : TreeV) (nl : Nat) : Prop := treeE t.code = 0 ∧ treeV t.code = t ∧ nl = 16
instance {t : TreeV} {nl : Nat} : Decidable (okS t nl) := inferInstanceAs (Decidable (_ ∧ _))
def okM (t : TreeV) (nl kl : Nat) : Prop := okS t nl ∧ t.h ≤ 10 ∧ kl = leavesN t.h
instance {t : TreeV} {nl kl : Nat} : Decidable (okM t nl kl) := inferInstanceAs (Decidable (_ ∧ _))
theorem okS_facts {t : TreeV} {nl : Nat} (h : okS t nl) : okC t.kind t.n ∧ ∃ H : Nat, t.h = (H : Int) ∧ 1 ≤ H ∧ H ≤ 25 ∧ leavesN t.h = pw2 H := by
 have hf := treeV_facts h.1
 rw [h.2.1] at hf
 refine ⟨hf.1, t.h.toNat, by omega, by omega, by omega, by rw [leavesN, if_neg (by omega)]⟩
def leafB (t : TreeV) (name : List UInt8) (q : Nat) (key : List UInt8) : List UInt8 := cPart t.kind t.n name (pw2 t.h.toNat + q) 33410 key
def innB (t : TreeV) (name : List UInt8) (place : Nat) (text : List UInt8) : List UInt8 := cPart t.kind t.n name place 33667 text
def leavesB (t : TreeV) (name : List UInt8) (keys : List (List UInt8)) (k : Nat) : List (List UInt8) := (List.range k).map fun q => leafB t name q (keys.getD q [])
def nextB (t : TreeV) (name : List UInt8) (row : List (List UInt8)) (k : Nat) : List (List UInt8) := (List.range k).map fun i => innB t name (row.length / 2 + i) (row.getD (2 * i) [] ++ row.getD (2 * i + 1) [])
def lvl (t : TreeV) (name : List UInt8) (keys : List (List UInt8)) : Nat → List (List UInt8)
 | 0 => leavesB t name keys keys.length
 | h + 1 => nextB t name (lvl t name keys h) ((lvl t name keys h).length / 2)
theorem leavesB_len (t : TreeV) (name : List UInt8) (keys : List (List UInt8)) (k : Nat) : (leavesB t name keys k).length = k := by simp [leavesB]
theorem nextB_len (t : TreeV) (name : List UInt8) (row : List (List UInt8)) (k : Nat) : (nextB t name row k).length = k := by simp [nextB]
theorem leavesB_succ (t : TreeV) (name : List UInt8) (keys : List (List UInt8)) (k : Nat) : leavesB t name keys (k + 1) = leavesB t name keys k ++ [leafB t name k (keys.getD k [])] := by
 rw [leavesB, List.range_succ, List.map_append]; rfl
theorem nextB_succ (t : TreeV) (name : List UInt8) (row : List (List UInt8)) (k : Nat) : nextB t name row (k + 1) = nextB t name row k ++ [innB t name (row.length / 2 + k) (row.getD (2 * k) [] ++ row.getD (2 * k + 1) [])] := by
 rw [nextB, List.range_succ, List.map_append]; rfl
theorem lvl_len (t : TreeV) (name : List UInt8) (keys : List (List UInt8)) {H : Nat} (hk : keys.length = pw2 H) : ∀ h, h ≤ H → (lvl t name keys h).length = pw2 (H - h)
 | 0, _ => by rw [lvl, leavesB_len, hk, Nat.sub_zero]
 | h + 1, hh => by rw [lvl, nextB_len, lvl_len t name keys hk h (by omega), (pw2_half (by omega)).1]
theorem leavesB_get (t : TreeV) (name : List UInt8) (keys : List (List UInt8)) {k i : Nat} (h : i < k) : (leavesB t name keys k).getD i [] = leafB t name i (keys.getD i []) := by
 rw [List.getD_eq_getElem?_getD, leavesB, List.getElem?_map, List.getElem?_range h]; rfl
theorem nextB_get (t : TreeV) (name : List UInt8) (row : List (List UInt8)) {k i : Nat} (h : i < k) : (nextB t name row k).getD i [] = innB t name (row.length / 2 + i) (row.getD (2 * i) [] ++ row.getD (2 * i + 1) []) := by
 rw [List.getD_eq_getElem?_getD, nextB, List.getElem?_map, List.getElem?_range h]; rfl
theorem cSum_le (kind n : Int) (text : List UInt8) : (cSum kind n text).length ≤ 32 := by
 unfold cSum
 split
 ·
  rename_i h
  rw [csum_length h _ (sha_length _)]
  rcases h.2 with h | h <;> subst h <;> decide
 simp
theorem cPart_le (kind n : Int) (name : List UInt8) (q d : Nat) (text : List UInt8) : (cPart kind n name q d text).length ≤ 32 := by
 unfold cPart
 split
 ·
  exact cSum_le _ _ _
 simp
theorem innB_le (t : TreeV) (name : List UInt8) (q : Nat) (text : List UInt8) : (innB t name q text).length ≤ 32 := cPart_le _ _ _ _ _ _
theorem leafB_le (t : TreeV) (name : List UInt8) (q : Nat) (text : List UInt8) : (leafB t name q text).length ≤ 32 := cPart_le _ _ _ _ _ _
def short32 (row : List (List UInt8)) : Prop := ∀ b ∈ row, b.length ≤ 32
theorem short32.get {row : List (List UInt8)} (h : short32 row) (i : Nat) : (row.getD i []).length ≤ 32 := by
 by_cases hi : i < row.length
 ·
  exact h _ (getD_mem _ _ _ hi)
 rw [List.getD_eq_getElem?_getD, List.getElem?_eq_none (by omega)]; simp
theorem leavesB_short (t : TreeV) (name : List UInt8) (keys : List (List UInt8)) (k : Nat) : short32 (leavesB t name keys k) := by
 intro b hb
 rw [leavesB, List.mem_map] at hb
 obtain ⟨q, _, rfl⟩ := hb
 exact leafB_le _ _ _ _
theorem nextB_short (t : TreeV) (name : List UInt8) (row : List (List UInt8)) (k : Nat) : short32 (nextB t name row k) := by
 intro b hb
 rw [nextB, List.mem_map] at hb
 obtain ⟨q, _, rfl⟩ := hb
 exact innB_le _ _ _ _
theorem lvl_short (t : TreeV) (name : List UInt8) (keys : List (List UInt8)) : ∀ h, short32 (lvl t name keys h)
 | 0 => leavesB_short _ _ _ _
 | h + 1 => nextB_short _ _ _ _
structure MrG (M : Mem) : Prop where
 sha : ShaG M
 kec : KecG M
 set : SetT M
theorem MrG.mono {M M' : Mem} (h : MrG M) (hle : Le M M') : MrG M' := ⟨h.sha.mono hle, h.kec.mono hle, h.set.mono hle⟩
theorem shl32_h {H : Nat} (h : H ≤ 25) : (shl32 1 H).toNat = pw2 H := by
 have h1 := pw2_25 h
 have h2 : pw2 H = 2 ^ H := rfl
 rw [shl32, UInt32.toNat_ofNat', show (1 : UInt32).toNat = 1 from rfl, Nat.one_mul, ← h2, Nat.mod_eq_of_lt (by omega)]
section
variable {G : World} {M : Mem} {L : Own}
theorem mright_spec (hg : MrG M) (t : TreeV) {NA : Option Addr} {nl nc : Nat} :
  Con Tryz.prog 226 #[.agg (List.toArray t.cells), .slice NA nl nc] G M L (fun v M' L' => L = L' ∧ v = .bool (decide (okS t nl))) noPanic := by
 refine zfn Tryz.func226 rfl 25 rfl <| zr <| tl_e rfl <| e_box rfl <| fun b1 => as0 rfl <| zq <| zr <| tFa rfl <| tLd rfl rfl <| zca rfl (Tree_spec hg.set t.code) ?_
 rintro _ M1 _ hM1 ⟨rfl, rfl⟩
 refine mvU rfl <| zx rfl <| zx rfl <| tl_e rfl <| e_alloc <| fun b2 => tl_e rfl <| e_sT rfl rfl <| asI rfl <| zq <| .s4 1 2 5 6 rfl rfl rfl rfl <| x_join (I := fun F D M2 L2 => ∃ b : Bool, (b = true ↔ okS t nl) ∧ D = [] ∧ M1 = M2 ∧ DropTo L2 L ∧ F = [(4, .bool b)]) ?_ (fun Jq2 => ?_)
 ·
  rintro _ _ _ L2 ⟨b, hb, rfl, rfl, hdr, rfl⟩
  refine x_ret (.dropTo L hdr (ret1 rfl rfl hM1 ⟨rfl, by rw [bool_iff hb]⟩))
 refine x_region <| mvI rfl <| tl_y rfl (y_eql rfl rfl) <| mvB rfl <| tl_cases (s := 15) rfl (fun hk1 => ?_) (fun hk1 => ?_)
 ·
  refine tLg rfl rfl <| tLg rfl rfl <| tl_y rfl (y_eqlS rfl rfl eqs105) <| tPt rfl rfl <| mvB rfl <| tl_cases (s := 20) rfl (fun hk2 => ?_) (fun hk2 => ?_)
  ·
   refine mvS rfl <| tLen rfl <| tl_y rfl (y_eql rfl rfl) <| tPt rfl rfl <| asB rfl <| zq <| .sub (F' := [(4, _)]) (.cons rfl .nil) <| Jq2 _ _ _ _ ?_
   exact ⟨_, by
    constructor
    ·
     intro ht
     first | (cases ht; done) | (simp at ht; exact ⟨hk1, tree_eq hk2, by omega⟩)
    rintro ⟨a1, a2, a3⟩
    first | exact absurd a1 hk1 | exact absurd (eq_tree a2) hk2 | (simp; omega) | omega, rfl, rfl, iI, rfl⟩
  refine sk3 rfl rfl rfl <| tPf rfl rfl <| asB rfl <| zq <| .sub (F' := [(4, _)]) (.cons rfl .nil) <| Jq2 _ _ _ _ ?_
  exact ⟨_, by
   constructor
   ·
    intro ht
    first | (cases ht; done) | (simp at ht; exact ⟨hk1, tree_eq hk2, by omega⟩)
   rintro ⟨a1, a2, a3⟩
   first | exact absurd a1 hk1 | exact absurd (eq_tree a2) hk2 | (simp; omega) | omega, rfl, rfl, iI, rfl⟩
 refine sk3 rfl rfl rfl <| tPf rfl rfl <| mvB rfl <| sk3 rfl rfl rfl <| tPf rfl rfl <| asB rfl <| zq <| .sub (F' := [(4, _)]) (.cons rfl .nil) <| Jq2 _ _ _ _ ?_
 exact ⟨_, by
  constructor
  ·
   intro ht
   first | (cases ht; done) | (simp at ht; exact ⟨hk1, tree_eq hk2, by omega⟩)
  rintro ⟨a1, a2, a3⟩
  first | exact absurd a1 hk1 | exact absurd (eq_tree a2) hk2 | (simp; omega) | omega, rfl, rfl, iI, rfl⟩
theorem May_spec (hg : MrG M) (t : TreeV) {NA KA : Option Addr} {nl nc kl kc : Nat} (hk : kl ≤ 9223372036854775807) :
  Con Tryz.prog 193 #[.agg (List.toArray t.cells), .slice NA nl nc, .slice KA kl kc] G M L (fun v M' L' => L = L' ∧ v = .bool (decide (okM t nl kl))) noPanic := by
 refine zfn Tryz.func193 rfl 23 rfl <| zr <| tl_e rfl <| e_box rfl <| fun b1 => as0 rfl <| zq <| x_join (I := fun F D M2 L2 => ∃ b : Bool, (b = true ↔ okM t nl kl) ∧ D = [] ∧ Le M M2 ∧ DropTo L2 L ∧ F = [(6, .bool b)]) ?_ (fun Jq1 => ?_)
 ·
  rintro _ _ _ L2 ⟨b, hb, rfl, hm, hdr, rfl⟩
  refine x_ret (.dropTo L hdr (ret1 rfl rfl hm ⟨rfl, by rw [bool_iff hb]⟩))
 refine x_region <| tLg rfl rfl <| mvS rfl <| zca rfl (mright_spec hg t) ?_
 rintro _ M1 _ hM1 ⟨rfl, rfl⟩
 refine mvB rfl <| tl_casesb (s := 10) rfl (fun hk1 => ?_) (fun hk1 => ?_)
 ·
  refine tFa rfl <| tLd rfl rfl <| tl_y rfl (y_leq rfl rfl) <| tPt rfl rfl <| mvB rfl <| tl_cases (s := 15) rfl (fun hk2 => ?_) (fun hk2 => ?_)
  ·
   refine mvS rfl <| tLen rfl <| tl_y rfl (y_convN64 rfl (by omega)) <| tLg rfl rfl ?_
   refine zca rfl (Leaves_spec t) ?_
   rintro _ _ _ _ ⟨rfl, rfl, rfl⟩
   refine tl_y rfl (y_eql rfl rfl) <| tPt rfl rfl <| asB rfl <| zq <| .sub (F' := [(6, _)]) (.cons rfl .nil) <| Jq1 _ _ _ _ ?_
   exact ⟨_, by
    constructor
    ·
     intro ht
     first | (cases ht; done) | (simp at ht; exact ⟨by simpa using hk1, by omega, by omega⟩)
    rintro ⟨a1, a2, a3⟩
    first | exact absurd (by simpa using a1) hk1 | exact absurd (decide_eq_true a1) hk1 | (simp [a1] at hk1; done) | (simp; omega) | omega, rfl, hM1, iI, rfl⟩
  refine sk6 rfl rfl rfl rfl rfl rfl <| tPf rfl rfl <| asB rfl <| zq <| .sub (F' := [(6, _)]) (.cons rfl .nil) <| Jq1 _ _ _ _ ?_
  exact ⟨_, by
   constructor
   ·
    intro ht
    first | (cases ht; done) | (simp at ht; exact ⟨by simpa using hk1, by omega, by omega⟩)
   rintro ⟨a1, a2, a3⟩
   first | exact absurd (by simpa using a1) hk1 | exact absurd (decide_eq_true a1) hk1 | (simp [a1] at hk1; done) | (simp; omega) | omega, rfl, hM1, iI, rfl⟩
 refine sk3 rfl rfl rfl <| tPf rfl rfl <| mvB rfl <| sk6 rfl rfl rfl rfl rfl rfl <| tPf rfl rfl <| asB rfl <| zq <| .sub (F' := [(6, _)]) (.cons rfl .nil) <| Jq1 _ _ _ _ ?_
 exact ⟨_, by
  constructor
  ·
   intro ht
   first | (cases ht; done) | (simp at ht; exact ⟨by simpa using hk1, by omega, by omega⟩)
  rintro ⟨a1, a2, a3⟩
  first | exact absurd (by simpa using a1) hk1 | exact absurd (decide_eq_true a1) hk1 | (simp [a1] at hk1; done) | (simp; omega) | omega, rfl, hM1, iI, rfl⟩
theorem leaf_spec (hg : MrG M) (t : TreeV) {H : Nat} (hH : t.h = (H : Int)) (hH5 : H ≤ 25) {NA : Option Addr} {nl nc : Nat} {name : List UInt8} (hname : Bytes M NA nl nc name) (q : UInt32) (hq : q.toNat < pw2 H) {A : Option Addr} {m c : Nat} {key : List UInt8} (h : Bytes M A m c key) (hm : m ≤ 1000000000000) :
  Con Tryz.prog 227 #[.agg (List.toArray t.cells), .slice NA nl nc, .int .u32 (q.toNat : Int), .slice A m c] G M L (fun v M' L' => L = L' ∧ ∃ A' m' c', v = .slice A' m' c' ∧ Bytes M' A' m' c' (leafB t name q.toNat key)) noPanic := by
 have hp := pw2_25 hH5
 have hms := h.size
 obtain ⟨x, hx⟩ : ∃ x : UInt32, x.toNat = pw2 H + q.toNat := ⟨UInt32.ofNat (pw2 H + q.toNat), by rw [UInt32.toNat_ofNat', Nat.mod_eq_of_lt (by omega)]⟩
 refine zfn Tryz.func227 rfl 22 rfl <| zr <| tl_e rfl <| e_box rfl <| fun b1 => as0 rfl <| zq <| x_seq ?_
 have hd : Le M M := Le.refl _
 refine x_draw 14 hmix rfl <| pFa 0 rfl rfl <| pLd 1 rfl rfl rfl <| pFa 2 rfl rfl <| pLd 3 rfl rfl rfl <| pmS 4 rfl rfl <| pFa 5 rfl rfl <| pLd 6 rfl rfl rfl ?_
 rw [hH]
 refine zp 7 rfl rfl (y_shl32 (a := 1) rfl rfl) ?_
 rw [show u32v (shl32 1 H) = .int .u32 ((pw2 H : Nat) : Int) from congrArg (fun (x : Nat) => Value.int .u32 (x : Int)) (shl32_h hH5)]
 refine pmI 8 rfl rfl <| zp 9 rfl rfl (y_addN32 rfl rfl (by omega)) ?_
 rw [show ((pw2 H : Nat) : Int) + (q.toNat : Int) = ((x.toNat : Nat) : Int) by rw [hx]; omega]
 refine pmS 10 rfl rfl <| ze 11 rfl rfl <| e_buildSlice rfl (by decide) <| fun b2 => ⟨⟨hd, Keeps.mem⟩, ?_⟩
 refine .pub b2 iI <| fun M1 hM1 hb2 => ?_
 replace hd := hd.trans hM1
 refine ze 12 rfl rfl <| e_call' rfl (Part_spec (hg.mono hd).sha (hg.mono hd).kec t.kind t.n (hname.mono hd) x 33410 (by omega) (Row.whole hb2 rfl (by omega)) (.cons (h.mono hd) .nil) (by simp; omega)) ?_
 rintro _ M2 _ hM2 ⟨rfl, A2, m2, c2, rfl, hA2⟩
 rw [hx, show [key].flatten = key by simp] at hA2
 replace hd := hd.trans hM2
 refine kp ?_
 refine paS 13 rfl rfl <| zz <| .then_normal <| .s1 8 rfl <| x_ret (.dropTo L iI (ret1 rfl rfl hd ⟨rfl, _, _, _, rfl, by rw [leafB, hH, Int.toNat_natCast]; exact hA2⟩))
theorem inner_spec (hg : MrG M) (t : TreeV) {NA : Option Addr} {nl nc : Nat} {name : List UInt8} (hname : Bytes M NA nl nc name) (q : UInt32) {A B : Option Addr} {m c m2 c2 : Nat} {x y : List UInt8} (h : Bytes M A m c x) (hm : m ≤ 100000000000) (h2 : Bytes M B m2 c2 y) (hm2 : m2 ≤ 100000000000) :
  Con Tryz.prog 228 #[.agg (List.toArray t.cells), .slice NA nl nc, .int .u32 (q.toNat : Int), .slice A m c, .slice B m2 c2] G M L (fun v M' L' => L = L' ∧ ∃ A' m' c', v = .slice A' m' c' ∧ Bytes M' A' m' c' (innB t name q.toNat (x ++ y))) noPanic := by
 have hms := h.size
 have hms2 := h2.size
 refine zfn Tryz.func228 rfl 21 rfl <| zr <| tl_e rfl <| e_box rfl <| fun b1 => as0 rfl <| zq <| zr <| tFa rfl <| tLd rfl rfl <| tFa rfl <| tLd rfl rfl <| mvS rfl <| mvI rfl <| mvS rfl <| mvS rfl <| tl_e rfl <| e_buildSlice rfl (by decide) <| fun b2 => .pub b2 iI <| fun M1 hd hb2 => zca rfl (Part_spec (hg.mono hd).sha (hg.mono hd).kec t.kind t.n (hname.mono hd) q 33667 (by omega) (Row.whole hb2 rfl (by omega)) (.cons (h.mono hd) (.cons (h2.mono hd) .nil)) (by simp; omega)) ?_
 rintro _ M2 _ hM2 ⟨rfl, A2, m3, c3, rfl, hA2⟩
 rw [show [x, y].flatten = x ++ y by simp] at hA2
 refine asS rfl <| zq <| .s1 10 rfl <| x_ret (.dropTo L iI (ret1 rfl rfl (hd.trans hM2) ⟨rfl, _, _, _, rfl, hA2⟩))
end
def RowsAt (M : Mem) (ws : List Value) (f : Nat → List (List UInt8)) : Prop := ∀ h, h < ws.length → ∃ A n c vs, ws[h]? = some (.slice A n c) ∧ Row M 1 A n c vs ∧ BRows M vs (f h)
theorem RowsAt.mono {M M' : Mem} {ws : List Value} {f : Nat → List (List UInt8)} (h : RowsAt M ws f) (hle : Le M M') : RowsAt M' ws f := fun i hi =>
 let ⟨A, n, c, vs, h1, h2, h3⟩ := h i hi
 ⟨A, n, c, vs, h1, h2.mono hle, h3.mono hle⟩
theorem RowsAt.snoc {M : Mem} {ws : List Value} {f : Nat → List (List UInt8)} (h : RowsAt M ws f) {A : Option Addr} {n c : Nat} {vs : List Value} (h2 : Row M 1 A n c vs) (h3 : BRows M vs (f ws.length)) : RowsAt M (ws ++ [.slice A n c]) f := fun i hi => by
 rw [List.length_append, List.length_singleton] at hi
 by_cases hlt : i < ws.length
 ·
  obtain ⟨A', n', c', vs', h4, h5, h6⟩ := h i hlt
  exact ⟨A', n', c', vs', by rw [List.getElem?_append_left hlt]; exact h4, h5, h6⟩
 obtain rfl : i = ws.length := by omega
 exact ⟨A, n, c, vs, by rw [List.getElem?_append_right (Nat.le_refl _), Nat.sub_self]; rfl, h2, h3⟩
section
variable {G : World} {M : Mem} {L : Own}
theorem pairs_spec {A : Option Addr} {n c : Nat} :
  Con Tryz.prog 242 #[.slice A n c] G M L (fun v M' L' => M = M' ∧ ∃ x0, L' = (x0, .cells #[.slice A n c] 44 (0, 0)) :: L ∧ v = .func (.func 268) #[] #[.pointer (some ⟨x0, 0, none⟩)]) noPanic := by
 refine zfn Tryz.func242 rfl 4 rfl <| zr <| tl_e rfl <| e_box rfl <| fun b1 => as0 rfl <| zq <| zr <| tl_y rfl (y_makeFunc rfl rfl) <| asF rfl <| zq <| x_ret (ret1 rfl rfl lR ⟨rfl, b1, rfl, rfl⟩)
theorem pairs1_spec {l x0 : Nat} {A : Option Addr} {n c : Nat} {vs : List Value} {bss : List (List UInt8)} {X0 : Own} (hr : Row M 1 A n c vs) (hb : BRows M vs bss) (hn : n ≤ 1000000000000) {Inv : Nat → Mem → Own → Prop} {Dn : Mem → Own → Prop}
  (hy : ∀ k M1 X1 A1 n1 c1 A2 n2 c2, 2 * k + 1 < n → Bytes M A1 n1 c1 (bss.getD (2 * k) []) → Bytes M A2 n2 c2 (bss.getD (2 * k + 1) []) → Le M M1 → Inv k M1 X1 → YCon Tryz.prog l [.int .i64 (k : Nat), .agg #[.slice A1 n1 c1, .slice A2 n2 c2]] G M1 X1 (Inv (k + 1)) Dn) (h0 : Inv 0 M X0) :
  Con Tryz.prog 268 #[.func (.yield l) #[] #[], .pointer (some ⟨x0, 0, none⟩)] G M ((x0, .cells #[.slice A n c] 44 (0, 0)) :: X0)
   (fun v M' L' => ∃ X', L' = (x0, .cells #[.slice A n c] 44 (0, 0)) :: X' ∧ (Inv (n / 2) M' X' ∨ Dn M' X')) noPanic := by
 have hmx := hr.max
 have hle := hr.le
 have hvl := hb.len
 have hnl : vs.length = n := by have := hr.len; omega
 refine zfn Tryz.func268 rfl 26 rfl <| zr <| as0 rfl <| zq <| x_block ?_
 refine x_loop (I := fun m' F D M1 L1 => ∃ (k : Nat) (X1 : Own), m' = n / 2 - k ∧ k ≤ n / 2 ∧ Le M M1 ∧ Inv k M1 X1 ∧ D = [] ∧ L1 = (x0, .cells #[.slice A n c] 44 (0, 0)) :: X1 ∧ F = [(0, .func (.yield l) #[] #[]), (1, .pointer (some ⟨x0, 0, none⟩)), (3, .int .i64 ((2 * k : Nat) : Int))]) (n / 2) (F0 := [(0, _), (1, _), (3, _)]) ?_ (cs3 rfl rfl rfl) ?_
 ·
  exact ⟨0, X0, rfl, by omega, Le.refl _, h0, rfl, rfl, rfl⟩
 rintro m _ _ M1 L1 ⟨k, X1, rfl, hk, hM1, hI, rfl, rfl, rfl⟩
 refine zr2 <| mvI rfl <| tl_y rfl (y_addI rfl rfl (by omega)) <| tLd rfl rfl <| tLen rfl <| tl_y rfl (y_lss rfl rfl) <| zq <| .s4 0 1 3 8 rfl rfl rfl rfl <| x_cond rfl (fun hc1 => ?_) (fun hc1 => ?_)
 ·
  have hkn : 2 * k + 1 < n := by omega
  obtain ⟨g, o, rfl, hcell⟩ := (hr.mono hM1).addr (by omega)
  obtain ⟨A1, n1, c1, hv1, hb1⟩ := hb.get (2 * k) (by omega)
  obtain ⟨A2, n2, c2, hv2, hb2⟩ := hb.get (2 * k + 1) (by omega)
  refine x_skip <| .then_normal <| x_seq <| x_block <| x_seq <| x_draw0 15 ([(x0, .cells #[.slice (some ⟨g, o, none⟩) n c] 44 (0, 0))]) Keeps.mem hmix rfl <| pmF 0 rfl rfl <| pmI 1 rfl rfl <| zp 2 rfl rfl (y_quoI rfl rfl (by omega)) ?_
  rw [show ((2 * k : Nat) : Int) / 2 = (k : Int) by omega]
  refine pLd 3 rfl rfl rfl <| pmI 4 rfl rfl <| zp 5 rfl rfl (y_indexAddr rfl rfl (by omega)) <| zy 6 rfl rfl (y_load rfl rfl (.at_ (hcell _ (2 * k) _ hv1) (by omega))) <| pLd 7 rfl rfl rfl <| pmI 8 rfl rfl <| zp 9 rfl rfl (y_addI rfl rfl (by omega)) <| zp 10 rfl rfl (y_indexAddr rfl rfl (by omega)) <| zy 11 rfl rfl (y_load rfl rfl (.at_ (hcell _ (2 * k + 1) _ hv2) (by omega))) ?_
  refine zp 12 rfl rfl (y_buildArr rfl) <| ze 13 rfl rfl <| e_yieldB (R := [(x0, .cells #[.slice (some ⟨g, o, none⟩) n c] 44 (0, 0))]) (X := X1) rfl rfl (hy k M1 X1 _ _ _ _ _ _ hkn hb1 hb2 hM1 hI) <| fun b M2 X2 hM2 hb => ?_
  rw [List.singleton_append]
  refine kp ?_
  refine zp 14 rfl rfl (y_not rfl) <| zz <| .then_normal <| .s4 0 1 3 25 rfl rfl rfl rfl <| x_condb rfl (fun hc2 => ?_) (fun hc2 => ?_)
  ·
   refine x_ret (.block_ret (.then_ret (.loop_ret (.block_ret (ret0 rfl (hM1.trans hM2) ⟨X2, rfl, by
    rcases hb with ⟨rfl, _⟩ | ⟨_, hb⟩
    ·
     simp at hc2
    exact .inr hb⟩)))))
  refine x_skip <| .block_normal <| .then_normal <| x_region <| mvI rfl <| tl_y rfl (y_addI rfl rfl (by omega)) ?_
  rw [show ((2 * k : Nat) : Int) + 2 = ((2 * (k + 1) : Nat) : Int) by omega]
  refine asI rfl <| tl_nil <| .loop_next (m' := n / 2 - (k + 1)) (by omega) (F' := [(0, _), (1, _), (3, _)]) (cs3 rfl rfl rfl) ?_
  exact ⟨k + 1, X2, rfl, by omega, hM1.trans hM2, by
   rcases hb with ⟨_, hb⟩ | ⟨rfl, hb⟩
   ·
    exact hb
   simp at hc2, rfl, rfl, rfl⟩
 refine x_exit (.then_exit (.loop_exit (.block_exit (end0 rfl hM1 ⟨X1, rfl, .inl (by
  obtain rfl : k = n / 2 := by omega
  exact hI)⟩))))
end
end Go.Proofs.YtplkoemjffplcaaGreatDoor
