/-
Contracts of functions, each proved by a walk through its code.
-/
import Derived.Test.YtiimjodbaogjbaaGreatDoorRef9Etc
import Derived.Test.YtiimjodbaogjbaaGreatDoorSetsEtc
set_option linter.unusedVariables false
set_option linter.unusedSimpArgs false
set_option linter.constructorNameAsVariable false
namespace Go.Proofs.YtiimjodbaogjbaaGreatDoor
open Go Go.Eng
section
variable {G : World} {M : Mem} {L : Own} {NA SA : Option Addr} {nl nc sl sc : Nat} {name sec : List UInt8}
theorem otop_spec (o : OtsV) {n w p : Nat} (ho : OF o n w p) :
  Con Tryz.prog 188 #[.agg (List.toArray o.cells)] G M L (fun v M' L' => M = M' ∧ L = L' ∧ v = .int .i64 (topN o)) noPanic := by
 have hsh := shl1_w ho.isw
 have hw2 := ho.w2
 have ht : topN o = ((2 ^ w : Nat) : Int) - 1 := by rw [topN, ho.hw, Int.toNat_natCast, pw2]
 rw [pw2] at hw2
 refine enter (args := [_]) (fn := Tryz.f188) ⟨Tryz.func188, rfl, by kernel_rfl, by kernel_rfl⟩ 7 rfl <| zr <| tl_e rfl <| e_box rfl <| fun b1 => as0 rfl rfl <| zq <| zr <| tl_y rfl (y_fieldAddr rfl) <| tl_y rfl (y_load (v := .int .i64 (w : Int)) rfl rfl (by rw [← ho.hw]; exact .own inferInstance inferInstance)) <| tl_y rfl (y_shl rfl rfl (by omega)) ?_
 rw [hsh]
 refine tl_y rfl (y_subI rfl rfl (by omega)) <| asI rfl rfl <| zq <| .s1 2 rfl <| x_ret (.dropTo L inferInstance (ret1 rfl rfl (Le.refl _) ⟨rfl, rfl, by rw [ht]⟩))
end
end Go.Proofs.YtiimjodbaogjbaaGreatDoor
set_option linter.unusedVariables false
set_option linter.unusedSimpArgs false
set_option linter.constructorNameAsVariable false
namespace Go.Proofs.YtiimjodbaogjbaaGreatDoor
open Go Go.Eng
section
variable {G : World} {M : Mem} {L : Own} {NA SA : Option Addr} {nl nc sl sc : Nat} {name sec : List UInt8}
theorem oall_spec (o : OtsV) {p : Nat} (hp : o.p = (p : Int)) (hp5 : p ≤ 1000) {fid : FuncId} {cap : List Value} {rows : Nat → List UInt8} (hl : ∀ i, (rows i).length ≤ 32)
    (hdo : ∀ (i : Nat) (M1 : Mem) (X : Own), i < p → Le M M1 → (∀ e ∈ L, e ∈ X) → Con Tryz.prog fid (([] : List Value) ++ [Value.int .i64 (i : Int)] ++ cap).toArray G M1 X (fun v M' L' => X = L' ∧ ∃ A m c, v = .slice A m c ∧ Bytes M' A m c (rows i)) noPanic) :
    Con Tryz.prog 152 #[.agg (List.toArray o.cells), .func (.func fid) (List.toArray []) cap.toArray] G M L (fun v M' L' => L = L' ∧ ∃ A m c, v = .slice A m c ∧ Bytes M' A m c (catR rows p)) noPanic := by
  refine enter (args := [_, _]) (fn := Tryz.f152) ⟨Tryz.func152, rfl, by kernel_rfl, by kernel_rfl⟩ 19 rfl <| zr <| tl_e rfl <| e_box rfl <| fun b1 => as0 rfl rfl <| zq <| zr <| as0 rfl rfl <| zq <| zr2 <| tl_y rfl (y_fieldAddr rfl) ?_
  refine tl_y rfl (y_load (v := .int .i64 (p : Int)) rfl rfl (by rw [← hp]; exact .own inferInstance inferInstance)) <| mv0 rfl rfl <| zq <| .s4 1 5 8 9 rfl rfl rfl rfl <| x_block ?_
  refine x_loop (I := fun m' F D M1 L1 => ∃ (i : Nat) (A : Option Addr) (m c : Nat) (E : Own), m' = p - i ∧ i ≤ p ∧ Le M M1 ∧ m = (catR rows i).length ∧ OwnRow 5 1 A m c ((catR rows i).map bv) E ∧ D = [] ∧ L1 = E ++ ((b1, .cells (List.toArray o.cells) 27 (0, 0)) :: L) ∧ F = [(1, .func (.func fid) (List.toArray []) cap.toArray), (5, .slice A m c), (8, .int .i64 (p : Int)), (9, .int .i64 (i : Int))]) (p) (F0 := [(1, _), (5, _), (8, _), (9, _)]) ?_ (.cons rfl (.cons rfl (.cons rfl (.cons rfl .nil)))) ?_  -- slots [1, 5, 8, 9], written [5, 9]
  · exact ⟨0, none, 0, 0, [], rfl, by omega, Le.refl _, rfl, .nil, rfl, rfl, rfl⟩
  rintro m _ _ M1 _ ⟨i, A, m, c, E, rfl, hi, hM1, hm, hE, rfl, rfl, rfl⟩
  refine zr <| tl_y rfl (y_lss rfl rfl) <| zq <| x_seq <| x_cond rfl (fun hc1 => ?_) (fun hc1 => ?_)
  ·
    have hip : i < p := by omega
    have hle := catR_le hl i
    have hli := hl i
    refine x_skip <| .then_normal <| x_seq <| x_block <| zr <| mvI rfl rfl <| asI rfl rfl <| zq <| x_region <| mvS rfl rfl <| mvF rfl rfl ?_
    refine mvI rfl rfl <| tl_e rfl <| e_callv rfl rfl (hdo i M1 _ hip hM1 Keeps.mem) (fun _ _ _ _ h => h.elim) ?_
    rintro _ M2 _ hM2 ⟨rfl, A2, m2, c2, rfl, hA2⟩
    have hm2 := hA2.size
    refine tl_e rfl <| e_append (by decide) rfl rfl hE (.row hA2) (all_one_bv _) (by omega) (by omega) <| fun A7 c7 E7 hE7 => ?_
    rw [← List.map_append, ← catR_succ] at hE7
    refine asS rfl rfl <| tl_nil <| .block_normal <| .then_normal <| .s4 1 5 8 9 rfl rfl rfl rfl <| x_region <| tl_y rfl (y_addI rfl rfl (by omega)) <| mvI rfl rfl <| tl_nil <| .loop_next (m' := p - (i + 1)) (by omega) (F' := [(1, _), (5, _), (8, _), (9, _)]) (.cons rfl (.cons rfl (.cons rfl (.cons rfl .nil)))) ?_
    exact ⟨i + 1, A7, m + m2, c7, E7, rfl, by omega, hM1.trans hM2, by rw [catR_succ, List.length_append]; omega, hE7, rfl, rfl, rfl⟩
  ·
    obtain rfl : i = p := by omega
    refine .pubRow hE <| fun M4 hM4 hrow => x_exit <| .then_exit <| .loop_exit <| .block_exit <| .then_normal <| .s1 5 rfl <| zr <| mvS rfl rfl <| asS rfl rfl <| zq <| x_ret (.dropTo L inferInstance (ret1 rfl rfl (hM1.trans hM4) ⟨rfl, _, _, _, rfl, hrow⟩))
end
end Go.Proofs.YtiimjodbaogjbaaGreatDoor
set_option linter.unusedVariables false
set_option linter.unusedSimpArgs false
set_option linter.constructorNameAsVariable false
namespace Go.Proofs.YtiimjodbaogjbaaGreatDoor
open Go Go.Eng
theorem digO_get {o : OtsV} {n w p : Nat} (ho : OF o n w p) (name : List UInt8) (q : Nat) (salt text : List UInt8) : (digO o name q salt text).length = p ∧ ∀ d ∈ digO o name q salt text, d < pw2 w := by
 rw [digO, ho.hn, ho.hw, Int.toNat_natCast, Int.toNat_natCast]
 exact ⟨by rw [allD_len ho.isn ho.isw, ho.up], allD_lt _⟩
theorem intsL_at {xs : List Nat} {i : Nat} (h : i < xs.length) : (intsL xs)[i]? = some (.int .i64 ((xs.getD i 0 : Nat) : Int)) := by
 rw [intsL, List.getElem?_map, List.getD_eq_getElem?_getD, List.getElem?_eq_getElem h]; rfl
section
variable {G : World} {M : Mem} {L : Own} {NA SA TA YA : Option Addr} {nl nc sl sc tl tc yl yc : Nat} {name sec text y : List UInt8}
theorem osum_spec (hg : ChG M) (o : OtsV) {n w p : Nat} (ho : OF o n w p) (hname : Bytes M NA nl nc name) (hn16 : nl = 16) (q : UInt32) (hsalt : Bytes M SA sl sc sec) (htext : Bytes M TA tl tc text) (hsl : sl ≤ 1000000000) (htl : tl ≤ 1000000000) :
  Con Tryz.prog 151 #[.agg (List.toArray o.cells), .slice NA nl nc, .int .u32 (q.toNat : Int), .slice SA sl sc, .slice TA tl tc] G M L (fun v M' L' => L = L' ∧ ∃ A c, v = .slice A p c ∧ Row M' 1 A p c (intsL (digO o name q.toNat sec text))) noPanic := by
 have h1 := hname.size
 have h2 := hsalt.size
 have h3 := htext.size
 refine enter (args := [_, _, _, _, _]) (fn := Tryz.f151) ⟨Tryz.func151, rfl, by kernel_rfl, by kernel_rfl⟩ 24 rfl <| zr <| tl_e rfl <| e_box rfl <| fun b1 => as0 rfl rfl <| zq <| x_seq ?_
 have he : Le M M := Le.refl _
 refine x_draw 14 hmix rfl <| zp 0 rfl rfl (y_fieldAddr rfl) <| zy 1 rfl rfl (y_ld rfl rfl) <| zp 2 rfl rfl (y_fieldAddr rfl) <| zy 3 rfl rfl (y_ld rfl rfl) <| zp 4 rfl rfl (y_move (v := .slice _ _ _) rfl) <| zp 5 rfl rfl (y_move (v := .int _ _) rfl) <| zp 6 rfl rfl (y_move (v := .slice _ _ _) rfl) <| zp 7 rfl rfl (y_move (v := .slice _ _ _) rfl) <| zp 10 rfl rfl (y_fieldAddr rfl) ?_
 refine zy 11 rfl rfl (y_load (v := .int .i64 (w : Int)) rfl rfl (by rw [← ho.hw]; exact .own inferInstance inferInstance)) <| ze 8 rfl rfl <| e_buildSlice rfl (by decide) <| fun b7 => ⟨⟨he, Keeps.mem⟩, ?_⟩
 refine .pub b7 inferInstance <| fun M3 hM3 hb7 => ?_
 replace he := he.trans hM3
 refine ze 9 rfl rfl <| e_call' rfl (Part_spec (hg.mono he).sha (hg.mono he).kec o.kind o.n (hname.mono he) q 33153 (by omega) (Row.whole hb7 rfl (by omega)) (.cons (hsalt.mono he) (.cons (htext.mono he) .nil)) (by simp only [List.flatten_cons, List.flatten_nil, List.length_append, List.length_nil]; omega)) ?_
 rintro _ M4 _ hM4 ⟨rfl, A4, m4, c4, rfl, hA4⟩
 rw [show [sec, text].flatten = sec ++ text by simp] at hA4
 replace he := he.trans hM4
 have hm4 := hA4.size
 rw [cPartO_len ho (by omega)] at hm4
 subst hm4
 refine ⟨⟨(by first | exact Le.refl _ | assumption), Keeps.mem⟩, ?_⟩
 refine ze 12 rfl rfl <| e_call' rfl (All7_spec ho.isn ho.isw hA4) ?_
 rintro _ M5 _ hM5 ⟨rfl, A5, c5, rfl, hr5⟩
 replace he := he.trans hM5
 have hr5' : Row M5 1 A5 p c5 (intsL (digO o name q.toNat sec text)) := by
  rw [digO, ho.hn, ho.hw, Int.toNat_natCast, Int.toNat_natCast, ho.up]
  rw [ho.hn] at hr5
  exact hr5
 rw [← ho.up]
 refine ⟨⟨(by first | exact Le.refl _ | assumption), Keeps.mem⟩, ?_⟩
 refine zp 13 rfl rfl (y_assign (v := .slice _ _ _) rfl) <| zz <| .then_normal <| .s1 10 rfl <| x_ret (.dropTo L inferInstance (ret1 rfl rfl he ⟨rfl, A5, c5, rfl, hr5'⟩))
end
end Go.Proofs.YtiimjodbaogjbaaGreatDoor
set_option linter.unusedVariables false
set_option linter.unusedSimpArgs false
set_option linter.constructorNameAsVariable false
namespace Go.Proofs.YtiimjodbaogjbaaGreatDoor
open Go Go.Eng
def sigC (bs : List UInt8) : UInt32 := UInt32.ofNat (getB (bs.take 4))
def ofV (bs : List UInt8) : OtsV × Int :=
 if bs.length < 4 then (ots0, 2) else if otsE (sigC bs) ≠ 0 then (ots0, otsE (sigC bs)) else if bs.length ≠ sizeN (otsV (sigC bs)) then (ots0, 5) else (otsV (sigC bs), 0)
theorem otsV_code {c : UInt32} (h : otsE c = 0) : (otsV c).code = c ∧ okO (otsV c) := by
 obtain ⟨k, hk, e1, e2, e3⟩ := otsE_some h
 have hc : (otsV c).code = c := by
  rw [e2]
  apply UInt32.toNat_inj.1
  show (UInt32.ofNat (k + 1)).toNat = c.toNat
  rw [UInt32.toNat_ofNat', e3, Nat.mod_eq_of_lt (by omega)]
 exact ⟨hc, by rw [okO, hc]; exact ⟨h, rfl⟩⟩
theorem OF.size {o : OtsV} {n w p : Nat} (h : OF o n w p) : sizeN o = 4 + n * (p + 1) ∧ n * (p + 1) = n * p + n ∧ n * p ≤ 32 * 265 := by
 refine ⟨by rw [sizeN, h.hn, h.hp, Int.toNat_natCast, Int.toNat_natCast], Nat.mul_succ n p, Nat.mul_le_mul h.n32.2 h.p2⟩
section
variable {G : World} {M : Mem} {L : Own} {NA SA TA YA : Option Addr} {nl nc sl sc tl tc yl yc : Nat} {name sec text y : List UInt8}
theorem oSize_spec (o : OtsV) {n w p : Nat} (ho : OF o n w p) :
  Con Tryz.prog 128 #[.agg (List.toArray o.cells)] G M L (fun v M' L' => M = M' ∧ L = L' ∧ v = .int .i64 ((sizeN o : Nat) : Int)) noPanic := by
 obtain ⟨h1, h2, h3⟩ := ho.size
 have hn32 := ho.n32
 have hp2 := ho.p2
 have hm : (n : Int) * ((p : Int) + 1) = ((n * (p + 1) : Nat) : Int) := by push_cast; rfl
 refine enter (args := [_]) (fn := Tryz.f128) ⟨Tryz.func128, rfl, by kernel_rfl, by kernel_rfl⟩ 10 rfl <| zr <| tl_e rfl <| e_box rfl <| fun b1 => as0 rfl rfl <| zq <| zr <| tl_y rfl (y_fieldAddr rfl) <| tl_y rfl (y_load (v := .int .i64 (n : Int)) rfl rfl (by rw [← ho.hn]; exact .own inferInstance inferInstance)) <| tl_y rfl (y_fieldAddr rfl) <| tl_y rfl (y_load (v := .int .i64 (p : Int)) rfl rfl (by rw [← ho.hp]; exact .own inferInstance inferInstance)) ?_
 refine tl_y rfl (y_addI rfl rfl (by omega)) ?_
 have hmb : -9223372036854775808 ≤ (n : Int) * ((p : Int) + 1) ∧ (n : Int) * ((p : Int) + 1) ≤ 9223372036854775807 := by rw [hm]; omega
 refine tl_y rfl (y_mulI rfl rfl hmb) ?_
 rw [hm]
 refine tl_y rfl (y_addI rfl rfl (by omega)) <| asI rfl rfl <| zq <| .s1 2 rfl <| x_ret (.dropTo L inferInstance (ret1 rfl rfl (Le.refl _) ⟨rfl, rfl, by rw [h1]; congr 1⟩))
theorem oof_spec (hs : SetG M) {A : Option Addr} {m c : Nat} {bs : List UInt8} (h : Bytes M A m c bs) :
  Con Tryz.prog 203 #[.slice A m c] G M L (fun v M' L' => L = L' ∧ v = .tuple #[.agg (List.toArray (ofV bs).1.cells), .int .i64 (ofV bs).2]) noPanic := by
 have hm := h.size
 have hc := h.le
 refine enter (args := [_]) (fn := Tryz.f203) ⟨Tryz.func203, rfl, by kernel_rfl, by kernel_rfl⟩ 37 rfl <| zr <| tl_e rfl <| e_alloc <| fun b1 => as0 rfl rfl <| zq <| zr2 <| mvS rfl rfl <| tl_y rfl (y_len rfl) <| tl_y rfl (y_lss rfl rfl) <| zq ?_
 refine x_cond rfl (fun hc1 => ?_) (fun hc1 => ?_)
 ·
  refine zr <| tl_y rfl (y_build rfl) <| tl_e rfl <| e_st rfl rfl (by rfl) (by rfl) <| as0 rfl rfl <| zq <| .s2 2 3 rfl rfl <| x_ret (.then_ret (retRV (L' := L) (rv2 rfl (rc_cellAgg (by rfl) rfl (.own inferInstance inferInstance)) (rc_tmp (by rfl))) inferInstance (Le.refl _) ⟨rfl, by rw [ofV, if_pos (by omega)]; rfl⟩))
 ·
  have h4 : 4 ≤ m := by omega
  refine x_skip <| .then_normal <| .s2 0 2 rfl rfl <| zr <| mvS rfl rfl <| tl_y rfl (y_sliceH rfl rfl (by omega) (by omega)) <| tl_e rfl <| e_call' rfl (Get8_spec (Bytes.take h 4 h4) (by omega)) ?_
  rintro _ _ _ _ ⟨rfl, rfl, x, hx, rfl⟩
  have hgl := getB_lt (bs.take 4)
  rw [List.length_take, Nat.min_eq_left (by omega)] at hgl
  have hcv : ((sigC bs).toNat : Int) = (x.toNat : Int) := by rw [sigC, UInt32.toNat_ofNat', hx, Nat.mod_eq_of_lt (by omega)]
  refine mvU rfl rfl <| zx rfl rfl <| zx rfl rfl <| asI rfl rfl <| asB rfl rfl <| zq <| .s3 0 2 4 rfl rfl rfl <| zr <| mvI rfl rfl <| tl_y rfl (y_convE (b := ((sigC bs).toNat : Int)) rfl (by rw [wrapU32, hcv]; omega)) ?_
  refine tl_e rfl <| e_call' rfl (Ots_spec hs (sigC bs)) ?_
  rintro _ M1 _ hM1 ⟨rfl, rfl⟩
  refine mvU rfl rfl <| zx rfl rfl <| zx rfl rfl <| tl_e rfl <| e_alloc <| fun b2 => tl_e rfl <| e_st rfl rfl (by rfl) (by rfl) <| asI rfl rfl <| zq <| .s4 0 2 6 7 rfl rfl rfl rfl <| x_seq <| x_block ?_
  refine zr <| mvI rfl rfl <| tl_y rfl (y_neq rfl rfl) <| asB rfl rfl <| zq <| x_cond rfl (fun hc2 => ?_) (fun hc2 => ?_)
  ·
   refine zr <| tl_y rfl (y_build rfl) <| mvI rfl rfl <| tl_e rfl <| e_st rfl rfl (by rfl) (by rfl) <| asI rfl rfl <| zq <| .s3 2 3 6 rfl rfl rfl <| x_ret (.block_ret (.then_ret (retRV (L' := L) (rv2 rfl (rc_cellAgg (by rfl) rfl (.own inferInstance inferInstance)) (rc_tmp (by rfl))) inferInstance hM1 ⟨rfl, by rw [ofV, if_neg (by omega), if_pos hc2]; rfl⟩)))
  ·
   have he0 : otsE (sigC bs) = 0 := Classical.not_not.1 hc2
   obtain ⟨n, w, p, ho⟩ := okO_facts (otsV_code he0).2
   refine zr <| mvS rfl rfl <| tl_y rfl (y_len rfl) <| tl_y rfl (y_lg rfl rfl) <| tl_e rfl <| e_call' rfl (oSize_spec _ ho) ?_
   rintro _ _ _ _ ⟨rfl, rfl, rfl⟩
   refine tl_y rfl (y_neq rfl rfl) <| asB rfl rfl <| zq <| .s3 2 6 29 rfl rfl rfl <| x_cond rfl (fun hc3 => ?_) (fun hc3 => ?_)
   ·
    refine zr <| tl_y rfl (y_build rfl) <| tl_e rfl <| e_st rfl rfl (by rfl) (by rfl) <| as0 rfl rfl <| zq <| x_ret (.block_ret (.then_ret (retRV (L' := L) (rv2 rfl (rc_cellAgg (by rfl) rfl (.own inferInstance inferInstance)) (rc_tmp (by rfl))) inferInstance hM1 ⟨rfl, by rw [ofV, if_neg (by omega), if_neg hc2, if_pos (by omega)]; rfl⟩)))
   ·
    refine x_skip <| .block_normal <| .then_normal <| zr <| tl_y rfl (y_lg rfl rfl) <| tl_e rfl <| e_st rfl rfl (by rfl) (by rfl) <| as0 rfl rfl <| zq <| x_ret (retRV (L' := L) (rv2 rfl (rc_cellAgg (by rfl) rfl (.own inferInstance inferInstance)) (rc_tmp (by rfl))) inferInstance hM1 ⟨rfl, by rw [ofV, if_neg (by omega), if_neg hc2, if_neg (by omega)]⟩)
theorem oStands1_spec (hg : ChG M) (o : OtsV) {n w p : Nat} (ho : OF o n w p) (hname : Bytes M NA nl nc name) (q : UInt32) {DA : Option Addr} {dc : Nat} {d : List Nat} (hd : Row M 1 DA p dc (intsL d)) (hy : Bytes M YA yl yc y) (hyl : yl = n * p) (i : Nat) (hi : i < p) {bo bn bq bd by_ : Nat}
  [i1 : Has L bo (.cells (List.toArray o.cells) 27 (0, 0))] [i2 : Has L bn (.cells (List.toArray [.slice NA nl nc]) 35 (0, 0))] [i3 : Has L bq (.cells (List.toArray [.int .u32 (q.toNat : Int)]) 22 (0, 0))] [i4 : Has L bd (.cells (List.toArray [.slice DA p dc]) 156 (0, 0))] [i5 : Has L by_ (.cells (List.toArray [.slice YA yl yc]) 35 (0, 0))] :
  Con Tryz.prog 204 #[.int .i64 (i : Int), .pointer (some ⟨bo, 0, none⟩), .pointer (some ⟨bn, 0, none⟩), .pointer (some ⟨bq, 0, none⟩), .pointer (some ⟨bd, 0, none⟩), .pointer (some ⟨by_, 0, none⟩)] G M L (fun v M' L' => L = L' ∧ ∃ A m c, v = .slice A m c ∧ Bytes M' A m c (staR o name q.toNat d y i)) noPanic := by
 have hp2 := ho.p2
 have hn32 := ho.n32
 have hdl : d.length = p := by have := hd.len; simpa [intsL] using this
 obtain ⟨g, oo, rfl, hcell⟩ := hd.addr (by omega)
 have hyc := hy.le
 have hin : i * n + n ≤ n * p := by
  have := Nat.mul_le_mul_left n (show i + 1 ≤ p from hi)
  rw [Nat.mul_succ, Nat.mul_comm n i] at this
  omega
 have hin2 : n * p ≤ 32 * 265 := Nat.mul_le_mul hn32.2 hp2
 have hm1 : (i : Int) * (n : Int) = ((i * n : Nat) : Int) := by push_cast; rfl
 have hm2 : ((i : Int) + 1) * (n : Int) = ((i * n + n : Nat) : Int) := by rw [Int.add_mul, Int.one_mul, hm1]; push_cast; rfl
 have hsub := Bytes.sub hy (i * n) (i * n + n) (by omega) (by omega)
 rw [show i * n + n - i * n = n by omega] at hsub
 refine enter (args := [_, _, _, _, _, _]) (fn := Tryz.f204) ⟨Tryz.func204, rfl, by kernel_rfl, by kernel_rfl⟩ 30 rfl <| zr <| as0 rfl rfl <| zq <| x_seq ?_
 have he : Le M M := Le.refl _
 refine x_draw 23 hmix rfl <| zy 0 rfl rfl (y_lg rfl rfl) <| zy 1 rfl rfl (y_ld rfl rfl) <| zy 2 rfl rfl (y_ld rfl rfl) <| zp 3 rfl rfl (y_move (v := .int _ _) rfl) <| zy 4 rfl rfl (y_ld rfl rfl) <| zp 5 rfl rfl (y_move (v := .int _ _) rfl) <| zp 6 rfl rfl (y_indexAddrK i rfl rfl (by omega)) <| zy 7 rfl rfl (y_load rfl rfl (.at_ (hcell _ i _ (intsL_at (by omega))) (by omega))) <| zy 8 rfl rfl (y_lg rfl rfl) ?_
 refine zy 10 rfl rfl (y_ld rfl rfl) <| zp 11 rfl rfl (y_move (v := .int _ _) rfl) <| zp 12 rfl rfl (y_fieldAddr rfl) <| zy 13 rfl rfl (y_load (v := .int .i64 (n : Int)) rfl rfl (by rw [← ho.hn]; exact .own inferInstance inferInstance)) <| zp 14 rfl rfl (y_mulI rfl rfl (by rw [hm1]; omega)) ?_
 rw [hm1]
 refine zp 15 rfl rfl (y_move (v := .int _ _) rfl) <| zp 16 rfl rfl (y_addI rfl rfl (by omega)) <| zp 17 rfl rfl (y_fieldAddr rfl) <| zy 18 rfl rfl (y_load (v := .int .i64 (n : Int)) rfl rfl (by rw [← ho.hn]; exact .own inferInstance inferInstance)) <| zp 19 rfl rfl (y_mulI rfl rfl (by rw [hm2]; omega)) ?_
 rw [hm2]
 refine zp 20 rfl rfl (y_sliceLH rfl rfl rfl (by omega) (by omega)) ?_
 rw [Int.toNat_natCast, Int.toNat_natCast, show i * n + n - i * n = n by omega]
 refine ze 9 rfl rfl <| e_call' rfl (otop_spec o ho) ?_
 rintro _ _ _ _ ⟨rfl, rfl, rfl⟩
 refine ⟨⟨(by first | exact Le.refl _ | assumption), Keeps.mem⟩, ?_⟩
 refine ze 21 rfl rfl <| e_call' rfl (Up_spec' hg.sha hg.kec hg.set o hname hsub q i ((d.getD i 0 : Nat) : Int) (topN o)) ?_
 rintro _ M3 _ hM3 ⟨rfl, A3, m3, c3, rfl, hA3⟩
 replace he := he.trans hM3
 refine ⟨⟨(by first | exact Le.refl _ | assumption), Keeps.mem⟩, ?_⟩
 refine zp 22 rfl rfl (y_assign (v := .slice _ _ _) rfl) <| zz <| .then_normal <| .s1 7 rfl <| x_ret (ret1 rfl rfl he ⟨rfl, _, _, _, rfl, by rw [staR, ho.hn, Int.toNat_natCast]; exact hA3⟩)
def staE (nl tl : Nat) (sig : List UInt8) : Int := if nl ≠ 16 ∨ tl > 65536 then 1 else (ofV sig).2
def staV (nl tl : Nat) (name : List UInt8) (q : Nat) (text sig : List UInt8) : List UInt8 := if staE nl tl sig = 0 then staB (ofV sig).1 name q text sig else []
theorem ofV_ok {bs : List UInt8} (h : (ofV bs).2 = 0) : okO (ofV bs).1 ∧ bs.length = sizeN (ofV bs).1 ∧ otsE (sigC bs) = 0 ∧ (ofV bs).1 = otsV (sigC bs) := by
  unfold ofV at h ⊢
  split at h
  · cases h
  · rename_i h1
    split at h
    · rename_i h2; exact absurd h h2
    · rename_i h2
      split at h
      · cases h
      · rename_i h3
        rw [if_neg h1, if_neg h2, if_neg h3]
        exact ⟨(otsV_code (Classical.not_not.1 h2)).2, Classical.not_not.1 h3, Classical.not_not.1 h2, rfl⟩
theorem oStands_spec (hg : ChG M) (hname : Bytes M NA nl nc name) (q : UInt32) (htext : Bytes M TA tl tc text) {A : Option Addr} {m c : Nat} {sig : List UInt8} (hsig : Bytes M A m c sig) :
  Con Tryz.prog 158 #[.slice NA nl nc, .int .u32 (q.toNat : Int), .slice TA tl tc, .slice A m c] G M L (fun v M' L' => L = L' ∧ ∃ A' m' c', v = .tuple #[.slice A' m' c', .int .i64 (staE nl tl sig)] ∧ Bytes M' A' m' c' (staV nl tl name q.toNat text sig)) noPanic := by
 have hsl := hsig.size
 have hsc := hsig.le
 refine enter (args := [_, _, _, _]) (fn := Tryz.f158) ⟨Tryz.func158, rfl, by kernel_rfl, by kernel_rfl⟩ 60 rfl <| zr <| tl_e rfl <| e_box rfl <| fun b1 => tl_e rfl <| e_box rfl <| fun b2 => as0 rfl rfl <| as0 rfl rfl <| zq <| .s4 2 3 4 5 rfl rfl rfl rfl <| zr2 <| tl_y rfl (y_ld rfl rfl) ?_
 refine tl_y rfl (y_len rfl) <| tl_y rfl (y_neq rfl rfl) <| mvB rfl rfl <| tl_cases (s := 19) rfl (fun hk1 => ?_) (fun hk1 => ?_)
 ·
  have hE1 : staE nl tl sig = 1 := by rw [staE, if_pos (.inl (by omega))]
  refine tl_skip rfl <| tl_skip rfl <| tl_skip rfl <| tl_y rfl (y_pickT rfl rfl) <| zq <| .s5 2 3 4 5 23 rfl rfl rfl rfl rfl <| x_true rfl rfl <| zr <| as0 rfl rfl <| as0 rfl rfl ?_
  refine zq <| .s2 8 9 rfl rfl <| x_ret (.then_ret (.dropTo L inferInstance (ret2 rfl rfl rfl (Le.refl _) ⟨rfl, none, 0, 0, by rw [hE1], by rw [staV, hE1, if_neg (by decide)]; exact Row.nil _ _⟩)))
 ·
  refine mvS rfl rfl <| tl_y rfl (y_len rfl) <| tl_y rfl (y_gtr rfl rfl) <| tl_y rfl (y_pickF rfl rfl) <| zq <| .s5 2 3 4 5 23 rfl rfl rfl rfl rfl <| x_cond rfl (fun hc1 => ?_) (fun hc1 => ?_)
  ·
   have hE1 : staE nl tl sig = 1 := by rw [staE, if_pos (.inr (by omega))]
   refine zr <| as0 rfl rfl <| as0 rfl rfl <| zq <| .s2 8 9 rfl rfl <| x_ret (.then_ret (.dropTo L inferInstance (ret2 rfl rfl rfl (Le.refl _) ⟨rfl, none, 0, 0, by rw [hE1], by rw [staV, hE1, if_neg (by decide)]; exact Row.nil _ _⟩)))
  ·
   have hn16 : nl = 16 := by omega
   have htl : tl ≤ 65536 := by omega
   have hE : staE nl tl sig = (ofV sig).2 := by rw [staE, if_neg (by omega)]
   refine x_skip <| .then_normal <| zr <| mvS rfl rfl <| tl_e rfl <| e_call' rfl (oof_spec hg.set hsig) ?_
   rintro _ M1 _ hM1 ⟨rfl, rfl⟩
   refine mvU rfl rfl <| zx rfl rfl <| zx rfl rfl <| tl_e rfl <| e_alloc <| fun b3 => tl_e rfl <| e_st rfl rfl (by rfl) (by rfl) <| asI rfl rfl <| zq <| .s6 2 3 4 5 10 11 rfl rfl rfl rfl rfl rfl <| zr2 <| mvI rfl rfl ?_
   refine tl_y rfl (y_neq rfl rfl) <| zq <| x_cond rfl (fun hc2 => ?_) (fun hc2 => ?_)
   ·
    refine zr <| mvI rfl rfl <| as0 rfl rfl <| asI rfl rfl <| zq <| .s2 8 9 rfl rfl <| x_ret (.then_ret (.dropTo L inferInstance (ret2 rfl rfl rfl hM1 ⟨rfl, none, 0, 0, by rw [hE], by rw [staV, hE, if_neg hc2]; exact Row.nil _ _⟩)))
   ·
    have he0 : (ofV sig).2 = 0 := Classical.not_not.1 hc2
    obtain ⟨hok, hlen, _, _⟩ := ofV_ok he0
    obtain ⟨o, hoe⟩ : ∃ o, o = (ofV sig).1 := ⟨_, rfl⟩
    rw [← hoe] at hok hlen ⊢
    obtain ⟨n, w, p, ho⟩ := okO_facts hok
    obtain ⟨hz1, hz2, hz3⟩ := ho.size
    have hn32 := ho.n32
    have hp2 := ho.p2
    have hsalt := Bytes.sub hsig 4 (4 + n) (by omega) (by omega)
    rw [show 4 + n - 4 = n by omega] at hsalt
    have hyy := Bytes.sub hsig (4 + n) m (by omega) (by omega)
    rw [List.take_of_length_le (by rw [List.length_drop]; omega)] at hyy
    have hts := htext.size
    refine x_skip <| .then_normal <| x_seq <| x_draw 12 hmix rfl <| zp 0 rfl rfl (y_move (v := .slice _ _ _) rfl) <| zp 1 rfl rfl (y_fieldAddr rfl) <| zy 2 rfl rfl (y_load (v := .int .i64 (n : Int)) rfl rfl (by rw [← ho.hn]; exact .own inferInstance inferInstance)) <| zp 3 rfl rfl (y_addI rfl rfl (by omega)) <| zp 4 rfl rfl (y_sliceLH rfl rfl rfl (by omega) (by omega)) ?_
    rw [show ((4 : Int) + (n : Int)).toNat = 4 + n by omega, show (4 : Int).toNat = 4 from rfl, show 4 + n - 4 = n by omega]
    refine zp 5 rfl rfl (y_move (v := .slice _ _ _) rfl) <| zp 6 rfl rfl (y_fieldAddr rfl) <| zy 7 rfl rfl (y_load (v := .int .i64 (n : Int)) rfl rfl (by rw [← ho.hn]; exact .own inferInstance inferInstance)) <| zp 8 rfl rfl (y_addI rfl rfl (by omega)) <| zp 9 rfl rfl (y_sliceL rfl rfl (by omega)) ?_
    rw [show ((4 : Int) + (n : Int)).toNat = 4 + n by omega]
    refine ze 10 rfl rfl <| e_alloc <| fun b4 => ⟨⟨(by first | exact Le.refl _ | assumption), Keeps.mem⟩, ?_⟩
    refine zp 11 rfl rfl (y_assign (v := .slice _ _ _) rfl) <| zt 12 rfl rfl <| e_st rfl rfl (by rfl) (by rfl) <| zz <| .then_normal <| .s6 2 4 5 10 12 13 rfl rfl rfl rfl rfl rfl <| zr <| tl_y rfl (y_lg rfl rfl) <| tl_y rfl (y_ld rfl rfl) <| tl_y rfl (y_ld rfl rfl) <| mvS rfl rfl <| mvS rfl rfl ?_
    refine tl_e rfl <| e_call' rfl (osum_spec (hg.mono hM1) o ho (hname.mono hM1) hn16 q (hsalt.mono hM1) (htext.mono hM1) (by omega) (by omega)) ?_
    rintro _ M3 _ hM3 ⟨rfl, A3, c3, rfl, hr3⟩
    have hd := hM1.trans hM3
    obtain ⟨ds, hds⟩ : ∃ ds, ds = digO o name q.toNat ((sig.drop 4).take n) text := ⟨_, rfl⟩
    rw [← hds] at hr3
    refine tl_e rfl <| e_alloc <| fun b5 => tl_e rfl <| e_st rfl rfl (by rfl) (by rfl) <| zq <| .s5 4 5 10 13 14 rfl rfl rfl rfl rfl <| zr <| tl_y rfl (y_lg rfl rfl) <| tl_y rfl (y_makeFunc rfl rfl) <| tl_e rfl (e_call' rfl (oall_spec o ho.hp (by omega) (rows := staR o name q.toNat ds (sig.drop (4 + n))) (staR_le ho name q.toNat ds (sig.drop (4 + n))) (fun i M2 X hi hM2 hX => by
     haveI i1 : Has X b3 (.cells (List.toArray o.cells) 27 (0, 0)) := ⟨hX _ (Has.mem)⟩
     haveI i2 : Has X b1 (.cells (List.toArray [.slice NA nl nc]) 35 (0, 0)) := ⟨hX _ (Has.mem)⟩
     haveI i3 : Has X b2 (.cells (List.toArray [.int .u32 (q.toNat : Int)]) 22 (0, 0)) := ⟨hX _ (Has.mem)⟩
     haveI i4 : Has X b5 (.cells (List.toArray [.slice A3 p c3]) 156 (0, 0)) := ⟨hX _ (Has.mem)⟩
     haveI i5 : Has X b4 (.cells (List.toArray [.slice (sl A (4 + n) c 1) (m - (4 + n)) (c - (4 + n))]) 35 (0, 0)) := ⟨hX _ (Has.mem)⟩
     exact oStands1_spec ((hg.mono hd).mono hM2) o ho ((hname.mono hd).mono hM2) q (hr3.mono hM2) ((hyy.mono hd).mono hM2) (by omega) i hi)) ?_)
    rintro _ M4 _ hM4 ⟨rfl, A4, m4, c4, rfl, hA4⟩
    replace hd := hd.trans hM4
    have hm4 := hA4.size
    have hle := catR_le (staR_le ho name q.toNat ds (sig.drop (4 + n))) p
    refine asS rfl rfl <| zq <| .s4 4 5 10 15 rfl rfl rfl rfl <| zr <| tl_y rfl (y_fieldAddr rfl) <| tl_y rfl (y_ld rfl rfl) <| tl_y rfl (y_fieldAddr rfl) <| tl_y rfl (y_ld rfl rfl) <| tl_y rfl (y_ld rfl rfl) <| tl_y rfl (y_ld rfl rfl) ?_
    refine mvS rfl rfl <| tl_e rfl <| e_buildSlice rfl (by decide) <| fun b7 => .pub b7 inferInstance <| fun M5 hM5 hb7 => ?_
    replace hd := hd.trans hM5
    refine tl_e rfl <| e_call' rfl (Part_spec (hg.mono hd).sha (hg.mono hd).kec o.kind o.n (hname.mono hd) q 32896 (by omega) (Row.whole hb7 rfl (by omega)) (.cons (hA4.mono hM5) .nil) (by simp only [List.flatten_cons, List.flatten_nil, List.length_append, List.length_nil]; omega)) ?_
    rintro _ M6 _ hM6 ⟨rfl, A6, m6, c6, rfl, hA6⟩
    rw [show [catR (staR o name q.toNat ds (sig.drop (4 + n))) p].flatten = catR (staR o name q.toNat ds (sig.drop (4 + n))) p by simp] at hA6
    refine asS rfl rfl <| as0 rfl rfl <| zq <| .s2 8 9 rfl rfl <| x_ret (.dropTo L inferInstance (ret2 rfl rfl rfl (hd.trans hM6) ⟨rfl, _, _, _, by rw [hE, he0], by
     rw [staV, hE, if_pos he0, ← hoe, staB, show o.n.toNat = n by rw [ho.hn]; rfl, show o.p.toNat = p by rw [ho.hp]; rfl, ← hds]
     exact hA6⟩))
end
end Go.Proofs.YtiimjodbaogjbaaGreatDoor
set_option linter.unusedVariables false
set_option linter.unusedSimpArgs false
set_option linter.constructorNameAsVariable false
namespace Go.Proofs.YtiimjodbaogjbaaGreatDoor
open Go Go.Eng
def leavesN (h : Int) : Nat := if h < 1 ∨ 25 < h then 0 else pw2 h.toNat
theorem pw2_25 {h : Nat} (hh : h ≤ 25) : pw2 h ≤ 33554432 := pw2_le (k := 25) hh
theorem pw2_pos (h : Nat) : 1 ≤ pw2 h := Nat.one_le_two_pow
theorem shl64_one {h : Nat} (hh : h ≤ 25) : (shl64 1 h).toNat = pw2 h := by
 have h1 := pw2_25 hh
 have h2 : pw2 h = 2 ^ h := rfl
 rw [shl64, UInt64.toNat_ofNat', show (1 : UInt64).toNat = 1 from rfl, Nat.one_mul, ← h2, Nat.mod_eq_of_lt (by omega)]
theorem treeOf_own {c : UInt32} (h : ¬ (c.toNat < 4026531841)) : treeOf c = if c.toNat - 4026531841 < 16 then some (treeT c (c.toNat - 4026531841) 4) else none := by
  rw [treeOf, if_neg (by omega)]
  by_cases h2 : c.toNat - 4026531841 < 16
  · rw [if_pos (by omega), if_pos h2]
  · rw [if_neg (by omega), if_neg h2]
theorem treeOf_std {c : UInt32} (h : c.toNat < 4026531841) : treeOf c = if 5 ≤ c.toNat ∧ c.toNat - 5 < 20 then some (treeT c (c.toNat - 5) 5) else none := by
  rw [treeOf]
  by_cases h2 : 5 ≤ c.toNat ∧ c.toNat - 5 < 20
  · rw [if_pos (by omega), if_pos h2]
  · rw [if_neg (by omega), if_neg (by omega), if_neg h2]
section
variable {G : World} {M : Mem} {L : Own}
theorem Tree1_spec (hg : SetT M) (code : UInt32) {b : Nat} [hb : Has L b (.cells (List.toArray [.int .u32 (code.toNat : Int)]) 22 (0, 0))] :
  Con Tryz.prog 178 #[.pointer (some ⟨b, 0, none⟩)] G M L (fun v M' L' => L' = L ∧ ∃ o, treeOf code = some o ∧ v = .agg (List.toArray o.cells)) (fun ch M' L' => L' = L ∧ treeOf code = none ∧ ch = unks) := by
 have hc := code.toNat_lt
 have h1 : (5 : UInt32).toNat = 5 := rfl
 have h2 : (4026531841 : UInt32).toNat = 4026531841 := rfl
 obtain ⟨ht, hf, hh⟩ := hg.heights
 obtain ⟨ot, of_, ho⟩ := hg.own
 refine enter (args := [_]) (fn := Tryz.f178) ⟨Tryz.func178, rfl, by kernel_rfl, by kernel_rfl⟩ 36 rfl <| zr <| tl_e rfl <| e_alloc <| fun b1 => zq <| zr2 <| tl_y rfl (y_ld rfl rfl) <| tl_y rfl (y_geq rfl rfl) <| zq <| x_cond rfl (fun hc1 => ?_) (fun hc1 => ?_)
 ·
  refine zr <| tl_y rfl (y_ld rfl rfl) <| tl_e rfl (e_call rfl (setsAt_spec hg.sums code 4026531841 4 (by omega)) (by
   rintro _ _ _ _ ⟨rfl, rfl, hne, rfl⟩
   exact TP.dropTo L inferInstance (.retA rfl (Le.refl _) ⟨rfl, by rw [treeOf_own (by omega), if_neg (by omega)], rfl⟩)) ?_)
  rintro _ _ _ _ ⟨rfl, rfl, hle, hlt, rfl⟩
  rw [h2] at hle hlt ⊢
  have hto : treeOf code = some (treeT code (code.toNat - 4026531841) 4) := by rw [treeOf_own (by omega), if_pos (by omega)]
  obtain ⟨i, hi⟩ : ∃ i, i = code.toNat - 4026531841 := ⟨_, rfl⟩
  rw [← hi] at hlt hto ⊢
  have hi4 : i % 4 < 4 := Nat.mod_lt _ (by omega)
  refine mvU rfl rfl <| zx rfl rfl <| zx rfl rfl <| tl_e rfl <| e_alloc <| fun b2 => tl_e rfl <| e_st rfl rfl (by rfl) (by rfl) <| asI rfl rfl <| zq <| .s4 0 1 2 3 rfl rfl rfl rfl <| x_seq <| x_draw 9 hmix rfl ?_
  refine zy 0 rfl rfl (y_ld rfl rfl) <| zp 1 rfl rfl (y_fieldAddr rfl) <| zy 2 rfl rfl (y_ld rfl rfl) <| zp 3 rfl rfl (y_fieldAddr rfl) <| zy 4 rfl rfl (y_ld rfl rfl) <| zp 5 rfl rfl (y_move (v := .int _ _) rfl) <| zp 6 rfl rfl (y_indexArr rfl rfl (by omega)) <| zy 7 rfl rfl (y_load rfl rfl (.at_ (.ro (i := i % 4) ho (by rw [List.getElem?_toArray]; exact own_get _ hi4)) (by omega))) ?_
  refine zp 8 rfl rfl (y_build rfl) <| zt 9 rfl rfl <| e_st rfl rfl (by rfl) (by rfl) <| zz <| .then_normal <| .s1 1 rfl <| x_ret (.then_ret (retRV (L' := L) (rv1 rfl (rc_cellAgg (by rfl) rfl (.own inferInstance inferInstance))) inferInstance (Le.refl _) ⟨rfl, _, hto, rfl⟩))
 ·
  refine x_skip <| .then_normal <| zr <| tl_y rfl (y_ld rfl rfl) <| tl_e rfl (e_call rfl (setsAt_spec hg.sums code 5 5 (by omega)) (by
   rintro _ _ _ _ ⟨rfl, rfl, hne, rfl⟩
   exact TP.dropTo L inferInstance (.retA rfl (Le.refl _) ⟨rfl, by rw [treeOf_std (by omega), if_neg (by omega)], rfl⟩)) ?_)
  rintro _ _ _ _ ⟨rfl, rfl, hle, hlt, rfl⟩
  rw [h1] at hle hlt ⊢
  have hto : treeOf code = some (treeT code (code.toNat - 5) 5) := by rw [treeOf_std (by omega), if_pos (by omega)]
  obtain ⟨i, hi⟩ : ∃ i, i = code.toNat - 5 := ⟨_, rfl⟩
  rw [← hi] at hlt hto ⊢
  have hi5 : i % 5 < 5 := Nat.mod_lt _ (by omega)
  refine mvU rfl rfl <| zx rfl rfl <| zx rfl rfl <| tl_e rfl <| e_alloc <| fun b3 => tl_e rfl <| e_st rfl rfl (by rfl) (by rfl) <| asI rfl rfl <| zq <| .s4 0 1 4 5 rfl rfl rfl rfl <| x_seq <| x_draw 9 hmix rfl ?_
  refine zy 0 rfl rfl (y_ld rfl rfl) <| zp 1 rfl rfl (y_fieldAddr rfl) <| zy 2 rfl rfl (y_ld rfl rfl) <| zp 3 rfl rfl (y_fieldAddr rfl) <| zy 4 rfl rfl (y_ld rfl rfl) <| zp 5 rfl rfl (y_move (v := .int _ _) rfl) <| zp 6 rfl rfl (y_indexArr rfl rfl (by omega)) <| zy 7 rfl rfl (y_load rfl rfl (.at_ (.ro (i := i % 5) hh (by rw [List.getElem?_toArray]; exact heights_get _ hi5)) (by omega))) ?_
  refine zp 8 rfl rfl (y_build rfl) <| zt 9 rfl rfl <| e_st rfl rfl (by rfl) (by rfl) <| zz <| .then_normal <| .s1 1 rfl <| x_ret (retRV (L' := L) (rv1 rfl (rc_cellAgg (by rfl) rfl (.own inferInstance inferInstance))) inferInstance (Le.refl _) ⟨rfl, _, hto, rfl⟩)
theorem Tree_spec (hg : SetT M) (code : UInt32) :
  Con Tryz.prog 126 #[.int .u32 (code.toNat : Int)] G M L (fun v M' L' => L = L' ∧ v = .tuple #[.agg (List.toArray (treeV code).cells), .int .i64 (treeE code)]) noPanic := by
 refine enter (args := [_]) (fn := Tryz.f126) ⟨Tryz.func126, rfl, by kernel_rfl, by kernel_rfl⟩ 8 rfl <| zr <| tl_e rfl <| e_box rfl <| fun b1 => tl_e rfl <| e_alloc <| fun b2 => as0 rfl rfl <| zq <| zr <| tl_y rfl (y_makeFunc rfl rfl) <| tl_e rfl <| e_call' rfl (caughtT_spec (r := treeOf code) (first := []) (cap := [.pointer (some ⟨b1, 0, none⟩)]) (fun p q => Tree1_spec hg code)) ?_
 rintro _ M1 _ hM1 ⟨rfl, rfl⟩
 refine zx rfl rfl <| zx rfl rfl <| tl_e rfl <| e_st rfl rfl (by rfl) (by rfl) <| asI rfl rfl <| zq <| .s2 2 3 rfl rfl <| x_ret (retRV (L' := L) (rv2 rfl (rc_cellAgg (by rfl) rfl (.own inferInstance inferInstance)) (rc_tmp (by rfl))) inferInstance hM1 ⟨rfl, rfl⟩)
theorem Leaves_spec (t : TreeV) :
  Con Tryz.prog 93 #[.agg (List.toArray t.cells)] G M L (fun v M' L' => M = M' ∧ L = L' ∧ v = .int .u64 (leavesN t.h : Nat)) noPanic := by
 refine enter (args := [_]) (fn := Tryz.f93) ⟨Tryz.func93, rfl, by kernel_rfl, by kernel_rfl⟩ 14 rfl <| zr <| tl_e rfl <| e_box rfl <| fun b1 => as0 rfl rfl <| zq <| zr2 <| tl_y rfl (y_fieldAddr rfl) <| tl_y rfl (y_ld rfl rfl) <| tl_y rfl (y_lss rfl rfl) <| mvB rfl rfl ?_
 refine tl_cases (s := 6) rfl (fun hk1 => ?_) (fun hk1 => ?_)
 ·
  refine tl_skip rfl <| tl_skip rfl <| tl_skip rfl <| tl_y rfl (y_pickT rfl rfl) <| zq <| .s2 1 10 rfl rfl <| x_true rfl rfl <| zr <| as0 rfl rfl <| zq ?_
  refine x_ret (.then_ret (.dropTo L inferInstance (ret1 rfl rfl (Le.refl _) ⟨rfl, rfl, by rw [leavesN, if_pos (by omega)]; rfl⟩)))
 ·
  refine tl_y rfl (y_fieldAddr rfl) <| tl_y rfl (y_ld rfl rfl) <| tl_y rfl (y_gtr rfl rfl) <| tl_y rfl (y_pickF rfl rfl) <| zq <| .s2 1 10 rfl rfl <| x_cond rfl (fun hc1 => ?_) (fun hc1 => ?_)
  ·
   refine zr <| as0 rfl rfl <| zq <| x_ret (.then_ret (.dropTo L inferInstance (ret1 rfl rfl (Le.refl _) ⟨rfl, rfl, by rw [leavesN, if_pos (by omega)]; rfl⟩)))
  ·
   obtain ⟨h', hh⟩ : ∃ h' : Nat, t.h = (h' : Int) := ⟨t.h.toNat, by omega⟩
   have hlv : leavesN t.h = pw2 h' := by rw [leavesN, if_neg (by omega), hh, Int.toNat_natCast]
   rw [hlv]
   refine x_skip <| .then_normal <| zr <| tl_y rfl (y_fieldAddr rfl) <| tl_y rfl (y_ld rfl rfl) ?_
   rw [hh]
   refine tl_y rfl (y_shl64 (a := 1) rfl rfl) ?_
   rw [show u64v (shl64 1 h') = .int .u64 ((pw2 h' : Nat) : Int) from congrArg (fun (x : Nat) => Value.int .u64 (x : Int)) (shl64_one (by omega))]
   refine asI rfl rfl <| zq <| .s1 2 rfl <| x_ret (.dropTo L inferInstance (ret1 rfl rfl (Le.refl _) ⟨rfl, rfl, rfl⟩))
end
end Go.Proofs.YtiimjodbaogjbaaGreatDoor
set_option linter.unusedVariables false
set_option linter.unusedSimpArgs false
namespace Go.Proofs.YtiimjodbaogjbaaGreatDoor
open Go Go.Eng
theorem treeE_some {c : UInt32} (h : treeE c = 0) : ∃ x, treeOf c = some x ∧ treeV c = x := by
 unfold treeE at h
 unfold treeV
 cases e : treeOf c with
 | none => rw [e] at h; exact absurd h (by decide)
 | some x => exact ⟨x, rfl, rfl⟩
theorem treeT_facts (c : UInt32) : (∀ i, i < 20 → okC (treeT c i 5).kind (treeT c i 5).n ∧ 1 ≤ (treeT c i 5).h ∧ (treeT c i 5).h ≤ 25) ∧ (∀ i, i < 16 → okC (treeT c i 4).kind (treeT c i 4).n ∧ 1 ≤ (treeT c i 4).h ∧ (treeT c i 4).h ≤ 25) := by
 have h1 : ∀ i : Fin 20, okC (treeT 0 i.val 5).kind (treeT 0 i.val 5).n ∧ 1 ≤ (treeT 0 i.val 5).h ∧ (treeT 0 i.val 5).h ≤ 25 := by decide +kernel
 have h2 : ∀ i : Fin 16, okC (treeT 0 i.val 4).kind (treeT 0 i.val 4).n ∧ 1 ≤ (treeT 0 i.val 4).h ∧ (treeT 0 i.val 4).h ≤ 25 := by decide +kernel
 exact ⟨fun i hi => h1 ⟨i, hi⟩, fun i hi => h2 ⟨i, hi⟩⟩
theorem treeV_facts {c : UInt32} (h : treeE c = 0) : okC (treeV c).kind (treeV c).n ∧ 1 ≤ (treeV c).h ∧ (treeV c).h ≤ 25 := by
  obtain ⟨x, h1, h2⟩ := treeE_some h
  rw [h2]
  unfold treeOf at h1
  split at h1
  · obtain rfl := Option.some.inj h1; exact (treeT_facts c).1 _ (by omega)
  · split at h1
    · obtain rfl := Option.some.inj h1; exact (treeT_facts c).2 _ (by omega)
    · cases h1
theorem tree_eq {a b : TreeV} (h : (a.code.toNat : Int) = b.code.toNat ∧ a.kind = b.kind ∧ a.n = b.n ∧ a.h = b.h ∧ True) : a = b := by
 obtain ⟨h1, h2, h3, h4, _⟩ := h
 cases a; cases b
 simp only [TreeV.mk.injEq]
 exact ⟨UInt32.toNat_inj.1 (Int.ofNat_inj.1 h1), h2, h3, h4⟩
theorem eq_tree {a b : TreeV} (h : a = b) : (a.code.toNat : Int) = b.code.toNat ∧ a.kind = b.kind ∧ a.n = b.n ∧ a.h = b.h ∧ True := by
 subst h; exact ⟨rfl, rfl, rfl, rfl, trivial⟩
end Go.Proofs.YtiimjodbaogjbaaGreatDoor
set_option linter.unusedVariables false
set_option linter.unusedSimpArgs false
namespace Go.Proofs.YtiimjodbaogjbaaGreatDoor
open Go Go.Eng
def okS (t : TreeV) (nl : Nat) : Prop := treeE t.code = 0 ∧ treeV t.code = t ∧ nl = 16
instance {t : TreeV} {nl : Nat} : Decidable (okS t nl) := inferInstanceAs (Decidable (_ ∧ _))
def okM (t : TreeV) (nl kl : Nat) : Prop := okS t nl ∧ t.h ≤ 10 ∧ kl = leavesN t.h
instance {t : TreeV} {nl kl : Nat} : Decidable (okM t nl kl) := inferInstanceAs (Decidable (_ ∧ _))
theorem okS_facts {t : TreeV} {nl : Nat} (h : okS t nl) : okC t.kind t.n ∧ ∃ H : Nat, t.h = (H : Int) ∧ 1 ≤ H ∧ H ≤ 25 ∧ leavesN t.h = pw2 H := by
 have hf := treeV_facts h.1
 rw [h.2.1] at hf
 refine ⟨hf.1, t.h.toNat, by omega, by omega, by omega, by rw [leavesN, if_neg (by omega)]⟩
def leafB (t : TreeV) (name : List UInt8) (q : Nat) (key : List UInt8) : List UInt8 := cPart t.kind t.n name (pw2 t.h.toNat + q) 33410 key
def innB (t : TreeV) (name : List UInt8) (place : Nat) (text : List UInt8) : List UInt8 := cPart t.kind t.n name place 33667 text
theorem cSum_le (kind n : Int) (text : List UInt8) : (cSum kind n text).length ≤ 32 := by
  unfold cSum
  split
  · rename_i h
    rw [csum_length h _ (sha_length _)]
    rcases h.2 with h | h <;> subst h <;> decide
  · simp
theorem cPart_le (kind n : Int) (name : List UInt8) (q d : Nat) (text : List UInt8) : (cPart kind n name q d text).length ≤ 32 := by
  unfold cPart
  split
  · exact cSum_le _ _ _
  · simp
theorem innB_le (t : TreeV) (name : List UInt8) (q : Nat) (text : List UInt8) : (innB t name q text).length ≤ 32 := cPart_le _ _ _ _ _ _
theorem leafB_le (t : TreeV) (name : List UInt8) (q : Nat) (text : List UInt8) : (leafB t name q text).length ≤ 32 := cPart_le _ _ _ _ _ _
def short32 (row : List (List UInt8)) : Prop := ∀ b ∈ row, b.length ≤ 32
theorem short32.get {row : List (List UInt8)} (h : short32 row) (i : Nat) : (row.getD i []).length ≤ 32 := by
  by_cases hi : i < row.length
  · exact h _ (getD_mem _ _ _ hi)
  · rw [List.getD_eq_getElem?_getD, List.getElem?_eq_none (by omega)]; simp
end Go.Proofs.YtiimjodbaogjbaaGreatDoor
set_option linter.unusedVariables false
set_option linter.unusedSimpArgs false
set_option linter.constructorNameAsVariable false
namespace Go.Proofs.YtiimjodbaogjbaaGreatDoor
open Go Go.Eng
structure MrG (M : Mem) : Prop where
 sha : ShaG M
 kec : KecG M
 set : SetT M
theorem MrG.mono {M M' : Mem} (h : MrG M) (hle : Le M M') : MrG M' := ⟨h.sha.mono hle, h.kec.mono hle, h.set.mono hle⟩
theorem shl32_h {H : Nat} (h : H ≤ 25) : (shl32 1 H).toNat = pw2 H := by
 have h1 := pw2_25 h
 have h2 : pw2 H = 2 ^ H := rfl
 rw [shl32, UInt32.toNat_ofNat', show (1 : UInt32).toNat = 1 from rfl, Nat.one_mul, ← h2, Nat.mod_eq_of_lt (by omega)]
section
variable {G : World} {M : Mem} {L : Own}
theorem mright_spec (hg : MrG M) (t : TreeV) {NA : Option Addr} {nl nc : Nat} :
    Con Tryz.prog 183 #[.agg (List.toArray t.cells), .slice NA nl nc] G M L (fun v M' L' => L = L' ∧ v = .bool (decide (okS t nl))) noPanic := by
  refine enter (args := [_, _]) (fn := Tryz.f183) ⟨Tryz.func183, rfl, by kernel_rfl, by kernel_rfl⟩ 25 rfl <| zr <| tl_e rfl <| e_box rfl <| fun b1 => as0 rfl rfl <| zq <| zr <| tl_y rfl (y_fieldAddr rfl) <| tl_y rfl (y_ld rfl rfl) <| tl_e rfl <| e_call' rfl (Tree_spec hg.set t.code) ?_
  rintro _ M1 _ hM1 ⟨rfl, rfl⟩
  refine mvU rfl rfl <| zx rfl rfl <| zx rfl rfl <| tl_e rfl <| e_alloc <| fun b2 => tl_e rfl <| e_st rfl rfl (by rfl) (by rfl) <| asI rfl rfl <| zq <| .s4 1 2 5 6 rfl rfl rfl rfl <| x_join (I := fun F D M2 L2 => ∃ b : Bool, (b = true ↔ okS t nl) ∧ D = [] ∧ M1 = M2 ∧ DropTo L2 L ∧ F = [(4, .bool b)]) ?_ (fun Jq2 => ?_)
  ·
    rintro _ _ _ L2 ⟨b, hb, rfl, rfl, hdr, rfl⟩  -- slots [4]
    refine x_ret (.dropTo L hdr (ret1 rfl rfl hM1 ⟨rfl, by rw [bool_iff hb]⟩))
  ·
    refine x_region <| mvI rfl rfl <| tl_y rfl (y_eql rfl rfl) <| mvB rfl rfl <| tl_cases (s := 15) rfl (fun hk1 => ?_) (fun hk1 => ?_)
    ·
      refine tl_y rfl (y_lg rfl rfl) <| tl_y rfl (y_lg rfl rfl) <| tl_y rfl (y_eqlS rfl rfl eqs29) <| tl_y rfl (y_pickT rfl rfl) <| mvB rfl rfl <| tl_cases (s := 20) rfl (fun hk2 => ?_) (fun hk2 => ?_)
      ·
        refine mvS rfl rfl <| tl_y rfl (y_len rfl) <| tl_y rfl (y_eql rfl rfl) <| tl_y rfl (y_pickT rfl rfl) <| asB rfl rfl <| zq <| .sub (F' := [(4, _)]) (.cons rfl .nil) <| Jq2 _ _ _ _ ?_
        exact ⟨_, by
          constructor
          · intro ht
            first | (cases ht; done) | (simp at ht; exact ⟨hk1, tree_eq hk2, by omega⟩)
          · rintro ⟨a1, a2, a3⟩
            first | exact absurd a1 hk1 | exact absurd (eq_tree a2) hk2 | (simp; omega) | omega, rfl, rfl, inferInstance, rfl⟩
      ·
        refine tl_skip rfl <| tl_skip rfl <| tl_skip rfl <| tl_y rfl (y_pickF rfl rfl) <| asB rfl rfl <| zq <| .sub (F' := [(4, _)]) (.cons rfl .nil) <| Jq2 _ _ _ _ ?_
        exact ⟨_, by
          constructor
          · intro ht
            first | (cases ht; done) | (simp at ht; exact ⟨hk1, tree_eq hk2, by omega⟩)
          · rintro ⟨a1, a2, a3⟩
            first | exact absurd a1 hk1 | exact absurd (eq_tree a2) hk2 | (simp; omega) | omega, rfl, rfl, inferInstance, rfl⟩
    ·
      refine tl_skip rfl <| tl_skip rfl <| tl_skip rfl <| tl_y rfl (y_pickF rfl rfl) <| mvB rfl rfl <| tl_skip rfl <| tl_skip rfl <| tl_skip rfl <| tl_y rfl (y_pickF rfl rfl) <| asB rfl rfl ?_
      refine zq <| .sub (F' := [(4, _)]) (.cons rfl .nil) <| Jq2 _ _ _ _ ?_
      exact ⟨_, by
        constructor
        · intro ht
          first | (cases ht; done) | (simp at ht; exact ⟨hk1, tree_eq hk2, by omega⟩)
        · rintro ⟨a1, a2, a3⟩
          first | exact absurd a1 hk1 | exact absurd (eq_tree a2) hk2 | (simp; omega) | omega, rfl, rfl, inferInstance, rfl⟩
theorem leaf_spec (hg : MrG M) (t : TreeV) {H : Nat} (hH : t.h = (H : Int)) (hH5 : H ≤ 25) {NA : Option Addr} {nl nc : Nat} {name : List UInt8} (hname : Bytes M NA nl nc name) (q : UInt32) (hq : q.toNat < pw2 H) {A : Option Addr} {m c : Nat} {key : List UInt8} (h : Bytes M A m c key) (hm : m ≤ 1000000000000) :
  Con Tryz.prog 184 #[.agg (List.toArray t.cells), .slice NA nl nc, .int .u32 (q.toNat : Int), .slice A m c] G M L (fun v M' L' => L = L' ∧ ∃ A' m' c', v = .slice A' m' c' ∧ Bytes M' A' m' c' (leafB t name q.toNat key)) noPanic := by
 have hp := pw2_25 hH5
 have hms := h.size
 obtain ⟨x, hx⟩ : ∃ x : UInt32, x.toNat = pw2 H + q.toNat := ⟨UInt32.ofNat (pw2 H + q.toNat), by rw [UInt32.toNat_ofNat', Nat.mod_eq_of_lt (by omega)]⟩
 refine enter (args := [_, _, _, _]) (fn := Tryz.f184) ⟨Tryz.func184, rfl, by kernel_rfl, by kernel_rfl⟩ 22 rfl <| zr <| tl_e rfl <| e_box rfl <| fun b1 => as0 rfl rfl <| zq <| x_seq ?_
 have hd : Le M M := Le.refl _
 refine x_draw 14 hmix rfl <| zp 0 rfl rfl (y_fieldAddr rfl) <| zy 1 rfl rfl (y_ld rfl rfl) <| zp 2 rfl rfl (y_fieldAddr rfl) <| zy 3 rfl rfl (y_ld rfl rfl) <| zp 4 rfl rfl (y_move (v := .slice _ _ _) rfl) <| zp 5 rfl rfl (y_fieldAddr rfl) <| zy 6 rfl rfl (y_ld rfl rfl) ?_
 rw [hH]
 refine zp 7 rfl rfl (y_shl32 (a := 1) rfl rfl) ?_
 rw [show u32v (shl32 1 H) = .int .u32 ((pw2 H : Nat) : Int) from congrArg (fun (x : Nat) => Value.int .u32 (x : Int)) (shl32_h hH5)]
 refine zp 8 rfl rfl (y_move (v := .int _ _) rfl) <| zp 9 rfl rfl (y_addN32 rfl rfl (by omega)) ?_
 rw [show ((pw2 H : Nat) : Int) + (q.toNat : Int) = ((x.toNat : Nat) : Int) by rw [hx]; omega]
 refine zp 10 rfl rfl (y_move (v := .slice _ _ _) rfl) <| ze 11 rfl rfl <| e_buildSlice rfl (by decide) <| fun b2 => ⟨⟨hd, Keeps.mem⟩, ?_⟩
 refine .pub b2 inferInstance <| fun M1 hM1 hb2 => ?_
 replace hd := hd.trans hM1
 refine ze 12 rfl rfl <| e_call' rfl (Part_spec (hg.mono hd).sha (hg.mono hd).kec t.kind t.n (hname.mono hd) x 33410 (by omega) (Row.whole hb2 rfl (by omega)) (.cons (h.mono hd) .nil) (by simp; omega)) ?_
 rintro _ M2 _ hM2 ⟨rfl, A2, m2, c2, rfl, hA2⟩
 rw [hx, show [key].flatten = key by simp] at hA2
 replace hd := hd.trans hM2
 refine ⟨⟨(by first | exact Le.refl _ | assumption), Keeps.mem⟩, ?_⟩
 refine zp 13 rfl rfl (y_assign (v := .slice _ _ _) rfl) <| zz <| .then_normal <| .s1 8 rfl <| x_ret (.dropTo L inferInstance (ret1 rfl rfl hd ⟨rfl, _, _, _, rfl, by rw [leafB, hH, Int.toNat_natCast]; exact hA2⟩))
theorem inner_spec (hg : MrG M) (t : TreeV) {NA : Option Addr} {nl nc : Nat} {name : List UInt8} (hname : Bytes M NA nl nc name) (q : UInt32) {A B : Option Addr} {m c m2 c2 : Nat} {x y : List UInt8} (h : Bytes M A m c x) (hm : m ≤ 100000000000) (h2 : Bytes M B m2 c2 y) (hm2 : m2 ≤ 100000000000) :
  Con Tryz.prog 186 #[.agg (List.toArray t.cells), .slice NA nl nc, .int .u32 (q.toNat : Int), .slice A m c, .slice B m2 c2] G M L (fun v M' L' => L = L' ∧ ∃ A' m' c', v = .slice A' m' c' ∧ Bytes M' A' m' c' (innB t name q.toNat (x ++ y))) noPanic := by
 have hms := h.size
 have hms2 := h2.size
 refine enter (args := [_, _, _, _, _]) (fn := Tryz.f186) ⟨Tryz.func186, rfl, by kernel_rfl, by kernel_rfl⟩ 21 rfl <| zr <| tl_e rfl <| e_box rfl <| fun b1 => as0 rfl rfl <| zq <| zr <| tl_y rfl (y_fieldAddr rfl) <| tl_y rfl (y_ld rfl rfl) <| tl_y rfl (y_fieldAddr rfl) <| tl_y rfl (y_ld rfl rfl) ?_
 refine mvS rfl rfl <| mvI rfl rfl <| mvS rfl rfl <| mvS rfl rfl <| tl_e rfl <| e_buildSlice rfl (by decide) <| fun b2 => .pub b2 inferInstance <| fun M1 hd hb2 => tl_e rfl <| e_call' rfl (Part_spec (hg.mono hd).sha (hg.mono hd).kec t.kind t.n (hname.mono hd) q 33667 (by omega) (Row.whole hb2 rfl (by omega)) (.cons (h.mono hd) (.cons (h2.mono hd) .nil)) (by simp; omega)) ?_
 rintro _ M2 _ hM2 ⟨rfl, A2, m3, c3, rfl, hA2⟩
 rw [show [x, y].flatten = x ++ y by simp] at hA2
 refine asS rfl rfl <| zq <| .s1 10 rfl <| x_ret (.dropTo L inferInstance (ret1 rfl rfl (hd.trans hM2) ⟨rfl, _, _, _, rfl, hA2⟩))
end
end Go.Proofs.YtiimjodbaogjbaaGreatDoor
set_option linter.unusedVariables false
set_option linter.unusedSimpArgs false
set_option linter.constructorNameAsVariable false
namespace Go.Proofs.YtiimjodbaogjbaaGreatDoor
open Go Go.Eng
def RowsAt (M : Mem) (ws : List Value) (f : Nat → List (List UInt8)) : Prop := ∀ h, h < ws.length → ∃ A n c vs, ws[h]? = some (.slice A n c) ∧ Row M 1 A n c vs ∧ BRows M vs (f h)
theorem RowsAt.mono {M M' : Mem} {ws : List Value} {f : Nat → List (List UInt8)} (h : RowsAt M ws f) (hle : Le M M') : RowsAt M' ws f := fun i hi =>
 let ⟨A, n, c, vs, h1, h2, h3⟩ := h i hi
 ⟨A, n, c, vs, h1, h2.mono hle, h3.mono hle⟩
theorem RowsAt.snoc {M : Mem} {ws : List Value} {f : Nat → List (List UInt8)} (h : RowsAt M ws f) {A : Option Addr} {n c : Nat} {vs : List Value} (h2 : Row M 1 A n c vs) (h3 : BRows M vs (f ws.length)) : RowsAt M (ws ++ [.slice A n c]) f := fun i hi => by
  rw [List.length_append, List.length_singleton] at hi
  by_cases hlt : i < ws.length
  · obtain ⟨A', n', c', vs', h4, h5, h6⟩ := h i hlt
    exact ⟨A', n', c', vs', by rw [List.getElem?_append_left hlt]; exact h4, h5, h6⟩
  · obtain rfl : i = ws.length := by omega
    exact ⟨A, n, c, vs, by rw [List.getElem?_append_right (Nat.le_refl _), Nat.sub_self]; rfl, h2, h3⟩
section
variable {G : World} {M : Mem} {L : Own}
end
end Go.Proofs.YtiimjodbaogjbaaGreatDoor
set_option linter.unusedVariables false
set_option linter.unusedSimpArgs false
set_option linter.constructorNameAsVariable false
namespace Go.Proofs.YtiimjodbaogjbaaGreatDoor
open Go Go.Eng
def clX (t : TreeV) (name : List UInt8) (way : List (List UInt8)) (p : Nat) (x : List UInt8) : Nat → List UInt8
 | 0 => x
 | k + 1 => innB t name (p / pw2 (k + 1)) (if p / pw2 k % 2 = 1 then way.getD k [] ++ clX t name way p x k else clX t name way p x k ++ way.getD k [])
theorem clX_le (t : TreeV) (name : List UInt8) (way : List (List UInt8)) (p : Nat) {x : List UInt8} (hx : x.length ≤ 32) : ∀ k, (clX t name way p x k).length ≤ 32
 | 0 => hx
 | k + 1 => innB_le _ _ _ _
def okW (t : TreeV) (nl q : Nat) (way : List (List UInt8)) : Prop := okS t nl ∧ q < leavesN t.h ∧ (way.length : Int) = t.h ∧ ∀ b ∈ way, (b.length : Int) = t.n
instance {t : TreeV} {nl q : Nat} {way : List (List UInt8)} : Decidable (okW t nl q way) := inferInstanceAs (Decidable (_ ∧ _))
def climbB (t : TreeV) (name : List UInt8) (q : Nat) (key : List UInt8) (way : List (List UInt8)) : List UInt8 :=
 if okW t name.length q way then clX t name way (pw2 t.h.toNat + q) (leafB t name q key) way.length else []
def climbE (t : TreeV) (nl q : Nat) (way : List (List UInt8)) : Int := if okW t nl q way then 0 else 1
def anyBad (n : Int) (way : List (List UInt8)) : Bool := way.any fun b => decide ((b.length : Int) ≠ n)
theorem anyBad_iff {n : Int} {way : List (List UInt8)} : anyBad n way = false ↔ ∀ b ∈ way, (b.length : Int) = n := by
 unfold anyBad
 rw [List.any_eq_false]
 simp
theorem div_pw2 (p k : Nat) : p / pw2 k / 2 = p / pw2 (k + 1) := by rw [Nat.div_div_eq_div_mul, pw2, pw2, Nat.pow_succ]
section
variable {G : World} {M : Mem} {L : Own}
theorem climb1_spec (t : TreeV) {b1 : Nat} [hb : Has L b1 (.cells (List.toArray t.cells) 29 (0, 0))] {A : Option Addr} {n c : Nat} :
  Con Tryz.prog 206 #[.slice A n c, .pointer (some ⟨b1, 0, none⟩)] G M L (fun v M' L' => M = M' ∧ L = L' ∧ v = .bool (decide ((n : Int) ≠ t.n))) noPanic := by
 refine enter (args := [_, _]) (fn := Tryz.f206) ⟨Tryz.func206, rfl, by kernel_rfl, by kernel_rfl⟩ 9 rfl <| zr <| as0 rfl rfl <| zq <| zr <| mvS rfl rfl <| tl_y rfl (y_len rfl) <| tl_y rfl (y_fieldAddr rfl) <| tl_y rfl (y_ld rfl rfl) <| tl_y rfl (y_neq rfl rfl) ?_
 refine asB rfl rfl <| zq <| .s1 3 rfl <| x_ret (ret1 rfl rfl (Le.refl _) ⟨rfl, rfl, rfl⟩)
theorem indexFuncM_spec (t : TreeV) {b1 : Nat} [hb : Has L b1 (.cells (List.toArray t.cells) 29 (0, 0))] {A : Option Addr} {n c : Nat} {vs : List Value} {way : List (List UInt8)} (h : Row M 1 A n c vs) (hw : BRows M vs way) :
    Con Tryz.prog 224 #[.slice A n c, .func (.func 206) (List.toArray []) (List.toArray [.pointer (some ⟨b1, 0, none⟩)])] G M L (fun v M' L' => M = M' ∧ L = L' ∧ ∃ r : Int, v = .int .i64 r ∧ (0 ≤ r ↔ anyBad t.n way = true)) noPanic := by
  have hmx := h.max
  have hle := h.le
  have hvl := hw.len
  have hnl : vs.length = n := by have := h.len; omega
  refine enter (args := [_, _]) (fn := Tryz.f224) ⟨Tryz.func224, rfl, by kernel_rfl, by kernel_rfl⟩ 19 rfl <| zr <| as0 rfl rfl <| zq <| zr2 <| mvS rfl rfl <| tl_y rfl (y_len rfl) <| mv0 rfl rfl <| zq <| x_block ?_
  refine x_loop (I := fun m' F D M1 L1 => ∃ k : Nat, m' = n - k ∧ k ≤ n ∧ anyBad t.n (way.take k) = false ∧ D = [] ∧ M = M1 ∧ L = L1 ∧ F = [(0, .slice A n c), (1, .func (.func 206) (List.toArray []) (List.toArray [.pointer (some ⟨b1, 0, none⟩)])), (4, .int .i64 0), (7, .int .i64 n), (8, .int .i64 k)]) (n) (F0 := [(0, _), (1, _), (4, _), (7, _), (8, _)]) ?_ (.cons rfl (.cons rfl (.cons rfl (.cons rfl (.cons rfl .nil))))) ?_  -- slots [0, 1, 4, 7, 8], written [4, 8]
  · exact ⟨0, rfl, by omega, rfl, rfl, rfl, rfl, rfl⟩
  rintro m _ _ M1 L1 ⟨k, rfl, hk, hb0, rfl, rfl, rfl, rfl⟩
  refine zr <| tl_y rfl (y_lss rfl rfl) <| zq <| x_seq <| x_cond rfl (fun hc1 => ?_) (fun hc1 => ?_)
  ·
    have hkn : k < n := by omega
    obtain ⟨g, o, rfl, hca⟩ := h.addr (by omega)
    obtain ⟨A2, n2, c2, hv2, hb2⟩ := hw.get k (by omega)
    have hn2 := hb2.size
    refine x_skip <| .then_normal <| x_seq <| x_block <| zr <| mvI rfl rfl <| asI rfl rfl <| zq <| zr <| mvF rfl rfl <| mvS rfl rfl ?_
    refine mvI rfl rfl <| tl_y rfl (y_indexAddr rfl rfl (by omega)) <| tl_y rfl (y_load rfl rfl (.at_ (hca _ k _ hv2) (by omega))) <| tl_e rfl <| e_callv rfl rfl (climb1_spec t) (fun _ _ _ _ h => h.elim) ?_
    rintro _ _ _ _ ⟨rfl, rfl, rfl⟩
    refine zq <| .s7 0 1 4 5 7 8 16 rfl rfl rfl rfl rfl rfl rfl <| x_cond rfl (fun hc2 => ?_) (fun hc2 => ?_)
    ·
      refine zr <| mvI rfl rfl <| asI rfl rfl <| zq <| x_ret (.block_ret (.then_ret (.loop_ret (.block_ret (.then_ret (ret1 rfl rfl (Le.refl _) ⟨rfl, rfl, _, rfl, iff_of_true (by omega) (by
        unfold anyBad
        rw [List.any_eq_true]
        exact ⟨_, getD_mem way k [] (by omega), decide_eq_true (by omega)⟩)⟩))))))
    ·
      refine x_skip <| .block_normal <| .then_normal <| x_region <| tl_y rfl (y_addI rfl rfl (by omega)) <| mvI rfl rfl <| tl_nil <| .loop_next (m' := n - (k + 1)) (by omega) (F' := [(0, _), (1, _), (4, _), (7, _), (8, _)]) (.cons rfl (.cons rfl (.cons rfl (.cons rfl (.cons rfl .nil))))) ?_
      exact ⟨k + 1, rfl, by omega, by
        rw [take_snoc way k [] (by omega)]
        rw [anyBad_iff] at hb0 ⊢
        intro b hb
        rcases List.mem_append.1 hb with hb | hb
        · exact hb0 b hb
        · obtain rfl := List.mem_singleton.1 hb
          omega, rfl, rfl, rfl, rfl⟩
  ·
    refine x_exit <| .then_exit <| .loop_exit <| .block_exit <| .then_normal <| .s0 <| zr <| as0 rfl rfl <| zq <| x_ret (ret1 rfl rfl (Le.refl _) ⟨rfl, rfl, _, rfl, iff_of_false (by omega) (by
      rw [List.take_of_length_le (by omega)] at hb0
      rw [hb0]; simp)⟩)
theorem Climb_spec (hg : MrG M) (t : TreeV) {NA : Option Addr} {nl nc : Nat} {name : List UInt8} (hname : Bytes M NA nl nc name) (q : UInt32) {KA : Option Addr} {kl kc : Nat} {key : List UInt8} (hkey : Bytes M KA kl kc key) (hkl : kl ≤ 1000000000000) {WA : Option Addr} {wl wc : Nat} {wvs : List Value} {way : List (List UInt8)} (h : Row M 1 WA wl wc wvs) (hw : BRows M wvs way) :
    Con Tryz.prog 159 #[.agg (List.toArray t.cells), .slice NA nl nc, .int .u32 (q.toNat : Int), .slice KA kl kc, .slice WA wl wc] G M L (fun v M' L' => L = L' ∧ ∃ A' m' c', v = .tuple #[.slice A' m' c', .int .i64 (climbE t nl q.toNat way)] ∧ Bytes M' A' m' c' (climbB t name q.toNat key way)) noPanic := by
  have hmx := h.max
  have hle := h.le
  have hvl := hw.len
  have hwn : wvs.length = wl := by have := h.len; omega
  have hnl := hname.size
  have hqq := q.toNat_lt
  have hcf : ∀ b1 : Nat, Con Tryz.prog 205 #[.slice WA wl wc, .func (.func 206) (List.toArray []) (List.toArray [.pointer (some ⟨b1, 0, none⟩)])] G M ((b1, .cells (List.toArray t.cells) 29 (0, 0)) :: L) (fun v M' L' => M = M' ∧ (b1, .cells (List.toArray t.cells) 29 (0, 0)) :: L = L' ∧ v = .bool (anyBad t.n way)) noPanic := by
    intro b1
    refine enter (args := [_, _]) (fn := Tryz.f205) ⟨Tryz.func205, rfl, by kernel_rfl, by kernel_rfl⟩ 9 rfl <| zr <| as0 rfl rfl <| zq <| zr <| mvS rfl rfl <| mvF rfl rfl <| tl_e rfl <| e_call' rfl (indexFuncM_spec t h hw) ?_
    rintro _ _ _ _ ⟨rfl, rfl, r, rfl, hr⟩
    refine tl_y rfl (y_geq rfl rfl) <| asB rfl rfl <| zq <| .s1 4 rfl <| x_ret (ret1 rfl rfl (Le.refl _) ⟨rfl, rfl, by
      congr 1
      rw [Bool.eq_iff_iff, decide_eq_true_iff]
      exact hr⟩)
  have hno : ∀ {A' : Option Addr} {m' c' : Nat} {M' : Mem}, ¬ okW t nl q.toNat way → ∃ A' m' c', (Value.tuple #[.slice none 0 0, .int .i64 1]) = .tuple #[.slice A' m' c', .int .i64 (climbE t nl q.toNat way)] ∧ Bytes M' A' m' c' (climbB t name q.toNat key way) := by
    intro _ _ _ M' hn
    rw [climbE, if_neg hn, climbB, if_neg (by rw [hnl]; exact hn)]
    exact ⟨_, _, _, rfl, Row.nil _ _⟩
  refine enter (args := [_, _, _, _, _]) (fn := Tryz.f159) ⟨Tryz.func159, rfl, by kernel_rfl, by kernel_rfl⟩ 80 rfl <| zr <| tl_e rfl <| e_box rfl <| fun b1 => as0 rfl rfl <| as0 rfl rfl <| zq <| zr <| mvS rfl rfl <| tl_y rfl (y_makeFunc rfl rfl) <| tl_e rfl <| e_call' rfl (hcf b1) ?_
  rintro _ _ _ _ ⟨rfl, rfl, rfl⟩
  refine asB rfl rfl <| zq <| .s6 1 2 3 4 5 12 rfl rfl rfl rfl rfl rfl <| zr2 <| tl_y rfl (y_lg rfl rfl) <| mvS rfl rfl <| tl_e rfl <| e_call' rfl (mright_spec hg t) ?_
  rintro _ M1 _ hM1 ⟨rfl, rfl⟩
  refine tl_y rfl (y_notd rfl) <| mvB rfl rfl <| tl_cases (s := 25) rfl (fun hk1 => ?_) (fun hk1 => ?_)
  ·
    refine tl_skip rfl <| tl_skip rfl <| tl_skip rfl <| tl_skip rfl <| tl_skip rfl <| tl_y rfl (y_pickT rfl rfl) <| mvB rfl rfl <| tl_skip rfl <| tl_skip rfl <| tl_skip rfl ?_
    refine tl_skip rfl <| tl_skip rfl <| tl_y rfl (y_pickT rfl rfl) <| mvB rfl rfl <| tl_skip rfl <| tl_y rfl (y_pickT rfl rfl) <| zq <| .s6 1 2 3 4 5 41 rfl rfl rfl rfl rfl rfl <| x_true rfl rfl <| zr ?_
    refine as0 rfl rfl <| as0 rfl rfl <| zq <| .s2 10 11 rfl rfl <| x_ret (.then_ret (.dropTo L inferInstance (ret2 rfl rfl rfl hM1 ⟨rfl, hno (A' := none) (m' := 0) (c' := 0) (fun h => hk1 h.1)⟩)))
  ·
    have hok : okS t nl := Classical.not_not.1 hk1
    obtain ⟨hokc, H, hH, hH1, hH25, hlv⟩ := okS_facts hok
    have hpw := pw2_25 hH25
    refine mvI rfl rfl <| tl_y rfl (y_convN64 rfl (by omega)) <| tl_y rfl (y_lg rfl rfl) <| tl_e rfl <| e_call' rfl (Leaves_spec t) ?_
    rintro _ _ _ _ ⟨rfl, rfl, rfl⟩
    rw [hlv]
    refine tl_y rfl (y_geq rfl rfl) <| tl_y rfl (y_pickF rfl rfl) <| mvB rfl rfl <| tl_cases (s := 32) rfl (fun hk2 => ?_) (fun hk2 => ?_)
    ·
      refine tl_skip rfl <| tl_skip rfl <| tl_skip rfl <| tl_skip rfl <| tl_skip rfl <| tl_y rfl (y_pickT rfl rfl) <| mvB rfl rfl <| tl_skip rfl <| tl_y rfl (y_pickT rfl rfl) <| zq ?_
      refine .s6 1 2 3 4 5 41 rfl rfl rfl rfl rfl rfl <| x_true rfl rfl <| zr <| as0 rfl rfl <| as0 rfl rfl <| zq <| .s2 10 11 rfl rfl <| x_ret (.then_ret (.dropTo L inferInstance (ret2 rfl rfl rfl hM1 ⟨rfl, hno (A' := none) (m' := 0) (c' := 0) (fun h => by have := h.2.1; omega)⟩)))
    ·
      refine mvS rfl rfl <| tl_y rfl (y_len rfl) <| tl_y rfl (y_fieldAddr rfl) <| tl_y rfl (y_ld rfl rfl) <| tl_y rfl (y_neq rfl rfl) <| tl_y rfl (y_pickF rfl rfl) <| mvB rfl rfl <| tl_cases (s := 39) rfl (fun hk3 => ?_) (fun hk3 => ?_)
      ·
        refine tl_skip rfl <| tl_y rfl (y_pickT rfl rfl) <| zq <| .s6 1 2 3 4 5 41 rfl rfl rfl rfl rfl rfl <| x_true rfl rfl <| zr <| as0 rfl rfl <| as0 rfl rfl <| zq <| .s2 10 11 rfl rfl ?_
        refine x_ret (.then_ret (.dropTo L inferInstance (ret2 rfl rfl rfl hM1 ⟨rfl, hno (A' := none) (m' := 0) (c' := 0) (fun h => by have := h.2.2.1; omega)⟩)))
      ·
        refine mvB rfl rfl <| tl_y rfl (y_pickF rfl rfl) <| zq <| .s6 1 2 3 4 5 41 rfl rfl rfl rfl rfl rfl <| x_condb rfl (fun hc1 => ?_) (fun hc1 => ?_)
        ·
          refine zr <| as0 rfl rfl <| as0 rfl rfl <| zq <| .s2 10 11 rfl rfl <| x_ret (.then_ret (.dropTo L inferInstance (ret2 rfl rfl rfl hM1 ⟨rfl, hno (A' := none) (m' := 0) (c' := 0) (fun h => by rw [anyBad_iff.2 h.2.2.2] at hc1; cases hc1)⟩)))
        ·
          have hokW : okW t nl q.toNat way := ⟨hok, by omega, by omega, anyBad_iff.1 (by simpa using hc1)⟩
          have hq : q.toNat < pw2 H := by omega
          have hwl : wl = H := by omega
          obtain ⟨p, hp⟩ : ∃ p, p = pw2 H + q.toNat := ⟨_, rfl⟩
          refine x_skip <| .then_normal <| x_seq <| x_draw 12 hmix rfl <| zy 0 rfl rfl (y_lg rfl rfl) <| zp 1 rfl rfl (y_move (v := .slice _ _ _) rfl) <| zp 2 rfl rfl (y_move (v := .int _ _) rfl) <| zp 3 rfl rfl (y_move (v := .slice _ _ _) rfl) <| zp 5 rfl rfl (y_fieldAddr rfl) <| zy 6 rfl rfl (y_load (v := .int .i64 ((H : Nat) : Int)) rfl rfl (by rw [← hH]; exact .own inferInstance inferInstance)) <| zp 7 rfl rfl (y_shl32 (a := 1) rfl rfl) ?_
          rw [show u32v (shl32 1 H) = .int .u32 ((pw2 H : Nat) : Int) from congrArg (fun (x : Nat) => Value.int .u32 (x : Int)) (shl32_h hH25)]
          refine zp 8 rfl rfl (y_move (v := .int _ _) rfl) <| zp 9 rfl rfl (y_addN32 rfl rfl (by omega)) ?_
          rw [show ((pw2 H : Nat) : Int) + (q.toNat : Int) = ((p / pw2 0 : Nat) : Int) by rw [show pw2 0 = 1 from rfl, Nat.div_one, hp]; omega]
          refine ze 4 rfl rfl <| e_call' rfl (leaf_spec (hg.mono hM1) t hH hH25 (hname.mono hM1) q hq (hkey.mono hM1) hkl) ?_
          rintro _ M2 _ hM2 ⟨rfl, A2, n2, c2, rfl, hA2⟩
          refine ⟨⟨hM2, Keeps.mem⟩, ?_⟩
          refine zp 10 rfl rfl (y_assign (v := .slice _ _ _) rfl) <| zp 11 rfl rfl (y_assign (v := .int _ _) rfl) <| zz <| .then_normal <| .s5 1 4 5 13 14 rfl rfl rfl rfl rfl <| zr2 <| mvS rfl rfl <| tl_y rfl (y_len rfl) <| mv0 rfl rfl <| zq <| x_block ?_
          refine x_loop (I := fun m' F D M3 L3 => ∃ (k : Nat) (A3 : Option Addr) (n3 c3 : Nat), m' = wl - k ∧ k ≤ wl ∧ Le M2 M3 ∧ Bytes M3 A3 n3 c3 (clX t name way p (leafB t name q.toNat key) k) ∧ D = [] ∧ (b1, .cells (List.toArray t.cells) 29 (0, 0)) :: L = L3 ∧ F = [(1, .slice NA nl nc), (5, .pointer (some ⟨b1, 0, none⟩)), (13, .slice A3 n3 c3), (14, .int .u32 ((p / pw2 k : Nat) : Int)), (52, .slice WA wl wc), (53, .int .i64 wl), (54, .int .i64 k)]) (wl) (F0 := [(1, _), (5, _), (13, _), (14, _), (52, _), (53, _), (54, _)]) ?_ (.cons rfl (.cons rfl (.cons rfl (.cons rfl (.cons rfl (.cons rfl (.cons rfl .nil))))))) ?_  -- slots [1, 5, 13, 14, 52, 53, 54], written [13, 14, 54]
          · exact ⟨0, A2, n2, c2, rfl, by omega, Le.refl _, hA2, rfl, rfl, rfl⟩
          rintro m _ _ M3 _ ⟨k, A3, n3, c3, rfl, hkk, he, hA3, rfl, rfl, rfl⟩
          refine zr <| tl_y rfl (y_lss rfl rfl) <| zq <| x_seq <| x_cond rfl (fun hc2 => ?_) (fun hc2 => ?_)
          ·
            have hkw : k < wl := by omega
            have hd3 := hM1.trans (hM2.trans he)
            obtain ⟨g, o, rfl, hcell⟩ := (h.mono hd3).addr (by omega)
            obtain ⟨A4, n4, c4, hv4, hb4⟩ := hw.get k (by omega)
            have hn4 := hb4.size
            have hn4' := hokW.2.2.2 _ (getD_mem way k [] (by omega))
            have hn3 := hA3.size
            have hn3' := clX_le t name way p (leafB_le t name q.toNat key) k
            have hbig : t.n ≤ 32 := by rcases hokc.2 with h | h <;> omega
            have hdl := Nat.div_le_self p (pw2 (k + 1))
            obtain ⟨y, hy⟩ : ∃ y : UInt32, y.toNat = p / pw2 (k + 1) := ⟨UInt32.ofNat (p / pw2 (k + 1)), by rw [UInt32.toNat_ofNat', Nat.mod_eq_of_lt (by omega)]⟩
            obtain ⟨z, hz⟩ : ∃ z, z = p / pw2 k := ⟨_, rfl⟩
            have hyz : y.toNat = z / 2 := by rw [hy, hz, div_pw2]
            have hzl : z ≤ p := by rw [hz]; exact Nat.div_le_self _ _
            clear hdl
            rw [← hz]
            refine x_skip <| .then_normal <| x_seq <| x_block <| zr <| tl_y rfl (y_indexAddr rfl rfl (by omega)) <| tl_y rfl (y_load rfl rfl (.at_ (hcell _ k _ hv4) (by omega))) <| asS rfl rfl <| zq <| zr <| mvS rfl rfl ?_
            refine mvS rfl rfl <| tl_y rfl (y_buildArr rfl) <| tl_e rfl <| e_alloc <| fun b2 => tl_e rfl <| e_st rfl rfl (by rfl) (by rfl) <| zq <| .sub (F' := [(1, _), (5, _), (13, _), (14, _), (16, _), (17, _), (52, _), (53, _), (54, _)]) (.cons rfl (.cons rfl (.cons rfl (.cons rfl (.cons rfl (.cons rfl (.cons rfl (.cons rfl (.cons rfl .nil))))))))) <| zr2 <| mvI rfl rfl <| tl_y rfl (y_remI rfl rfl (by omega)) <| tl_y rfl (y_eql rfl rfl) ?_
            refine zq <| x_cond rfl (fun hc3 => ?_) (fun hc3 => ?_)
            ·
              refine x_region <| mvS rfl rfl <| mvS rfl rfl <| tl_y rfl (y_buildArr rfl) <| tl_e rfl <| e_st rfl rfl (by rfl) (by rfl) <| zq <| .s8 1 5 13 14 17 52 53 54 rfl rfl rfl rfl rfl rfl rfl rfl <| zr <| mvI rfl rfl <| tl_y rfl (y_quoN32 rfl rfl (by omega)) ?_
              rw [show ((z : Nat) : Int) / 2 = ((y.toNat : Nat) : Int) by rw [hyz]; omega]
              refine asI rfl rfl <| zq <| x_region <| tl_y rfl (y_lg rfl rfl) <| mvS rfl rfl <| mvI rfl rfl <| tl_y rfl (y_indexArrK 0 rfl rfl (by omega)) <| tl_y rfl (y_ld rfl rfl) <| tl_y rfl (y_indexArrK 1 rfl rfl (by omega)) <| tl_y rfl (y_ld rfl rfl) ?_
              refine tl_e rfl <| e_call' rfl (inner_spec (hg.mono hd3) t (hname.mono hd3) y (hb4.mono hd3) (by omega) hA3 (by omega)) ?_
              rintro _ M5 _ hM5 ⟨rfl, A5, n5, c5, rfl, hA5⟩
              rw [hy] at hA5 ⊢
              refine asS rfl rfl <| tl_nil <| .block_normal <| .then_normal <| .s7 1 5 13 14 52 53 54 rfl rfl rfl rfl rfl rfl rfl <| x_region <| tl_y rfl (y_addI rfl rfl (by omega)) <| mvI rfl rfl <| .dropTo ((b1, .cells (List.toArray t.cells) 29 (0, 0)) :: L) inferInstance <| tl_nil <| .loop_next (m' := wl - (k + 1)) (by omega) (F' := [(1, _), (5, _), (13, _), (14, _), (52, _), (53, _), (54, _)]) (.cons rfl (.cons rfl (.cons rfl (.cons rfl (.cons rfl (.cons rfl (.cons rfl .nil))))))) ?_
              exact ⟨k + 1, A5, n5, c5, rfl, by omega, he.trans hM5, by rw [clX, ← hz, if_pos (by omega)]; exact hA5, rfl, rfl, rfl⟩
            ·
              refine x_skip <| .then_normal <| .s8 1 5 13 14 17 52 53 54 rfl rfl rfl rfl rfl rfl rfl rfl <| zr <| mvI rfl rfl <| tl_y rfl (y_quoN32 rfl rfl (by omega)) ?_
              rw [show ((z : Nat) : Int) / 2 = ((y.toNat : Nat) : Int) by rw [hyz]; omega]
              refine asI rfl rfl <| zq <| x_region <| tl_y rfl (y_lg rfl rfl) <| mvS rfl rfl <| mvI rfl rfl <| tl_y rfl (y_indexArrK 0 rfl rfl (by omega)) <| tl_y rfl (y_ld rfl rfl) <| tl_y rfl (y_indexArrK 1 rfl rfl (by omega)) <| tl_y rfl (y_ld rfl rfl) ?_
              refine tl_e rfl <| e_call' rfl (inner_spec (hg.mono hd3) t (hname.mono hd3) y hA3 (by omega) (hb4.mono hd3) (by omega)) ?_
              rintro _ M5 _ hM5 ⟨rfl, A5, n5, c5, rfl, hA5⟩
              rw [hy] at hA5 ⊢
              refine asS rfl rfl <| tl_nil <| .block_normal <| .then_normal <| .s7 1 5 13 14 52 53 54 rfl rfl rfl rfl rfl rfl rfl <| x_region <| tl_y rfl (y_addI rfl rfl (by omega)) <| mvI rfl rfl <| .dropTo ((b1, .cells (List.toArray t.cells) 29 (0, 0)) :: L) inferInstance <| tl_nil <| .loop_next (m' := wl - (k + 1)) (by omega) (F' := [(1, _), (5, _), (13, _), (14, _), (52, _), (53, _), (54, _)]) (.cons rfl (.cons rfl (.cons rfl (.cons rfl (.cons rfl (.cons rfl (.cons rfl .nil))))))) ?_
              exact ⟨k + 1, A5, n5, c5, rfl, by omega, he.trans hM5, by rw [clX, ← hz, if_neg (by omega)]; exact hA5, rfl, rfl, rfl⟩
          ·
            obtain rfl : k = wl := by omega
            have hn3 := hA3.size
            have hn3' := clX_le t name way p (leafB_le t name q.toNat key) k
            refine x_exit <| .then_exit <| .loop_exit <| .block_exit <| .then_normal <| .s1 13 rfl <| zr <| mvS rfl rfl <| tl_e rfl <| e_call' rfl (bytesClone_spec hA3 (by omega)) ?_
            rintro _ M4 _ hM4 ⟨rfl, A4, c4, rfl, hA4⟩
            refine asS rfl rfl <| as0 rfl rfl <| zq <| x_ret (.dropTo L inferInstance (ret2 rfl rfl rfl (hM1.trans (hM2.trans (he.trans hM4))) ⟨rfl, _, _, _, by rw [climbE, if_pos hokW], by
              rw [climbB, if_pos (by rw [hnl]; exact hokW), hH, Int.toNat_natCast, ← hp, show way.length = k by omega]
              exact hA4⟩))
end
end Go.Proofs.YtiimjodbaogjbaaGreatDoor
