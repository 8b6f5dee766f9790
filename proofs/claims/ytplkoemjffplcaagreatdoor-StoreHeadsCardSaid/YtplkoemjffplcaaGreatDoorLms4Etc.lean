/-
Contracts of functions, each proved by a walk through its code.
-/
import Derived.Test.YtplkoemjffplcaaGreatDoorSlotsLawEtc
import Derived.Test.YtplkoemjffplcaaGreatDoorEngWEtc
import Derived.Test.YtplkoemjffplcaaGreatDoorRef13Etc
set_option linter.all false
namespace Go.Proofs.YtplkoemjffplcaaGreatDoor
open Go Go.Eng
structure SlV where
 a : Option Addr
 n : Nat
 c : Nat
abbrev SlV.v (x : SlV) : Value := .slice x.a x.n x.c
section
variable {G : World} {M : Mem} {L : Own}
theorem caughtTk1_ret {b c : Nat} {x : Int} {cs : List Value} : ConD Tryz.prog 256 #[.pointer (some ⟨b, 0, none⟩), .pointer (some ⟨c, 0, none⟩)] .returning G M ((c, .cells #[.int .i64 x] 25 (0, 0)) :: (b, .cells (List.toArray cs) 295 (0, 0)) :: L) (fun u' M' L' => u' = .returning ∧ M' = M ∧ L' = (c, .cells #[.int .i64 x] 25 (0, 0)) :: (b, .cells cs.toArray 295 (0, 0)) :: L) := by
 refine enterRec (args := [_, _]) (fn := Tryz.f256) ⟨Tryz.func256, rfl, by kernel_rfl, by kernel_rfl⟩ 15 rfl rfl <| x_block <| zr <| tl_y rfl (y_eqNilIface rfl rfl) <| zq <| x_true rfl (rfl) <| x_region <| as0 rfl <| tl_nil (.block_normal (.rec_normal lR ⟨rfl, rfl, rfl⟩))
theorem caughtTk1_wrong {b c : Nat} {x e : Int} : ConD Tryz.prog 256 #[.pointer (some ⟨b, 0, none⟩), .pointer (some ⟨c, 0, none⟩)] (.panicking (lwrong e)) G M ((c, .cells #[.int .i64 x] 25 (0, 0)) :: (b, .cells #[.slice none 0 0, .slice none 0 0] 295 (0, 0)) :: L)
  (fun u' M' L' => u' = .panicking [{ v := lwrongv e, recovered := true }] ∧ M' = M ∧ L' = (c, .cells #[.int .i64 e] 25 (0, 0)) :: (b, .cells #[.slice none 0 0, .slice none 0 0] 295 (0, 0)) :: L) := by
 refine enterRec (args := [_, _]) (fn := Tryz.f256) ⟨Tryz.func256, rfl, by kernel_rfl, by kernel_rfl⟩ 15 rfl rfl <| x_block <| zr <| tl_y rfl (y_eqIfaceNil rfl rfl) <| zq <| x_false rfl (rfl) <| zr <| tl_y rfl (y_assertOk rfl (by intro _ h; cases h)) <| zx rfl <| zx rfl <| zq <| x_true rfl (rfl) <| zr <| tl_e rfl <| e_alloc <| fun b7 => tl_e rfl <| e_sT rfl rfl <| zq <| .s3 0 1 3 rfl rfl rfl <| zr <| tl_e rfl <| e_alloc <| fun b8 => zq <| x_draw0 4 ((b7, .cells #[.int .i64 e] 248 (0, 0)) :: (b8, .cells #[.slice none 0 0, .slice none 0 0] 295 (0, 0)) :: []) Keeps.mem hmix rfl ?_
 refine zy 0 rfl rfl (y_lg rfl rfl) <| pFa 1 rfl rfl <| pLd 2 rfl rfl rfl <| ze 3 rfl rfl <| e_sT rfl rfl <| kp ?_
 refine zt 4 rfl rfl <| e_sT rfl rfl <| zz (.block_normal (.dropTo ((c, .cells #[.int .i64 e] 25 (0, 0)) :: (b, .cells #[.slice none 0 0, .slice none 0 0] 295 (0, 0)) :: L) iI (.rec_normal lR ⟨rfl, rfl, rfl⟩)))
theorem caughtTk_spec {wf : FuncId} {first cap : List Value} {K : SlV → SlV → Mem → Prop} {Kp : Int → Prop}
  (hw : ∀ p q, Con Tryz.prog wf (first ++ [] ++ cap).toArray G M (p :: q :: L) (fun v M' L' => L' = p :: q :: L ∧ ∃ x y, v = .agg (List.toArray ([x.v, y.v])) ∧ K x y M') (fun ch M' L' => L' = p :: q :: L ∧ ∃ e, Kp e ∧ ch = lwrong e)) :
  Con Tryz.prog 215 #[.func (.func wf) first.toArray cap.toArray] G M L (fun v M' L' => L' = L ∧ ((∃ x y, v = .tuple #[.agg (List.toArray ([x.v, y.v])), .int .i64 0] ∧ K x y M') ∨ (∃ e, v = .tuple #[.agg #[.slice none 0 0, .slice none 0 0], .int .i64 e] ∧ Kp e))) noPanic := by
 refine enterD (args := [_]) (fn := Tryz.f215) ⟨Tryz.func215, rfl, by kernel_rfl, by kernel_rfl⟩ 7 rfl <| zr <| tl_e rfl <| e_alloc <| fun b1 => tl_e rfl <| e_alloc <| fun b2 => zq <| zr <| tl_y rfl (y_makeFunc rfl rfl) <| tl_e rfl <| e_defer rfl rfl rfl <| zq <| zr <| mvF rfl <| tl_e rfl (e_callv rfl rfl (hw _ _) (by
  rintro _ M1 _ hM1 ⟨rfl, e, hr, rfl⟩
  refine .retD (cap := [_, _]) (args := []) caughtTk1_wrong ?_
  rintro _ M2 _ hM2 ⟨rfl, rfl, rfl⟩
  exact .inl ⟨rfl, _, L, rv2 rfl (rc_cellAgg (by rfl) rfl (.own iI iI)) (rc_cell (by rfl) rfl (.own iI iI)), iI, hM1, rfl, .inr ⟨e, rfl, hr⟩⟩) ?_)
 rintro _ M1 _ hM1 ⟨rfl, x, y, rfl, hk⟩
 refine tl_e rfl <| e_sT rfl rfl <| tl_e rfl <| e_sT rfl rfl <| zq <| .s2 2 3 rfl rfl <| x_ret <| .retD (cap := [_, _]) (args := []) (caughtTk1_ret (cs := [x.v, y.v])) ?_
 rintro _ M2 _ hM2 ⟨rfl, rfl, rfl⟩
 exact .inl ⟨rfl, _, L, rv2 rfl (rc_cellAgg (by rfl) rfl (.own iI iI)) (rc_cell (by rfl) rfl (.own iI iI)), iI, hM1, rfl, .inl ⟨x, y, rfl, hk⟩⟩
theorem Pair1_spec (hg : LmG M) {A : Option Addr} {m c : Nat} {bs : List UInt8} (h : Bytes M A m c bs) (hmb : m ≤ 1000000000000) {b : Nat} [hb : Has L b (.cells #[.slice A m c] 22 (0, 0))] :
  Con Tryz.prog 168 #[.pointer (some ⟨b, 0, none⟩)] G M L (fun v M' L' => L' = L ∧ ∃ x : PairV, v = .agg (List.toArray x.cells) ∧ pairE bs = 0 ∧ x = pairC bs) (fun ch M' L' => L' = L ∧ ∃ e, (pairE bs ≠ 0 ∧ e = pairE bs) ∧ ch = lwrong e) := by
 have hm := h.size
 have hc := h.le
 refine zfn Tryz.func168 rfl 40 rfl <| zr <| tl_e rfl <| e_alloc <| fun b1 => zq <| zr <| tLd rfl rfl <| tLen rfl <| tl_y rfl (y_geq rfl rfl) <| tl_e rfl (e_call rfl (lmust_spec _ _) (by
  rintro _ _ _ _ ⟨rfl, rfl, ht, rfl⟩
  have e : pairE bs = 2 := by rw [pairE, if_pos (by simp at ht; omega)]
  exact TP.dropTo L iI (.retA rfl lR ⟨rfl, _, ⟨by rw [e]; decide, rfl⟩, by rw [e]⟩)) ?_)
 rintro _ _ _ _ ⟨rfl, rfl, ht⟩
 have h8 : 8 ≤ m := by simp at ht; omega
 have hs4 : Bytes M (sl A 4 c 1) 4 (c - 4) ((bs.drop 4).take 4) := Bytes.sub h 4 8 (by omega) h8
 refine zq <| .s2 0 1 rfl rfl <| zr <| tLd rfl rfl <| tl_y rfl (y_sliceH rfl rfl (by omega) (by omega)) ?_
 refine zca rfl (Get8_spec (Bytes.take h 4 (by omega)) (by omega)) ?_
 rintro _ _ _ _ ⟨rfl, rfl, x, hx, rfl⟩
 have hgl := getB_lt (bs.take 4)
 rw [List.length_take, Nat.min_eq_left (by omega)] at hgl
 have hcv : ((pairC bs).t.toNat : Int) = (x.toNat : Int) := by rw [pairC, UInt32.toNat_ofNat', hx, Nat.mod_eq_of_lt (by omega)]
 refine mvU rfl <| zx rfl <| zx rfl <| asI rfl <| asB rfl <| zq <| .s3 0 1 2 rfl rfl rfl <| zr <| tLd rfl rfl <| tl_y rfl (y_sliceLH rfl rfl rfl (by omega) (by omega)) ?_
 refine zca rfl (Get8_spec hs4 (by omega)) ?_
 rintro _ _ _ _ ⟨rfl, rfl, y, hy, rfl⟩
 have hgl2 := getB_lt ((bs.drop 4).take 4)
 rw [List.length_take, List.length_drop, Nat.min_eq_left (by omega)] at hgl2
 have hcv2 : ((pairC bs).o.toNat : Int) = (y.toNat : Int) := by rw [pairC, UInt32.toNat_ofNat', hy, Nat.mod_eq_of_lt (by omega)]
 refine mvU rfl <| zx rfl <| zx rfl <| asI rfl <| asB rfl <| zq <| .s4 0 1 2 4 rfl rfl rfl rfl <| zr <| mvI rfl <| tl_y rfl (y_convE (b := ((pairC bs).o.toNat : Int)) rfl (by rw [wrapU32, hcv2]; omega)) <| mvI rfl <| tl_y rfl (y_convE (b := ((pairC bs).t.toNat : Int)) rfl (by rw [wrapU32, hcv]; omega)) <| tl_y rfl (y_build rfl) <| tl_e rfl <| e_alloc <| fun b2 => tl_e rfl <| e_sT rfl rfl <| zq <| .s3 0 1 6 rfl rfl rfl <| zr <| tLg rfl rfl <| tl_e rfl (e_call rfl (of_spec hg.hs (pairC bs)) (by
  rintro _ M1 _ hM1 ⟨rfl, hno, rfl⟩
  have e : pairE bs = 4 := by rw [pairE, if_neg (by omega), if_pos hno]
  exact TP.dropTo L iI (.retA rfl hM1 ⟨rfl, _, ⟨by rw [e]; decide, rfl⟩, by rw [e]⟩)) ?_)
 rintro _ M1 _ hM1 ⟨rfl, hok, rfl⟩
 obtain ⟨n, w, p, H, hx⟩ := okP_facts hok
 obtain ⟨z1, z2, z3, z4, z5⟩ := hx.sizes
 have hn32 := hx.o.n32
 refine tl_e rfl <| e_alloc <| fun b3 => tl_e rfl <| e_sT rfl rfl <| zq <| zr <| tLd rfl rfl <| tLen rfl <| tFa rfl <| tFa rfl <| tl_y rfl (y_load (v := .int .i64 (n : Int)) rfl rfl (by rw [← hx.tn]; exact .own iI iI)) <| tl_y rfl (y_addI rfl rfl (by omega)) <| tl_y rfl (y_eql rfl rfl) ?_
 refine tl_e rfl (e_call rfl (lmust_spec _ _) (by
  rintro _ _ _ _ ⟨rfl, rfl, ht, rfl⟩
  have e : pairE bs = 5 := by rw [pairE, if_neg (by omega), if_neg (fun h => h hok), if_pos (by simp at ht; omega)]
  exact TP.dropTo L iI (.retA rfl hM1 ⟨rfl, _, ⟨by rw [e]; decide, rfl⟩, by rw [e]⟩)) ?_)
 rintro _ _ _ _ ⟨rfl, rfl, ht⟩
 have h0 : pairE bs = 0 := by rw [pairE, if_neg (by omega), if_neg (fun h => h hok), if_neg (by simp at ht; omega)]
 refine zq <| .s2 1 6 rfl rfl <| zr <| tLg rfl rfl <| tl_e rfl <| e_sT rfl rfl <| zq <| x_ret (retRV (L' := L) (rv1 rfl (rc_cellAgg (by rfl) rfl (.own iI iI))) iI hM1 ⟨rfl, _, rfl, h0, rfl⟩)
theorem Pair_spec (hg : LmG M) {A : Option Addr} {m c : Nat} {bs : List UInt8} (h : Bytes M A m c bs) (hmb : m ≤ 1000000000000) :
  Con Tryz.prog 126 #[.slice A m c] G M L (fun v M' L' => L' = L ∧ v = .tuple #[.agg (List.toArray (pairX bs).cells), .int .i64 (pairE bs)]) noPanic := by
 refine zfn Tryz.func126 rfl 8 rfl <| zr <| tl_e rfl <| e_box rfl <| fun b1 => tl_e rfl <| e_alloc <| fun b2 => as0 rfl <| zq <| zr <| tl_y rfl (y_makeFunc rfl rfl) <| zca rfl (caughtX_spec (K := fun x _ => pairE bs = 0 ∧ x = pairC bs) (Kp := fun e => pairE bs ≠ 0 ∧ e = pairE bs) (first := []) (cap := [.pointer (some ⟨b1, 0, none⟩)]) (fun p' q' => Pair1_spec hg h hmb)) ?_
 rintro v M1 _ hM1 ⟨rfl, hv⟩
 obtain rfl : v = .tuple #[.agg (List.toArray (pairX bs).cells), .int .i64 (pairE bs)] := by
  rcases hv with ⟨x, rfl, h0, rfl⟩ | ⟨e, rfl, hno, rfl⟩
  ·
   rw [pairX, if_pos h0, h0]
  rw [pairX, if_neg hno]; rfl
 refine zx rfl <| zx rfl <| tl_e rfl <| e_sT rfl rfl <| asI rfl <| zq <| .s2 2 3 rfl rfl <| x_ret (retRV (L' := L) (rv2 rfl (rc_cellAgg (by rfl) rfl (.own iI iI)) (rc_tmp (by rfl))) iI hM1 ⟨rfl, rfl⟩)
theorem Take1_spec (hg : LmG M) (x : PairV) {A : Option Addr} {m c : Nat} {bs : List UInt8} (h : Bytes M A m c bs) (hmb : m ≤ 1000000000000) {bp b : Nat} [hp : Has L bp (.cells (List.toArray x.cells) 63 (0, 0))] [hb : Has L b (.cells #[.slice A m c] 22 (0, 0))] :
  Con Tryz.prog 216 #[.pointer (some ⟨bp, 0, none⟩), .pointer (some ⟨b, 0, none⟩)] G M L (fun v M' L' => L' = L ∧ ∃ y z : SlV, v = .agg #[y.v, z.v] ∧ takeE x m = 0 ∧ Le M M' ∧ y = ⟨sl A 0 (sigN x) 1, sigN x, sigN x⟩ ∧ z = ⟨sl A (sigN x) c 1, m - sigN x, c - sigN x⟩) (fun ch M' L' => L' = L ∧ ∃ e, (takeE x m ≠ 0 ∧ e = takeE x m) ∧ ch = lwrong e) := by
 have hm := h.size
 have hc := h.le
 refine zfn Tryz.func216 rfl 20 rfl <| zr <| tl_e rfl <| e_alloc <| fun b1 => zq <| zr <| tLg rfl rfl <| tl_e rfl (e_call rfl (of_spec hg.hs x) (by
  rintro _ M1 _ hM1 ⟨rfl, hno, rfl⟩
  have e : takeE x m = 4 := by rw [takeE, if_pos hno]
  exact TP.dropTo L iI (.retA rfl hM1 ⟨rfl, _, ⟨by rw [e]; decide, rfl⟩, by rw [e]⟩)) ?_)
 rintro _ M1 _ hM1 ⟨rfl, hok, rfl⟩
 obtain ⟨n, w, p, H, hx⟩ := okP_facts hok
 obtain ⟨z1, z2, z3, z4, z5⟩ := hx.sizes
 refine zca rfl (lsize_spec hx) ?_
 rintro _ _ _ _ ⟨rfl, rfl, rfl⟩
 refine asI rfl <| zq <| .s3 1 2 3 rfl rfl rfl <| zr <| tLd rfl rfl <| tLen rfl <| mvI rfl <| tl_y rfl (y_geq rfl rfl) <| tl_e rfl (e_call rfl (lmust_spec _ _) (by
  rintro _ _ _ _ ⟨rfl, rfl, ht, rfl⟩
  have e : takeE x m = 2 := by rw [takeE, if_neg (fun h => h hok), if_pos (by simp at ht; omega)]
  exact TP.dropTo L iI (.retA rfl hM1 ⟨rfl, _, ⟨by rw [e]; decide, rfl⟩, by rw [e]⟩)) ?_)
 rintro _ _ _ _ ⟨rfl, rfl, ht⟩
 have hN : sigN x ≤ m := by simp at ht; omega
 have h0 : takeE x m = 0 := by rw [takeE, if_neg (fun h => h hok), if_neg (by omega)]
 refine zq <| .s3 1 2 3 rfl rfl rfl <| x_seq <| x_draw 8 hmix rfl <| pLd 0 rfl rfl rfl <| pmI 1 rfl rfl <| pmI 2 rfl rfl <| zp 3 rfl rfl (y_slice3 rfl rfl rfl (by omega) (by omega)) <| pLd 4 rfl rfl rfl <| pmI 5 rfl rfl ?_
 refine zp 6 rfl rfl (y_sliceL rfl rfl (by omega)) <| zp 7 rfl rfl (y_buildArr rfl) <| zt 8 rfl rfl <| e_sT rfl rfl <| zz <| .then_normal <| .s1 2 rfl <| x_ret (retRV (L' := L) (rv1 rfl (rc_cellAgg (by rfl) rfl (.own iI iI))) iI hM1 ⟨rfl, ⟨_, _, _⟩, ⟨_, _, _⟩, rfl, h0, hM1, rfl, rfl⟩)
theorem Take_spec (hg : LmG M) (x : PairV) {A : Option Addr} {m c : Nat} {bs : List UInt8} (h : Bytes M A m c bs) (hmb : m ≤ 1000000000000) :
  Con Tryz.prog 165 #[.agg (List.toArray x.cells), .slice A m c] G M L (fun v M' L' => L' = L ∧ ∃ A1 n1 c1 A2 n2 c2, v = .tuple #[.slice A1 n1 c1, .slice A2 n2 c2, .int .i64 (takeE x m)] ∧ Bytes M' A1 n1 c1 (if takeE x m = 0 then bs.take (sigN x) else []) ∧ Bytes M' A2 n2 c2 (if takeE x m = 0 then bs.drop (sigN x) else [])) noPanic := by
 have hm := h.size
 have hc := h.le
 refine zfn Tryz.func165 rfl 19 rfl <| zr <| tl_e rfl <| e_box rfl <| fun b1 => tl_e rfl <| e_box rfl <| fun b2 => as0 rfl <| as0 rfl <| as0 rfl <| zq <| .s2 2 3 rfl rfl <| zr <| tl_y rfl (y_makeFunc rfl rfl) <| zca rfl (caughtTk_spec (K := fun y z M' => takeE x m = 0 ∧ Le M M' ∧ y = ⟨sl A 0 (sigN x) 1, sigN x, sigN x⟩ ∧ z = ⟨sl A (sigN x) c 1, m - sigN x, c - sigN x⟩) (Kp := fun e => takeE x m ≠ 0 ∧ e = takeE x m) (first := []) (cap := [.pointer (some ⟨b1, 0, none⟩), .pointer (some ⟨b2, 0, none⟩)]) (fun p' q' => Take1_spec hg x h hmb)) ?_
 rintro v M1 _ hM1 ⟨rfl, hv⟩
 obtain ⟨⟨A1, n1, c1⟩, ⟨A2, n2, c2⟩, rfl, hb1, hb2⟩ : ∃ y z : SlV, v = .tuple #[.agg #[y.v, z.v], .int .i64 (takeE x m)] ∧ Bytes M1 y.a y.n y.c (if takeE x m = 0 then bs.take (sigN x) else []) ∧ Bytes M1 z.a z.n z.c (if takeE x m = 0 then bs.drop (sigN x) else []) := by
  rcases hv with ⟨y, z, rfl, h0, hle, rfl, rfl⟩ | ⟨e, rfl, hno, rfl⟩
  ·
   have hN : sigN x ≤ m := by
    unfold takeE at h0
    split at h0
    ·
     cases h0
    split at h0
    ·
     cases h0
    omega
   exact ⟨_, _, by rw [h0], by rw [if_pos h0]; exact Bytes.take3 (h.mono hM1) _ _ hN (Nat.le_refl _) (by omega), by rw [if_pos h0]; exact Bytes.drop (h.mono hM1) _ hN⟩
  exact ⟨⟨none, 0, 0⟩, ⟨none, 0, 0⟩, rfl, by rw [if_neg hno]; exact Row.nil _ _, by rw [if_neg hno]; exact Row.nil _ _⟩
 refine mvU rfl <| zx rfl <| zx rfl <| tl_e rfl <| e_alloc <| fun b3 => tl_e rfl <| e_sT rfl rfl <| asI rfl <| zq <| .s2 7 8 rfl rfl <| x_seq <| x_draw 8 hmix rfl ?_
 refine zp 0 rfl rfl (y_indexArrK 0 rfl rfl (by omega)) <| pLd 1 rfl rfl rfl <| zp 2 rfl rfl (y_indexArrK 1 rfl rfl (by omega)) <| pLd 3 rfl rfl rfl <| pmI 4 rfl rfl <| paS 5 rfl rfl <| paS 6 rfl rfl <| paI 7 rfl rfl <| zz <| .then_normal <| .s3 4 5 6 rfl rfl rfl ?_
 refine x_ret (.dropTo L iI (ret3 rfl rfl rfl rfl hM1 ⟨rfl, _, _, _, _, _, _, rfl, hb1, hb2⟩))
end
section
variable {G : World} {M : Mem} {L : Own} {NA SA TA : Option Addr} {nl nc sl_ sc tl tc : Nat} {name sec text : List UInt8}
theorem caughtHB1_ret {b c : Nat} {x : Int} {cs : List Value} : ConD Tryz.prog 98 #[.pointer (some ⟨b, 0, none⟩), .pointer (some ⟨c, 0, none⟩)] .returning G M ((c, .cells #[.int .i64 x] 25 (0, 0)) :: (b, .cells cs.toArray 22 (0, 0)) :: L) (fun u' M' L' => u' = .returning ∧ M' = M ∧ L' = (c, .cells #[.int .i64 x] 25 (0, 0)) :: (b, .cells cs.toArray 22 (0, 0)) :: L) := by
 refine enterRec (args := [_, _]) (fn := Tryz.f98) ⟨Tryz.func98, rfl, by kernel_rfl, by kernel_rfl⟩ 15 rfl rfl <| x_block <| zr <| tl_y rfl (y_eqNilIface rfl rfl) <| zq <| x_true rfl (rfl) <| x_region <| as0 rfl <| tl_nil (.block_normal (.rec_normal lR ⟨rfl, rfl, rfl⟩))
theorem caughtHB1_wrong {b c : Nat} {x e : Int} : ConD Tryz.prog 98 #[.pointer (some ⟨b, 0, none⟩), .pointer (some ⟨c, 0, none⟩)] (.panicking (hwrong e)) G M ((c, .cells #[.int .i64 x] 25 (0, 0)) :: (b, .cells #[.slice none 0 0] 22 (0, 0)) :: L)
  (fun u' M' L' => u' = .panicking [{ v := hwrongv e, recovered := true }] ∧ M' = M ∧ L' = (c, .cells #[.int .i64 e] 25 (0, 0)) :: (b, .cells #[.slice none 0 0] 22 (0, 0)) :: L) := by
 refine enterRec (args := [_, _]) (fn := Tryz.f98) ⟨Tryz.func98, rfl, by kernel_rfl, by kernel_rfl⟩ 15 rfl rfl <| x_block <| zr <| tl_y rfl (y_eqIfaceNil rfl rfl) <| zq <| x_false rfl (rfl) <| zr <| tl_y rfl (y_assertOk rfl (by intro _ h; cases h)) <| zx rfl <| zx rfl <| zq <| x_true rfl (rfl) <| zr <| tl_e rfl <| e_alloc <| fun b7 => tl_e rfl <| e_sT rfl rfl <| zq <| .s3 0 1 3 rfl rfl rfl <| zr <| as0 rfl <| zq <| x_draw0 4 ((b7, .cells #[.int .i64 e] 180 (0, 0)) :: []) Keeps.mem hmix rfl ?_
 refine pmS 0 rfl rfl <| pFa 1 rfl rfl <| pLd 2 rfl rfl rfl <| ze 3 rfl rfl <| e_sT rfl rfl <| kp ?_
 refine zt 4 rfl rfl <| e_sT rfl rfl <| zz (.block_normal (.dropTo ((c, .cells #[.int .i64 e] 25 (0, 0)) :: (b, .cells #[.slice none 0 0] 22 (0, 0)) :: L) iI (.rec_normal lR ⟨rfl, rfl, rfl⟩)))
theorem caughtHB_spec {wf : FuncId} {first cap : List Value} {K : Option Addr → Nat → Nat → Mem → Prop} {Kp : Int → Prop}
  (hw : ∀ p q, Con Tryz.prog wf (first ++ [] ++ cap).toArray G M (p :: q :: L) (fun v M' L' => L' = p :: q :: L ∧ ∃ A n c, v = .slice A n c ∧ K A n c M') (fun ch M' L' => L' = p :: q :: L ∧ ∃ e, Kp e ∧ ch = hwrong e)) :
  Con Tryz.prog 46 #[.func (.func wf) first.toArray cap.toArray] G M L (fun v M' L' => L' = L ∧ ((∃ A n c, v = .tuple #[.slice A n c, .int .i64 0] ∧ K A n c M') ∨ (∃ e, v = .tuple #[.slice none 0 0, .int .i64 e] ∧ Kp e))) noPanic := by
 refine enterD (args := [_]) (fn := Tryz.f46) ⟨Tryz.func46, rfl, by kernel_rfl, by kernel_rfl⟩ 7 rfl <| zr <| tl_e rfl <| e_alloc <| fun b1 => tl_e rfl <| e_alloc <| fun b2 => zq <| zr <| tl_y rfl (y_makeFunc rfl rfl) <| tl_e rfl <| e_defer rfl rfl rfl <| zq <| zr <| mvF rfl <| tl_e rfl (e_callv rfl rfl (hw _ _) (by
  rintro _ M1 _ hM1 ⟨rfl, e, hr, rfl⟩
  refine .retD (cap := [_, _]) (args := []) caughtHB1_wrong ?_
  rintro _ M2 _ hM2 ⟨rfl, rfl, rfl⟩
  exact .inl ⟨rfl, _, L, rv2 rfl (rc_cell (by rfl) rfl (.own iI iI)) (rc_cell (by rfl) rfl (.own iI iI)), iI, hM1, rfl, .inr ⟨e, rfl, hr⟩⟩) ?_)
 rintro _ M1 _ hM1 ⟨rfl, A, n, c, rfl, hk⟩
 refine tl_e rfl <| e_sT rfl rfl <| tl_e rfl <| e_sT rfl rfl <| zq <| .s2 2 3 rfl rfl <| x_ret <| .retD (cap := [_, _]) (args := []) (caughtHB1_ret (cs := [.slice A n c])) ?_
 rintro _ M2 _ hM2 ⟨rfl, rfl, rfl⟩
 exact .inl ⟨rfl, _, L, rv2 rfl (rc_cell (by rfl) rfl (.own iI iI)) (rc_cell (by rfl) rfl (.own iI iI)), iI, hM1, rfl, .inl ⟨A, n, c, rfl, hk⟩⟩
theorem hwell_spec (e : Int) :
  Con Tryz.prog 106 #[.int .i64 e] G M L (fun v M' L' => M = M' ∧ L = L' ∧ e = 0) (fun ch M' L' => M = M' ∧ L = L' ∧ e ≠ 0 ∧ ch = hwrong e) := by
 refine zfn Tryz.func106 rfl 6 rfl <| x_region <| mvI rfl <| tl_y rfl (y_eql rfl rfl) <| mvI rfl <| tl_e rfl (e_call rfl (hmust_spec _ _) (by
  rintro _ _ _ _ ⟨rfl, rfl, ht, rfl⟩
  exact .retA rfl lR ⟨rfl, rfl, by simpa using ht, rfl⟩) ?_)
 rintro _ _ _ _ ⟨rfl, rfl, ht⟩
 refine tl_nil (end0 rfl lR ⟨rfl, rfl, by simpa using ht⟩)
theorem below_spec (hg : LmG M) (x : PairV) (hname : Bytes M NA nl nc name) (hsec : Bytes M SA sl_ sc sec) (q : UInt32) :
  Con Tryz.prog 102 #[.agg (List.toArray x.cells), .agg (List.toArray (seedC NA nl nc SA sl_ sc)), .int .u32 (q.toNat : Int)] G M L (fun v M' L' => L' = L ∧ ∃ y z : SlV, v = .agg #[y.v, z.v] ∧ belE x nl sl_ = 0 ∧ Bytes M' y.a y.n y.c (belN x name sec q.toNat) ∧ Bytes M' z.a z.n z.c (belS x name sec q.toNat)) (fun ch M' L' => L' = L ∧ belE x nl sl_ ≠ 0 ∧ ch = hwrong (belE x nl sl_)) := by
 refine zfn Tryz.func102 rfl 32 rfl <| zr <| tl_e rfl <| e_box rfl <| fun b1 => tl_e rfl <| e_box rfl <| fun b2 => tl_e rfl <| e_alloc <| fun b3 => zq <| zr <| tLg rfl rfl <| zca rfl (lMay_spec hg.hs x) ?_
 rintro _ M1 _ hM1 ⟨rfl, rfl⟩
 have hd := hM1
 refine tl_e rfl (e_call rfl (hmust_spec _ _) (by
  rintro _ _ _ _ ⟨rfl, rfl, ht, rfl⟩
  have e : belE x nl sl_ = 4 := by rw [belE, if_pos (by simpa using ht)]
  exact TP.dropTo L iI (.retA rfl hd ⟨rfl, by rw [e]; decide, by rw [e]⟩)) ?_)
 rintro _ _ _ _ ⟨rfl, rfl, ht⟩
 have hok : okP x := by simpa using ht
 obtain ⟨n, w, p, H, hx⟩ := okP_facts hok
 have hn32 := hx.o.n32
 refine zq <| .s4 2 3 4 6 rfl rfl rfl rfl <| zr <| tFa rfl <| tLd rfl rfl <| zca rfl (Ots_spec (hg.mono hd).ch.set x.o) ?_
 rintro _ M2 _ hM2 ⟨rfl, rfl⟩
 replace hd := hd.trans hM2
 refine mvU rfl <| zx rfl <| zx rfl <| tl_e rfl <| e_alloc <| fun b4 => tl_e rfl <| e_sT rfl rfl <| asI rfl <| zq <| .s4 2 4 6 7 rfl rfl rfl rfl <| zr <| tLg rfl rfl <| tLg rfl rfl <| zca rfl (oMay_spec (hg.mono hd).ch.set (otsV x.o)) ?_
 rintro _ M3 _ hM3 ⟨rfl, rfl⟩
 replace hd := hd.trans hM3
 refine tl_e rfl (e_call rfl (hmust_spec _ _) (by
  rintro _ _ _ _ ⟨rfl, rfl, ht, rfl⟩
  have e : belE x nl sl_ = 1 := by rw [belE, if_neg (fun h => h hok), if_pos (by simpa using ht)]
  exact TP.dropTo L iI (.retA rfl hd ⟨rfl, by rw [e]; decide, by rw [e]⟩)) ?_)
 rintro _ _ _ _ ⟨rfl, rfl, ht⟩
 have hy : okY (otsV x.o) nl sl_ := by simpa using ht
 have he0 : belE x nl sl_ = 0 := by rw [belE, if_neg (fun h => h hok), if_neg (fun h => h hy)]
 have hll := hidB_len hx.o name sec q.toNat 65535
 refine zq <| .s4 2 4 6 7 rfl rfl rfl rfl <| x_seq ?_
 have he : Le M3 M3 := Le.refl _
 refine x_draw 10 hmix rfl <| zy 0 rfl rfl (y_lg rfl rfl) <| zy 1 rfl rfl (y_lg rfl rfl) <| pmI 2 rfl rfl <| zy 5 rfl rfl (y_lg rfl rfl) <| zy 6 rfl rfl (y_lg rfl rfl) <| pmI 7 rfl rfl <| ze 3 rfl rfl <| e_call' rfl (oSecret_spec (hg.mono hd).ch (otsV x.o) (hname.mono hd) (hsec.mono hd) q 65535 (by omega)) ?_
 rintro _ M4 _ hM4 ⟨rfl, A4, m4, c4, rfl, hA4⟩
 rw [if_pos hy] at hA4
 have hm4 := hA4.size
 have hc4 := hA4.le
 replace hd := hd.trans hM4
 replace he := he.trans hM4
 try replace hA5 := hA5.mono hM4
 refine ⟨⟨he, Keeps.mem⟩, ?_⟩
 refine zp 4 rfl rfl (y_slice3 rfl rfl rfl (by omega) (by omega)) ?_
 refine ze 8 rfl rfl <| e_call' rfl (oSecret_spec (hg.mono hd).ch (otsV x.o) (hname.mono hd) (hsec.mono hd) q 65534 (by omega)) ?_
 rintro _ M5 _ hM5 ⟨rfl, A5, m5, c5, rfl, hA5⟩
 rw [if_pos hy] at hA5
 replace hd := hd.trans hM5
 replace he := he.trans hM5
 try replace hA4 := hA4.mono hM5
 refine ⟨⟨he, Keeps.mem⟩, ?_⟩
 refine zp 9 rfl rfl (y_build rfl) <| zt 10 rfl rfl <| e_sT rfl rfl <| zz <| .then_normal <| .s1 6 rfl <| x_ret (retRV (L' := L) (rv1 rfl (rc_cellAgg (by rfl) rfl (.own iI iI))) iI hd ⟨rfl, ⟨_, _, _⟩, ⟨_, _, _⟩, rfl, he0, Bytes.take3 hA4 16 16 (by omega) (Nat.le_refl _) (by omega), hA5⟩)
theorem hpublic_spec (hg : LmG M) (x : PairV) (hname : Bytes M NA nl nc name) (hsec : Bytes M SA sl_ sc sec) :
  Con Tryz.prog 53 #[.agg (List.toArray x.cells), .agg (List.toArray (seedC NA nl nc SA sl_ sc))] G M L (fun v M' L' => L' = L ∧ mayC x nl sl_ = 0 ∧ ∃ A m c, v = .slice A m c ∧ Bytes M' A m c (pubB x name sec)) (fun ch M' L' => L' = L ∧ mayC x nl sl_ ≠ 0 ∧ ch = hwrong (mayC x nl sl_)) := by
 refine zfn Tryz.func53 rfl 16 rfl <| zr <| tl_e rfl <| e_box rfl <| fun b1 => tl_e rfl <| e_box rfl <| fun b2 => as0 rfl <| zq <| zr <| tLg rfl rfl <| tLg rfl rfl <| zca rfl (Public_lspec hg x hname hsec) ?_
 rintro _ M1 _ hM1 ⟨rfl, A1, m1, c1, rfl, hA1⟩
 refine mvU rfl <| zx rfl <| zx rfl <| asS rfl <| asI rfl <| zq <| .s2 5 6 rfl rfl <| zr <| mvI rfl <| tl_e rfl (e_call rfl (hwell_spec _) (by
  rintro _ _ _ _ ⟨rfl, rfl, hne, rfl⟩
  exact TP.dropTo L iI (.retA rfl hM1 ⟨rfl, hne, rfl⟩)) ?_)
 rintro _ _ _ _ ⟨rfl, rfl, h0⟩
 rw [pubV, if_pos h0] at hA1
 refine zq <| zr <| mvS rfl <| asS rfl <| zq <| .s1 4 rfl <| x_ret (.dropTo L iI (ret1 rfl rfl hM1 ⟨rfl, h0, _, _, _, rfl, hA1⟩))
theorem makes_spec (hg : LmG M) {A : Option Addr} {n c : Nat} {l : List PairV} (h : Row M 2 A n c (prow l)) :
  Con Tryz.prog 48 #[.slice A n c, .agg (List.toArray (seedC NA nl nc SA sl_ sc))] G M L (fun v M' L' => L' = L ∧ canE l nl sl_ = 0) (fun ch M' L' => L' = L ∧ canE l nl sl_ ≠ 0 ∧ ch = hwrong (canE l nl sl_)) := by
 have hmx := h.max
 have hle := h.le
 have hln : l.length = n := by have := h.len; rw [prow, flat_len pcl] at this; omega
 refine zfn Tryz.func48 rfl 37 rfl <| zr <| tl_e rfl <| e_box rfl <| fun b1 => zq <| zr <| mvS rfl <| tl_e rfl (e_call rfl (trees_spec hg.hs h) (by
  rintro _ M1 _ hM1 ⟨rfl, hno, rfl⟩
  have e : canE l nl sl_ = 4 := by rw [canE, if_pos hno]
  exact TP.dropTo L iI (.retA rfl hM1 ⟨rfl, by rw [e]; decide, by rw [e]⟩)) ?_)
 rintro _ M1 _ hM1 ⟨rfl, hok, AT, cT, rfl, hrow⟩
 have hn8 := hok.1.2
 refine asS rfl <| zq <| zr <| mvS rfl <| tLen rfl <| mv0 rfl <| zq <| .s5 0 3 11 12 13 rfl rfl rfl rfl rfl <| x_block ?_
 refine x_loop (I := fun m' F D M2 L2 => ∃ (k : Nat), m' = n - k ∧ k ≤ n ∧ Le M1 M2 ∧ (∀ p ∈ l.take k, (tv p).h ≤ 10 ∧ okY (otsV p.o) nl sl_) ∧ D = [] ∧ L2 = (b1, .cells (List.toArray (seedC NA nl nc SA sl_ sc)) 33 (0, 0)) :: L ∧ F = [(0, .slice A n c), (3, .pointer (some ⟨b1, 0, none⟩)), (11, .slice AT n cT), (12, .int .i64 n), (13, .int .i64 k)]) (n) (F0 := [(0, _), (3, _), (11, _), (12, _), (13, _)]) ?_ (cs5 rfl rfl rfl rfl rfl) ?_
 ·
  exact ⟨0, rfl, by omega, Le.refl _, fun p hp => by simp at hp, rfl, rfl, rfl⟩
 rintro m _ _ M2 _ ⟨k, rfl, hk, hM2, hgd, rfl, rfl, rfl⟩
 refine zr <| tl_y rfl (y_lss rfl rfl) <| zq <| x_seq <| x_cond rfl (fun hc1 => ?_) (fun hc1 => ?_)
 ·
  have hkn : k < n := by omega
  obtain ⟨p, hp⟩ : ∃ p, l[k]? = some p := ⟨_, List.getElem?_eq_getElem (by omega)⟩
  have hmem : p ∈ l := List.mem_of_getElem? hp
  have htk : l.take (k + 1) = l.take k ++ [p] := by
   rw [List.take_add_one, hp]; rfl
  have hpt : (l.map tv)[k]? = some (tv p) := by rw [List.getElem?_map, hp]; rfl
  have hd := hM1.trans hM2
  obtain ⟨g, o, rfl, hcell⟩ := (hrow.mono hM2).cellsN (by omega)
  have hc2 := fun L => hcell L (k * 4) 4 (by rw [trow, flat_len tcl, List.length_map]; omega)
  simp only [trow, flat_take tcl _ k _ hpt] at hc2
  obtain ⟨g2, o2, rfl, hcell2⟩ := (h.mono hd).addr (by omega)
  have hv0 := fun L => hcell2 L (k * 2 + 0) (.int .u32 (p.o.toNat : Int)) (by rw [prow, flat_get pcl _ k p hp 0 (by omega)]; rfl)
  refine x_skip <| .then_normal <| x_seq <| x_block <| zr <| mvI rfl <| tl_y rfl (y_indexAddr rfl rfl (by omega)) <| tl_y rfl (y_loadAgg rfl rfl (.at_ (hc2 _) (by omega))) <| tl_e rfl <| e_alloc <| fun b2 => asI rfl <| tl_e rfl <| e_sT rfl rfl <| zq <| .s7 0 3 5 6 11 12 13 rfl rfl rfl rfl rfl rfl rfl <| zr <| mvS rfl <| mvI rfl <| tl_y rfl (y_indexAddr rfl rfl (by omega)) <| tFa rfl <| tl_y rfl (y_load rfl rfl (.at_ (hv0 _) (by omega))) ?_
  refine zca rfl (Ots_spec (hg.mono hd).ch.set p.o) ?_
  rintro _ M3 _ hM3 ⟨rfl, rfl⟩
  replace hd := hd.trans hM3
  refine mvU rfl <| zx rfl <| zx rfl <| tl_e rfl <| e_alloc <| fun b3 => tl_e rfl <| e_sT rfl rfl <| asI rfl <| zq <| .s7 0 3 6 7 11 12 13 rfl rfl rfl rfl rfl rfl rfl <| x_region <| tFa rfl <| tLd rfl rfl <| tl_y rfl (y_leq rfl rfl) <| mvB rfl <| tl_cases (s := 30) rfl (fun hk1 => ?_) (fun hk1 => ?_)
  ·
   refine tLg rfl rfl <| tLg rfl rfl <| zca rfl (oMay_spec (hg.mono hd).ch.set (otsV p.o)) ?_
   rintro _ M4 _ hM4 ⟨rfl, rfl⟩
   replace hd := hd.trans hM4
   refine tPt rfl rfl <| tl_e rfl (e_call rfl (hmust_spec _ _) (by
    rintro _ _ _ _ ⟨rfl, rfl, ht, rfl⟩
    have e : canE l nl sl_ = 1 := by rw [canE, if_neg (fun h => h hok), if_pos (fun h => by have := (h p hmem).2; simp [this] at ht)]
    exact TP.dropTo L iI (.retA rfl hd ⟨rfl, by rw [e]; decide, by rw [e]⟩)) ?_)
   rintro _ _ _ _ ⟨rfl, rfl, ht⟩
   refine tl_nil <| .block_normal <| .then_normal <| .s5 0 3 11 12 13 rfl rfl rfl rfl rfl <| x_region <| tl_y rfl (y_addI rfl rfl (by omega)) <| mvI rfl <| .dropTo ((b1, .cells (List.toArray (seedC NA nl nc SA sl_ sc)) 33 (0, 0)) :: L) iI <| tl_nil <| .loop_next (m' := n - (k + 1)) (by omega) (F' := [(0, _), (3, _), (11, _), (12, _), (13, _)]) (cs5 rfl rfl rfl rfl rfl) ?_
   exact ⟨k + 1, rfl, by omega, hM2.trans (hM3.trans hM4), fun p' hp' => by
    rw [htk, List.mem_append, List.mem_singleton] at hp'
    rcases hp' with hp' | rfl
    ·
     exact hgd p' hp'
    exact ⟨hk1, by simpa using ht⟩, rfl, rfl, rfl⟩
  refine sk3 rfl rfl rfl <| tPf rfl rfl <| tl_e rfl (e_call rfl (hmust_spec _ _) (by
   rintro _ _ _ _ ⟨rfl, rfl, ht, rfl⟩
   have e : canE l nl sl_ = 1 := by rw [canE, if_neg (fun h => h hok), if_pos (fun h => hk1 (h p hmem).1)]
   exact TP.dropTo L iI (.retA rfl hd ⟨rfl, by rw [e]; decide, by rw [e]⟩)) ?_)
  rintro _ _ _ _ ⟨rfl, rfl, ht⟩
  refine tl_nil <| .block_normal <| .then_normal <| .s5 0 3 11 12 13 rfl rfl rfl rfl rfl <| x_region <| tl_y rfl (y_addI rfl rfl (by omega)) <| mvI rfl <| tl_nil <| .loop_next (m' := n - (k + 1)) (by omega) (F' := [(0, _), (3, _), (11, _), (12, _), (13, _)]) (cs5 rfl rfl rfl rfl rfl) ?_
  exact absurd ht (by simp)
 obtain rfl : k = n := by omega
 rw [List.take_of_length_le (by omega)] at hgd
 refine x_exit (.then_exit (.loop_exit (.block_exit (.dropTo L iI (end0 rfl (hM1.trans hM2) ⟨rfl, canE_ok hok hgd⟩)))))
theorem Public1_hspec (hg : LmG M) {A : Option Addr} {n c : Nat} {l : List PairV} (h : Row M 2 A n c (prow l)) (hname : Bytes M NA nl nc name) (hsec : Bytes M SA sl_ sc sec) {bl bs : Nat}
  [i1 : Has L bl (.cells #[.slice A n c] 31 (0, 0))] [i2 : Has L bs (.cells (List.toArray (seedC NA nl nc SA sl_ sc)) 33 (0, 0))] :
  Con Tryz.prog 115 #[.pointer (some ⟨bl, 0, none⟩), .pointer (some ⟨bs, 0, none⟩)] G M L (fun v M' L' => L' = L ∧ ∃ A m c, v = .slice A m c ∧ canE l nl sl_ = 0 ∧ Bytes M' A m c (hpubB l name sec)) (fun ch M' L' => L' = L ∧ ∃ e, (canE l nl sl_ ≠ 0 ∧ e = canE l nl sl_) ∧ ch = hwrong e) := by
 have hln : l.length = n := by have := h.len; rw [prow, flat_len pcl] at this; omega
 have hns := hname.size
 have hss := hsec.size
 refine zfn Tryz.func115 rfl 17 rfl <| zr <| as0 rfl <| zq <| zr <| tLd rfl rfl <| tLg rfl rfl <| tl_e rfl (e_call rfl (makes_spec hg h) (by
  rintro _ M1 _ hM1 ⟨rfl, hno, rfl⟩
  exact .retA rfl hM1 ⟨rfl, _, ⟨hno, rfl⟩, rfl⟩) ?_)
 rintro _ M1 L hM1 ⟨rfl, h0⟩
 have hd : Le M M1 := hM1
 obtain ⟨hok, hcan⟩ := canE_zero h0
 have hn8 := hok.1
 obtain ⟨hp0, hm0, he0, _⟩ := okL_get hok (i := 0) (by omega)
 have hmay : mayC (l.getD 0 p0) nl sl_ = 0 := by
  have := (seedR_may hok hcan [] hns hss (i := 0) (j := 0) (by omega) (by omega)).2
  rw [seedR, hns, hss] at this
  exact this
 obtain ⟨n', w', p', H', hx⟩ := okP_facts hp0
 have hn32 := hx.o.n32
 have hn16 : name.length = 16 := by rw [hns]; exact (hcan _ hm0).2.2.1
 obtain ⟨pp1, _, _, _, _⟩ := pub_parts hx hn16 sec
 obtain ⟨g, o, rfl, hcell⟩ := (h.mono hd).cellsN (by omega)
 have hc2 := fun L => hcell L (0 * 2) 2 (by rw [prow, flat_len pcl]; omega)
 simp only [prow, flat_take pcl l 0 _ he0] at hc2
 refine zq <| .s2 0 1 rfl rfl <| x_seq ?_
 have he : Le M1 M1 := Le.refl _
 refine x_draw 12 hmix rfl <| pLd 0 rfl rfl rfl <| zp 1 rfl rfl (y_len rfl) <| zp 2 rfl rfl (y_convN64 rfl (by omega)) <| pLd 4 rfl rfl rfl <| zp 5 rfl rfl (y_indexAddr rfl rfl (by omega)) <| zy 6 rfl rfl (y_loadAgg rfl rfl (.at_ (hc2 _) (by omega))) <| zy 7 rfl rfl (y_lg rfl rfl) ?_
 refine ze 3 rfl rfl <| e_call' rfl (PutV_spec n 4 (by omega) (by omega)) ?_
 rintro _ M2 _ hM2 ⟨rfl, A2, c2, rfl, hA2⟩
 replace hd := hd.trans hM2
 replace he := he.trans hM2
 try replace hA3 := hA3.mono hM2
 refine ⟨⟨he, Keeps.mem⟩, ?_⟩
 refine to_e 8 rfl (by kernel_rfl) rfl (e_call rfl (hpublic_spec (hg.mono hd) (l.getD 0 p0) (hname.mono hd) (hsec.mono hd)) (by
  rintro _ M3 _ hM3 ⟨rfl, hno, rfl⟩
  exact absurd hmay hno) ?_)
 rintro _ M3 L hM3 ⟨rfl, _, A3, m3, c3, rfl, hA3⟩
 replace hd := hd.trans hM3
 replace he := he.trans hM3
 try replace hA2 := hA2.mono hM3
 refine ⟨⟨he, Keeps.mem⟩, ?_⟩
 refine ze 9 rfl rfl <| e_buildSlice rfl (by decide) <| fun b7 => ⟨⟨he, Keeps.mem⟩, ?_⟩
 refine .pub b7 iI <| fun M6 hM6 hb7 => ?_
 have hd6 := hd.trans hM6
 have he6 := he.trans hM6
 have hfl : [putB n 4, pubB (l.getD 0 p0) name sec].flatten = hpubB l name sec := by simp [hpubB, hln]
 have hfll : (hpubB l name sec).length ≤ 100 := by rw [hpubB, List.length_append, putB_length, pp1]; omega
 refine ze 10 rfl rfl <| e_call' rfl (Cat_spec (Row.whole hb7 rfl (by omega)) (.cons (hA2.mono hM6) (.cons (hA3.mono hM6) .nil)) (by rw [hfl]; omega)) ?_
 rintro _ M7 _ hM7 ⟨rfl, A7, c7, rfl, hA7⟩
 rw [hfl] at hA7
 rw [hfl]
 replace hd6 := hd6.trans hM7
 replace he6 := he6.trans hM7
 refine ⟨⟨he6, Keeps.mem⟩, ?_⟩
 refine paS 11 rfl rfl <| zz <| .then_normal <| .s1 2 rfl <| x_ret (.dropTo L iI (ret1 rfl rfl hd6 ⟨rfl, _, _, _, rfl, h0, hA7⟩))
theorem Public_hspec (hg : LmG M) {A : Option Addr} {n c : Nat} {l : List PairV} (h : Row M 2 A n c (prow l)) (hname : Bytes M NA nl nc name) (hsec : Bytes M SA sl_ sc sec) :
  Con Tryz.prog 66 #[.slice A n c, .agg (List.toArray (seedC NA nl nc SA sl_ sc))] G M L (fun v M' L' => L' = L ∧ ∃ A m c, v = .tuple #[.slice A m c, .int .i64 (canE l nl sl_)] ∧ Bytes M' A m c (hpubV l nl sl_ name sec)) noPanic := by
 refine zfn Tryz.func66 rfl 10 rfl <| zr <| tl_e rfl <| e_box rfl <| fun b1 => tl_e rfl <| e_box rfl <| fun b2 => as0 rfl <| as0 rfl <| zq <| .s2 2 3 rfl rfl <| zr <| tl_y rfl (y_makeFunc rfl rfl) <| zca rfl (caughtHB_spec (K := fun A m c M' => canE l nl sl_ = 0 ∧ Bytes M' A m c (hpubB l name sec)) (Kp := fun e => canE l nl sl_ ≠ 0 ∧ e = canE l nl sl_) (first := []) (cap := [.pointer (some ⟨b1, 0, none⟩), .pointer (some ⟨b2, 0, none⟩)]) (fun p' q' => Public1_hspec hg h hname hsec)) ?_
 rintro v M1 _ hM1 ⟨rfl, hv⟩
 obtain ⟨A2, m2, c2, rfl, hA⟩ : ∃ A m c, v = .tuple #[.slice A m c, .int .i64 (canE l nl sl_)] ∧ Bytes M1 A m c (hpubV l nl sl_ name sec) := by
  rcases hv with ⟨A, m, c, rfl, h0, hb⟩ | ⟨e, rfl, hno, rfl⟩
  ·
   exact ⟨A, m, c, by rw [h0], by rw [hpubV, if_pos h0]; exact hb⟩
  exact ⟨none, 0, 0, rfl, by rw [hpubV, if_neg hno]; exact Row.nil _ _⟩
 refine zx rfl <| zx rfl <| asS rfl <| asI rfl <| zq <| .s2 4 5 rfl rfl <| x_ret (.dropTo L iI (ret2 rfl rfl rfl hM1 ⟨rfl, _, _, _, rfl, hA⟩))
end
inductive PtRows (M : Mem) : List Value → List PartB → Prop
 | nil : PtRows M [] []
 | cons {x : PartB} {KA SA NA : Option Addr} {kl kc sl_ sc nl nc : Nat} {vs : List Value} {ps : List PartB} : Bytes M KA kl kc x.key → Bytes M SA sl_ sc x.sig → Bytes M NA nl nc x.next → (x.next = [] → NA = none) → PtRows M vs ps → PtRows M (.slice KA kl kc :: .slice SA sl_ sc :: .slice NA nl nc :: vs) (x :: ps)
theorem PtRows.mono {M M' : Mem} (hle : Le M M') {vs : List Value} {ps : List PartB} (h : PtRows M vs ps) : PtRows M' vs ps := by
 induction h with
 | nil => exact .nil
 | cons h1 h2 h3 h4 _ ih => exact .cons (h1.mono hle) (h2.mono hle) (h3.mono hle) h4 ih
theorem PtRows.len {M : Mem} {vs : List Value} {ps : List PartB} (h : PtRows M vs ps) : vs.length = ps.length * 3 := by
 induction h with
 | nil => rfl
 | cons _ _ _ _ _ ih => simp only [List.length_cons, ih]; omega
theorem PtRows.snoc {M : Mem} {vs : List Value} {ps : List PartB} (h : PtRows M vs ps) {x : PartB} {KA SA NA : Option Addr} {kl kc sl_ sc nl nc : Nat} (h1 : Bytes M KA kl kc x.key) (h2 : Bytes M SA sl_ sc x.sig) (h3 : Bytes M NA nl nc x.next) (h4 : x.next = [] → NA = none) :
  PtRows M (vs ++ [.slice KA kl kc, .slice SA sl_ sc, .slice NA nl nc]) (ps ++ [x]) := by
 induction h with
 | nil => exact .cons h1 h2 h3 h4 .nil
 | cons a1 a2 a3 a4 _ ih => exact .cons a1 a2 a3 a4 ih
theorem PtRows.get {M : Mem} {vs : List Value} {ps : List PartB} (h : PtRows M vs ps) : ∀ i x, ps[i]? = some x → ∃ KA SA NA kl kc sl_ sc nl nc, (vs.drop (i * 3)).take 3 = [.slice KA kl kc, .slice SA sl_ sc, .slice NA nl nc] ∧ Bytes M KA kl kc x.key ∧ Bytes M SA sl_ sc x.sig ∧ Bytes M NA nl nc x.next ∧ (x.next = [] → NA = none) := by
 induction h with
 | nil => intro i x hi; simp at hi
 | @cons y KA SA NA kl kc sl_ sc nl nc vs ps h1 h2 h3 h4 _ ih =>
  intro i x hi
  cases i with
  | zero =>
   obtain rfl : y = x := by simpa using hi
   exact ⟨KA, SA, NA, kl, kc, sl_, sc, nl, nc, rfl, h1, h2, h3, h4⟩
  | succ i =>
   have := ih i x (by simpa using hi)
   rwa [show (i + 1) * 3 = i * 3 + 3 by omega]
section
variable {G : World} {M : Mem} {L : Own} {A : Option Addr} {m c : Nat} {bs : List UInt8}
theorem caughtHL1_ret {b c : Nat} {x : Int} {cs : List Value} : ConD Tryz.prog 119 #[.pointer (some ⟨b, 0, none⟩), .pointer (some ⟨c, 0, none⟩)] .returning G M ((c, .cells #[.int .i64 x] 25 (0, 0)) :: (b, .cells cs.toArray 144 (0, 0)) :: L) (fun u' M' L' => u' = .returning ∧ M' = M ∧ L' = (c, .cells #[.int .i64 x] 25 (0, 0)) :: (b, .cells cs.toArray 144 (0, 0)) :: L) := by
 refine enterRec (args := [_, _]) (fn := Tryz.f119) ⟨Tryz.func119, rfl, by kernel_rfl, by kernel_rfl⟩ 15 rfl rfl <| x_block <| zr <| tl_y rfl (y_eqNilIface rfl rfl) <| zq <| x_true rfl (rfl) <| x_region <| as0 rfl <| tl_nil (.block_normal (.rec_normal lR ⟨rfl, rfl, rfl⟩))
theorem caughtHL1_wrong {b c : Nat} {x e : Int} : ConD Tryz.prog 119 #[.pointer (some ⟨b, 0, none⟩), .pointer (some ⟨c, 0, none⟩)] (.panicking (hwrong e)) G M ((c, .cells #[.int .i64 x] 25 (0, 0)) :: (b, .cells #[.slice none 0 0] 144 (0, 0)) :: L)
  (fun u' M' L' => u' = .panicking [{ v := hwrongv e, recovered := true }] ∧ M' = M ∧ L' = (c, .cells #[.int .i64 e] 25 (0, 0)) :: (b, .cells #[.slice none 0 0] 144 (0, 0)) :: L) := by
 refine enterRec (args := [_, _]) (fn := Tryz.f119) ⟨Tryz.func119, rfl, by kernel_rfl, by kernel_rfl⟩ 15 rfl rfl <| x_block <| zr <| tl_y rfl (y_eqIfaceNil rfl rfl) <| zq <| x_false rfl (rfl) <| zr <| tl_y rfl (y_assertOk rfl (by intro _ h; cases h)) <| zx rfl <| zx rfl <| zq <| x_true rfl (rfl) <| zr <| tl_e rfl <| e_alloc <| fun b7 => tl_e rfl <| e_sT rfl rfl <| zq <| .s3 0 1 3 rfl rfl rfl <| zr <| as0 rfl <| zq <| x_draw0 4 ((b7, .cells #[.int .i64 e] 180 (0, 0)) :: []) Keeps.mem hmix rfl ?_
 refine pmS 0 rfl rfl <| pFa 1 rfl rfl <| pLd 2 rfl rfl rfl <| ze 3 rfl rfl <| e_sT rfl rfl <| kp ?_
 refine zt 4 rfl rfl <| e_sT rfl rfl <| zz (.block_normal (.dropTo ((c, .cells #[.int .i64 e] 25 (0, 0)) :: (b, .cells #[.slice none 0 0] 144 (0, 0)) :: L) iI (.rec_normal lR ⟨rfl, rfl, rfl⟩)))
theorem caughtHL_spec {wf : FuncId} {first cap : List Value} {K : Option Addr → Nat → Nat → Mem → Prop} {Kp : Int → Prop}
  (hw : ∀ p q, Con Tryz.prog wf (first ++ [] ++ cap).toArray G M (p :: q :: L) (fun v M' L' => L' = p :: q :: L ∧ ∃ A n c, v = .slice A n c ∧ K A n c M') (fun ch M' L' => L' = p :: q :: L ∧ ∃ e, Kp e ∧ ch = hwrong e)) :
  Con Tryz.prog 72 #[.func (.func wf) first.toArray cap.toArray] G M L (fun v M' L' => L' = L ∧ ((∃ A n c, v = .tuple #[.slice A n c, .int .i64 0] ∧ K A n c M') ∨ (∃ e, v = .tuple #[.slice none 0 0, .int .i64 e] ∧ Kp e))) noPanic := by
 refine enterD (args := [_]) (fn := Tryz.f72) ⟨Tryz.func72, rfl, by kernel_rfl, by kernel_rfl⟩ 7 rfl <| zr <| tl_e rfl <| e_alloc <| fun b1 => tl_e rfl <| e_alloc <| fun b2 => zq <| zr <| tl_y rfl (y_makeFunc rfl rfl) <| tl_e rfl <| e_defer rfl rfl rfl <| zq <| zr <| mvF rfl <| tl_e rfl (e_callv rfl rfl (hw _ _) (by
  rintro _ M1 _ hM1 ⟨rfl, e, hr, rfl⟩
  refine .retD (cap := [_, _]) (args := []) caughtHL1_wrong ?_
  rintro _ M2 _ hM2 ⟨rfl, rfl, rfl⟩
  exact .inl ⟨rfl, _, L, rv2 rfl (rc_cell (by rfl) rfl (.own iI iI)) (rc_cell (by rfl) rfl (.own iI iI)), iI, hM1, rfl, .inr ⟨e, rfl, hr⟩⟩) ?_)
 rintro _ M1 _ hM1 ⟨rfl, A, n, c, rfl, hk⟩
 refine tl_e rfl <| e_sT rfl rfl <| tl_e rfl <| e_sT rfl rfl <| zq <| .s2 2 3 rfl rfl <| x_ret <| .retD (cap := [_, _]) (args := []) (caughtHL1_ret (cs := [.slice A n c])) ?_
 rintro _ M2 _ hM2 ⟨rfl, rfl, rfl⟩
 exact .inl ⟨rfl, _, L, rv2 rfl (rc_cell (by rfl) rfl (.own iI iI)) (rc_cell (by rfl) rfl (.own iI iI)), iI, hM1, rfl, .inl ⟨A, n, c, rfl, hk⟩⟩
theorem htake_spec {b : Nat} (h : Bytes M A m c bs) (n : Nat) :
  Con Tryz.prog 163 #[.pointer (some ⟨b, 0, none⟩), .int .i64 (n : Int)] G M ((b, .cells #[.slice A m c] 22 (0, 0)) :: L) (fun v M' L' => L' = (b, .cells #[.slice (sl A n c 1) (m - n) (c - n)] 22 (0, 0)) :: L ∧ n ≤ m ∧ v = .slice (sl A 0 n 1) n n) (fun ch M' L' => L' = (b, .cells #[.slice A m c] 22 (0, 0)) :: L ∧ m < n ∧ ch = hwrong 2) := by
 have hc := h.le
 refine zfn Tryz.func163 rfl 27 rfl <| zr <| as0 rfl <| zq <| zr <| mvP rfl <| zc rfl <| tLd rfl rfl <| tLen rfl <| mvI rfl <| tl_y rfl (y_geq rfl rfl) <| tl_e rfl (e_call rfl (hmust_spec _ _) (by
  rintro _ _ _ _ ⟨rfl, rfl, ht, rfl⟩
  exact .retA rfl lR ⟨rfl, by simp at ht; omega, rfl⟩) ?_)
 rintro _ _ _ _ ⟨rfl, rfl, ht⟩
 have hn : n ≤ m := by simp at ht; omega
 refine zq <| .s2 0 1 rfl rfl <| zr <| mvP rfl <| zc rfl <| tLd rfl rfl <| mvI rfl <| mvI rfl <| tl_y rfl (y_slice3 rfl rfl rfl (by omega) (by omega)) <| asS rfl <| zq <| .s3 0 1 5 rfl rfl rfl <| zr <| mvP rfl <| mvP rfl <| zc rfl <| tLd rfl rfl <| mvI rfl <| tl_y rfl (y_sliceL rfl rfl (by omega)) <| zc rfl <| tl_e rfl <| e_sT rfl rfl <| zq <| .s1 5 rfl <| zr <| mvS rfl <| asS rfl <| zq <| x_ret (ret1 rfl rfl lR ⟨rfl, hn, rfl⟩)
theorem hcount_spec {b : Nat} (h : Bytes M A m c bs) :
  Con Tryz.prog 120 #[.pointer (some ⟨b, 0, none⟩)] G M ((b, .cells #[.slice A m c] 22 (0, 0)) :: L) (fun v M' L' => L' = (b, .cells #[.slice (sl A 4 c 1) (m - 4) (c - 4)] 22 (0, 0)) :: L ∧ 4 ≤ m ∧ v = .int .i64 ((getB (bs.take 4) : Nat) : Int)) (fun ch M' L' => L' = (b, .cells #[.slice A m c] 22 (0, 0)) :: L ∧ m < 4 ∧ ch = hwrong 2) := by
 have hc := h.le
 have hm := h.size
 refine zfn Tryz.func120 rfl 13 rfl <| zr <| as0 rfl <| zq <| zr <| mvP rfl <| tl_e rfl (e_call rfl (htake_spec h 4) (by
  rintro _ M1 _ hM1 ⟨rfl, hlt, rfl⟩
  exact .retA rfl hM1 ⟨rfl, hlt, rfl⟩) ?_)
 rintro _ M1 _ hM1 ⟨rfl, h4, rfl⟩
 have hgl := getB_lt (bs.take 4)
 rw [List.length_take, Nat.min_eq_left (by omega)] at hgl
 refine zca rfl (Get8_spec (Bytes.take3 (h.mono hM1) 4 4 h4 (Nat.le_refl _) (by omega)) (by omega)) ?_
 rintro _ _ _ _ ⟨rfl, rfl, x, hx, rfl⟩
 refine mvU rfl <| zx rfl <| zx rfl <| asI rfl <| asB rfl <| zq <| .s1 3 rfl <| zr <| mvI rfl <| tl_y rfl (y_convE (b := ((getB (bs.take 4) : Nat) : Int)) rfl (by rw [← hx]; exact IntWalk.i64_in _ (by omega))) <| asI rfl <| zq <| x_ret (ret1 rfl rfl hM1 ⟨rfl, h4, rfl⟩)
theorem hkey_spec (hg : LmG M) {b : Nat} (h : Bytes M A m c bs) :
  Con Tryz.prog 121 #[.pointer (some ⟨b, 0, none⟩)] G M ((b, .cells #[.slice A m c] 22 (0, 0)) :: L) (fun v M' L' => keyE bs = 0 ∧ ∃ A' m' c' A2 n2 c2, L' = (b, .cells #[.slice A' m' c'] 22 (0, 0)) :: L ∧ v = .slice A2 n2 c2 ∧ Bytes M' A2 n2 c2 (keyT bs) ∧ Bytes M' A' m' c' (keyD bs)) (fun ch M' L' => L' = (b, .cells #[.slice A m c] 22 (0, 0)) :: L ∧ keyE bs ≠ 0 ∧ ch = hwrong (keyE bs)) := by
 have hc := h.le
 have hm := h.size
 refine zfn Tryz.func121 rfl 50 rfl <| zr <| as0 rfl <| zq <| zr <| mvP rfl <| zc rfl <| tLd rfl rfl <| tLen rfl <| tl_y rfl (y_geq rfl rfl) <| tl_e rfl (e_call rfl (hmust_spec _ _) (by
  rintro _ _ _ _ ⟨rfl, rfl, ht, rfl⟩
  have e : keyE bs = 2 := by rw [keyE, if_pos (by simp at ht; omega)]
  exact .retA rfl lR ⟨rfl, by rw [e]; decide, by rw [e]⟩) ?_)
 rintro _ _ _ _ ⟨rfl, rfl, ht⟩
 have h8 : 8 ≤ m := by simp at ht; omega
 have hs4 : Bytes M (sl A 4 c 1) 4 (c - 4) ((bs.drop 4).take 4) := Bytes.sub h 4 8 (by omega) h8
 refine zq <| .s1 0 rfl <| zr <| tl_y rfl (y_build rfl) <| tl_e rfl <| e_alloc <| fun b1 => tl_e rfl <| e_sT rfl rfl <| zq <| zr <| mvP rfl <| zc rfl <| tLd rfl rfl <| tl_y rfl (y_sliceH rfl rfl (by omega) (by omega)) ?_
 refine zca rfl (Get8_spec (Bytes.take h 4 (by omega)) (by omega)) ?_
 rintro _ _ _ _ ⟨rfl, rfl, x, hx, rfl⟩
 have hgl := getB_lt (bs.take 4)
 rw [List.length_take, Nat.min_eq_left (by omega)] at hgl
 have hcv : ((pairC bs).t.toNat : Int) = (x.toNat : Int) := by rw [pairC, UInt32.toNat_ofNat', hx, Nat.mod_eq_of_lt (by omega)]
 refine mvU rfl <| zx rfl <| zx rfl <| asI rfl <| asB rfl <| zq <| .s3 0 3 4 rfl rfl rfl <| zr <| mvP rfl <| zc rfl <| tLd rfl rfl <| tl_y rfl (y_sliceLH rfl rfl rfl (by omega) (by omega)) ?_
 refine zca rfl (Get8_spec hs4 (by omega)) ?_
 rintro _ _ _ _ ⟨rfl, rfl, y, hy, rfl⟩
 have hgl2 := getB_lt ((bs.drop 4).take 4)
 rw [List.length_take, List.length_drop, Nat.min_eq_left (by omega)] at hgl2
 have hcv2 : ((pairC bs).o.toNat : Int) = (y.toNat : Int) := by rw [pairC, UInt32.toNat_ofNat', hy, Nat.mod_eq_of_lt (by omega)]
 refine mvU rfl <| zx rfl <| zx rfl <| asI rfl <| asB rfl <| zq <| .s4 0 3 4 6 rfl rfl rfl rfl <| zr <| mvI rfl <| tl_y rfl (y_convE (b := ((pairC bs).t.toNat : Int)) rfl (by rw [wrapU32, hcv]; omega)) <| mvI rfl <| tl_y rfl (y_convE (b := ((pairC bs).o.toNat : Int)) rfl (by rw [wrapU32, hcv2]; omega)) <| tFa rfl <| tl_e rfl <| e_sT rfl rfl <| tFa rfl <| tl_e rfl <| e_sT rfl rfl <| zq <| .s2 0 3 rfl rfl <| zr <| tLg rfl rfl <| zca rfl (lMay_spec hg.hs (pairC bs)) ?_
 rintro _ M1 _ hM1 ⟨rfl, rfl⟩
 have hd := hM1
 refine tl_e rfl (e_call rfl (hmust_spec _ _) (by
  rintro _ _ _ _ ⟨rfl, rfl, ht, rfl⟩
  have e : keyE bs = 4 := by rw [keyE, if_neg (by omega), if_pos (by simpa using ht)]
  exact TP.dropTo ((b, .cells #[.slice A m c] 22 (0, 0)) :: L) iI (.retA rfl hd ⟨rfl, by rw [e]; decide, by rw [e]⟩)) ?_)
 rintro _ _ _ _ ⟨rfl, rfl, ht⟩
 have hok : okP (pairC bs) := by simpa using ht
 refine zq <| zr <| tLg rfl rfl <| zca rfl (Sizes_spec (hg.mono hd) (pairC bs)) ?_
 rintro _ M2 _ hM2 ⟨rfl, rfl⟩
 replace hd := hd.trans hM2
 rw [show szP (pairC bs) = pubN (pairC bs) by rw [szP, if_pos hok]]
 refine mvU rfl <| zx rfl <| zx rfl <| asI rfl <| asI rfl <| zq <| .s2 0 8 rfl rfl <| zr <| mvP rfl <| mvI rfl <| .dropTo ((b, .cells #[.slice A m c] 22 (0, 0)) :: L) iI <| tl_e rfl (e_call rfl (htake_spec (h.mono hd) (pubN (pairC bs))) (by
  rintro _ M3 _ hM3 ⟨rfl, hlt, rfl⟩
  have e : keyE bs = 2 := by rw [keyE, if_neg (by omega), if_neg (fun h => h hok), if_pos (by omega)]
  exact .retA rfl (hd.trans hM3) ⟨rfl, by rw [e]; decide, by rw [e]⟩) ?_)
 rintro _ M3 _ hM3 ⟨rfl, hle, rfl⟩
 replace hd := hd.trans hM3
 refine asS rfl <| zq <| .s1 2 rfl <| x_ret (ret1 rfl rfl hd ⟨by rw [keyE, if_neg (by omega), if_neg (fun h => h hok), if_neg (by omega)], _, _, _, _, _, _, rfl, rfl, Bytes.take3 (h.mono hd) _ _ hle (Nat.le_refl _) (by omega), Bytes.drop (h.mono hd) _ hle⟩)
theorem hsigned_spec (hg : LmG M) {b : Nat} (h : Bytes M A m c bs) (hmb : m ≤ 1000000000000) {KA : Option Addr} {kl kc : Nat} {k : List UInt8} (hk : Bytes M KA kl kc k) (hkb : kl ≤ 1000000000000) (hk0 : pairE k = 0) :
  Con Tryz.prog 122 #[.slice KA kl kc, .pointer (some ⟨b, 0, none⟩)] G M ((b, .cells #[.slice A m c] 22 (0, 0)) :: L) (fun v M' L' => sigN (pairC k) ≤ m ∧ ∃ A' m' c' A2 n2 c2, L' = (b, .cells #[.slice A' m' c'] 22 (0, 0)) :: L ∧ v = .slice A2 n2 c2 ∧ Bytes M' A2 n2 c2 (sgT k bs) ∧ Bytes M' A' m' c' (sgD k bs)) (fun ch M' L' => L' = (b, .cells #[.slice A m c] 22 (0, 0)) :: L ∧ m < sigN (pairC k) ∧ ch = hwrong 2) := by
 obtain ⟨h8, hok, hlen⟩ := pairE_zero hk0
 have hx0 : pairX k = pairC k := by rw [pairX, if_pos hk0]
 refine zfn Tryz.func122 rfl 31 rfl <| zr <| as0 rfl <| zq <| zr <| mvS rfl <| zca rfl (Pair_spec hg hk hkb) ?_
 rintro _ M1 _ hM1 ⟨rfl, rfl⟩
 have hd := hM1
 rw [hx0, hk0]
 refine mvU rfl <| zx rfl <| zx rfl <| tl_e rfl <| e_alloc <| fun b1 => tl_e rfl <| e_sT rfl rfl <| asI rfl <| zq <| .s3 1 5 6 rfl rfl rfl <| zr <| mvI rfl <| tl_e rfl (e_call rfl (hwell_spec _) (by
  rintro _ _ _ _ ⟨rfl, rfl, hne, rfl⟩
  exact absurd rfl hne) ?_)
 rintro _ _ _ _ ⟨rfl, rfl, _⟩
 refine zq <| x_seq ?_
 have he : Le M1 M1 := Le.refl _
 refine x_draw 12 hmix rfl <| zy 0 rfl rfl (y_lg rfl rfl) <| pmP 1 rfl rfl <| zp 2 rfl rfl (y_nilCheck rfl) <| pLd 3 rfl rfl rfl <| ze 4 rfl rfl <| e_call' rfl (Take_spec (hg.mono hd) (pairC k) (h.mono hd) hmb) ?_
 rintro _ M2 _ hM2 ⟨rfl, A2, n2, c2, A3, n3, c3, rfl, hA2, hA3⟩
 replace hd := hd.trans hM2
 replace he := he.trans hM2
 refine kp ?_
 refine pmU 5 rfl rfl <| zp 6 rfl rfl (y_extract rfl) <| zp 7 rfl rfl (y_extract rfl) <| zp 8 rfl rfl (y_extract rfl) <| paS 9 rfl rfl <| paS 10 rfl rfl <| paI 11 rfl rfl <| zz <| .then_normal <| .s4 1 6 7 8 rfl rfl rfl rfl <| zr ?_
 refine mvI rfl <| tl_e rfl (e_call rfl (hwell_spec _) (by
  rintro _ _ _ _ ⟨rfl, rfl, hne, rfl⟩
  have hlt : m < sigN (pairC k) := Nat.lt_of_not_le (fun hle => hne (by rw [takeE, if_neg (fun h => h hok), if_neg (by omega)]))
  exact TP.dropTo ((b, .cells #[.slice A m c] 22 (0, 0)) :: L) iI (.retA rfl hd ⟨rfl, hlt, by rw [takeE, if_neg (fun h => h hok), if_pos hlt]⟩)) ?_)
 rintro _ _ _ _ ⟨rfl, rfl, h0⟩
 rw [if_pos h0] at hA2 hA3
 have hle : sigN (pairC k) ≤ m := Nat.le_of_not_lt (fun hlt => by rw [takeE, if_neg (fun h => h hok), if_pos hlt] at h0; cases h0)
 refine zq <| zr <| mvP rfl <| mvS rfl <| zc rfl <| tl_e rfl <| e_sT rfl rfl <| zq <| .s1 7 rfl <| zr <| mvS rfl <| asS rfl <| zq <| x_ret (.dropTo ((b, .cells #[.slice A3 n3 c3] 22 (0, 0)) :: L) iI (ret1 rfl rfl hd ⟨hle, _, _, _, _, _, _, rfl, rfl, hA2, hA3⟩))
end
theorem keyT_pair {bs : List UInt8} (h : keyE bs = 0) : pairE (keyT bs) = 0 ∧ pairC (keyT bs) = pairC bs ∧ (keyT bs).length = pubN (pairC bs) ∧ 48 ≤ pubN (pairC bs) ∧ pubN (pairC bs) ≤ 56 := by
 obtain ⟨h8, hok, hle⟩ := keyE_zero h
 obtain ⟨n, w, p, H, hx⟩ := okP_facts hok
 obtain ⟨z1, _, _, _, _⟩ := hx.sizes
 have hn := hx.o.n32
 have hl : (keyT bs).length = pubN (pairC bs) := by rw [keyT, List.length_take]; omega
 have hp : pairC (keyT bs) = pairC bs := by
  rw [pairC, pairC, keyT, List.drop_take, List.take_take, List.take_take, Nat.min_eq_left (by omega), Nat.min_eq_left (by omega)]
 refine ⟨?_, hp, hl, by omega, by omega⟩
 rw [pairE, if_neg (by omega), hp, if_neg (fun h' => h' hok), if_neg (by omega)]
theorem parse_succ {j : Nat} {k b : List UInt8} (h1 : sigN (pairC k) ≤ b.length) (h2 : keyE (sgD k b) = 0) :
  (parse (j + 1) k b).1 = (parse j (keyT (sgD k b)) (keyD (sgD k b))).1 ∧ ((parse (j + 1) k b).1 = 0 → (parse (j + 1) k b).2 = ⟨k, sgT k b, keyT (sgD k b)⟩ :: (parse j (keyT (sgD k b)) (keyD (sgD k b))).2) := by
 rw [parse, if_neg (by omega), if_neg (fun h => h h2)]
 by_cases h3 : (parse j (keyT (sgD k b)) (keyD (sgD k b))).1 = 0
 ·
  rw [if_neg (fun h => h h3)]; exact ⟨h3.symm, fun _ => rfl⟩
 rw [if_pos h3]; exact ⟨rfl, fun h => absurd h h3⟩
theorem pairE_len {k : List UInt8} (h : pairE k = 0) : k.length ≤ 56 := by
 obtain ⟨h8, hok, hlen⟩ := pairE_zero h
 obtain ⟨n, w, p, H, hx⟩ := okP_facts hok
 obtain ⟨z1, _, _, _, _⟩ := hx.sizes
 have := hx.o.n32
 omega
theorem readP_eq {pub sig : List UInt8} (h1 : 4 ≤ pub.length) (h2 : keyE (pub.drop 4) = 0) (h3 : (pub.drop 4).length = pubN (pairC (pub.drop 4))) (h4 : 1 ≤ getB (pub.take 4) ∧ getB (pub.take 4) ≤ 8) (h5 : 4 ≤ sig.length) (h6 : getB (sig.take 4) = getB (pub.take 4) - 1) :
  readP pub sig = parse (getB (pub.take 4) - 1) (pub.drop 4) (sig.drop 4) := by
 rw [readP, if_neg (by omega), if_neg (fun h => h h2), if_neg (fun h => h h3), if_neg (by omega), if_neg (by omega), if_neg (fun h => h h6)]
section
variable {G : World} {M : Mem} {L : Own} {PA TA A : Option Addr} {pl pc tl tc m c : Nat} {pub text sig : List UInt8}
abbrev bx (b : Nat) (A : Option Addr) (m c : Nat) : Nat × Obj := (b, .cells #[.slice A m c] 22 (0, 0))
theorem parts_spec (hg : LmG M) (hpub : Bytes M PA pl pc pub) (hsig : Bytes M A m c sig) (hpb : pl ≤ 1000000000000) (hmb : m ≤ 1000000000000) :
  Con Tryz.prog 74 #[.slice PA pl pc, .slice A m c] G M L (fun v M' L' => L' = L ∧ ∃ A' n' c' vs, v = .slice A' n' c' ∧ (readP pub sig).1 = 0 ∧ n' = (readP pub sig).2.length ∧ Row M' 3 A' n' c' vs ∧ PtRows M' vs (readP pub sig).2) (fun ch M' L' => L' = L ∧ ∃ e, ((readP pub sig).1 ≠ 0 ∧ e = (readP pub sig).1) ∧ ch = hwrong e) := by
 have hps := hpub.size
 have hms := hsig.size
 have hpc := hpub.le
 have hmc := hsig.le
 refine zfn Tryz.func74 rfl 56 rfl <| zr <| tl_e rfl <| e_box rfl <| fun b1 => tl_e rfl <| e_box rfl <| fun b2 => as0 rfl <| zq <| zr <| .bring b1 iI <| tl_e rfl (e_call rfl (hcount_spec hpub) (by
  rintro _ M1 _ hM1 ⟨rfl, hlt, rfl⟩
  have e : (readP pub sig).1 = 2 := by rw [readP, if_pos (by omega)]
  exact TP.dropTo L iI (.retA rfl hM1 ⟨rfl, _, ⟨by rw [e]; decide, rfl⟩, by rw [e]⟩)) ?_)
 rintro _ M1 _ hM1 ⟨rfl, h4, rfl⟩
 have hd := hM1
 have hp4 : Bytes M1 (sl PA 4 pc 1) (pl - 4) (pc - 4) (pub.drop 4) := Bytes.drop (hpub.mono hd) 4 h4
 have hgl := getB_lt (pub.take 4)
 rw [List.length_take, Nat.min_eq_left (by omega)] at hgl
 obtain ⟨lv, hlv⟩ : ∃ lv, lv = getB (pub.take 4) := ⟨_, rfl⟩
 rw [← hlv] at hgl ⊢
 obtain ⟨p4, hp4e⟩ : ∃ p4, p4 = pub.drop 4 := ⟨_, rfl⟩
 rw [← hp4e] at hp4
 have hp4l : p4.length = pl - 4 := by rw [hp4e, List.length_drop]; omega
 refine asI rfl <| zq <| .s3 2 3 5 rfl rfl rfl <| zr <| tl_e rfl (e_call rfl (hkey_spec (hg.mono hd) hp4) (by
  rintro _ M2 _ hM2 ⟨rfl, hno, rfl⟩
  have e : (readP pub sig).1 = keyE p4 := by rw [readP, if_neg (by omega), ← hp4e, if_pos hno]
  exact TP.dropTo L iI (.retA rfl (hd.trans hM2) ⟨rfl, _, ⟨by rw [e]; exact hno, rfl⟩, by rw [e]⟩)) ?_)
 rintro _ M2 _ hM2 ⟨hk0, A3, m3, c3, A2, n2, c2, rfl, rfl, hkT, hkD⟩
 replace hd := hd.trans hM2
 obtain ⟨kt1, kt2, kt3, kt4, kt5⟩ := keyT_pair hk0
 have hm3 := hkD.size
 rw [keyD, List.length_drop] at hm3
 refine asS rfl <| zq <| zr <| tLd rfl rfl <| tLen rfl <| tl_y rfl (y_eql rfl rfl) <| tl_e rfl (e_call rfl (hmust_spec _ _) (by
  rintro _ _ _ _ ⟨rfl, rfl, ht, rfl⟩
  have e : (readP pub sig).1 = 5 := by rw [readP, if_neg (by omega), ← hp4e, if_neg (fun h => h hk0), if_pos (by simp at ht; omega)]
  exact TP.dropTo L iI (.retA rfl hd ⟨rfl, _, ⟨by rw [e]; decide, rfl⟩, by rw [e]⟩)) ?_)
 rintro _ _ _ _ ⟨rfl, rfl, ht⟩
 have hpl : p4.length = pubN (pairC p4) := by
  have := (keyE_zero hk0).2.2
  simp at ht; omega
 have hkp : keyT p4 = p4 := by rw [keyT]; exact List.take_of_length_le (by omega)
 rw [hkp] at kt1 kt2 kt3 hkT
 refine zq <| .s3 3 5 6 rfl rfl rfl <| x_join (I := fun F D M3 L3 => (1 ≤ lv ∧ lv ≤ 8) ∧ F = [(3, .pointer (some ⟨b2, 0, none⟩)), (5, .int .i64 ((lv : Nat) : Int)), (6, .slice A2 n2 c2)] ∧ D = [] ∧ M2 = M3 ∧ bx b1 A3 m3 c3 :: bx b2 A m c :: L = L3) ?_ (fun Jq4 => ?_)
 ·
  rintro _ _ _ _ ⟨h18, rfl, rfl, rfl, rfl⟩
  refine zr <| .bring b2 iI <| tl_e rfl (e_call rfl (hcount_spec (hsig.mono hd)) (by
   rintro _ M4 _ hM4 ⟨rfl, hlt, rfl⟩
   have e : (readP pub sig).1 = 2 := by rw [readP, if_neg (by omega), ← hp4e, if_neg (fun h => h hk0), if_neg (fun h => h hpl), if_neg (by omega), if_pos (by omega)]
   exact TP.dropTo L iI (.retA rfl (hd.trans hM4) ⟨rfl, _, ⟨by rw [e]; decide, rfl⟩, by rw [e]⟩)) ?_)
  rintro _ M4 _ hM4 ⟨rfl, hs4, rfl⟩
  replace hd := hd.trans hM4
  replace hkT := hkT.mono hM4
  have hs4b : Bytes M4 (sl A 4 c 1) (m - 4) (c - 4) (sig.drop 4) := Bytes.drop (hsig.mono hd) 4 hs4
  have hgl2 := getB_lt (sig.take 4)
  rw [List.length_take, Nat.min_eq_left (by omega)] at hgl2
  refine mvI rfl <| tl_y rfl (y_subI rfl rfl (by omega)) <| tl_y rfl (y_eql rfl rfl) ?_
  refine tl_e rfl (e_call rfl (hmust_spec _ _) (by
   rintro _ _ _ _ ⟨rfl, rfl, ht2, rfl⟩
   have e : (readP pub sig).1 = 3 := by rw [readP, if_neg (by omega), ← hp4e, if_neg (fun h => h hk0), if_neg (fun h => h hpl), if_neg (by omega), if_neg (by omega), if_pos (by simp at ht2; omega)]
   exact TP.dropTo L iI (.retA rfl hd ⟨rfl, _, ⟨by rw [e]; decide, rfl⟩, by rw [e]⟩)) ?_)
  rintro _ _ _ _ ⟨rfl, rfl, ht2⟩
  have hR : readP pub sig = parse (lv - 1) p4 (sig.drop 4) := by
   rw [readP_eq (by omega) (by rw [← hp4e]; exact hk0) (by rw [← hp4e]; exact hpl) (by omega) (by omega) (by simp at ht2; omega), ← hlv, ← hp4e]
  refine zq <| .s3 3 5 6 rfl rfl rfl <| zr <| as0 rfl <| zq <| zr2 <| mvI rfl <| tl_y rfl (y_subI rfl rfl (by omega)) ?_
  rw [show ((lv : Nat) : Int) - 1 = ((lv - 1 : Nat) : Int) by omega]
  refine mv0 rfl <| zq <| x_block ?_
  refine x_loop (I := fun m' F D M5 L5 => ∃ (i : Nat) (KA : Option Addr) (kl kc : Nat) (k : List UInt8) (BA : Option Addr) (bl bc : Nat) (b : List UInt8) (AO : Option Addr) (cO : Nat) (E : Own) (vs : List Value) (done : List PartB), m' = lv - 1 - i ∧ i ≤ lv - 1 ∧ Le M4 M5 ∧ Bytes M5 KA kl kc k ∧ Bytes M5 BA bl bc b ∧ bl ≤ 1000000000000 ∧ pairE k = 0 ∧ OwnRow 151 3 AO i cO vs E ∧ PtRows M5 vs done ∧ done.length = i ∧ (readP pub sig).1 = (parse (lv - 1 - i) k b).1 ∧ ((readP pub sig).1 = 0 → (readP pub sig).2 = done ++ (parse (lv - 1 - i) k b).2) ∧ D = [] ∧ L5 = E ++ (bx b2 BA bl bc :: bx b1 A3 m3 c3 :: L) ∧ F = [(3, .pointer (some ⟨b2, 0, none⟩)), (6, .slice KA kl kc), (7, .slice AO i cO), (28, .int .i64 ((lv - 1 : Nat) : Int)), (29, .int .i64 i)]) (lv - 1) (F0 := [(3, _), (6, _), (7, _), (28, _), (29, _)]) ?_ (cs5 rfl rfl rfl rfl rfl) ?_
  ·
   exact ⟨0, A2, n2, c2, p4, _, _, _, sig.drop 4, none, 0, [], [], [], rfl, by omega, Le.refl _, hkT, hs4b, by omega, kt1, .nil, .nil, rfl, by rw [hR, Nat.sub_zero], fun _ => by rw [hR, Nat.sub_zero, List.nil_append], rfl, rfl, rfl⟩
  rintro m _ _ M5 _ ⟨i, KA, kl, kc, k, BA, bl, bc, b, AO, cO, E, vs, done, rfl, hi, hM5, hkk, hbb, hbl, hpk, hE, hPt, hdl, hr1, hr2, rfl, rfl, rfl⟩
  have hkl := hkk.size
  have hkl2 := pairE_len hpk
  have hbs := hbb.size
  have hd5 := hd.trans hM5
  refine zr <| tl_y rfl (y_lss rfl rfl) <| zq <| x_seq <| x_cond rfl (fun hc1 => ?_) (fun hc1 => ?_)
  ·
   obtain ⟨j, hj⟩ : ∃ j, lv - 1 - i = j + 1 := ⟨lv - 1 - i - 1, by omega⟩
   rw [hj] at hr1 hr2
   refine .bring b2 iI <| x_skip <| .then_normal <| x_seq <| x_block <| zr <| mvS rfl <| mvS rfl <| tl_e rfl (e_call rfl (hsigned_spec (hg.mono hd5) hbb hbl hkk (by omega) hpk) (by
    rintro _ M6 _ hM6 ⟨rfl, hlt, rfl⟩
    have e : (readP pub sig).1 = 2 := by rw [hr1, parse, if_pos (by omega)]
    exact TP.dropTo L iI (.retA rfl (hd5.trans hM6) ⟨rfl, _, ⟨by rw [e]; decide, rfl⟩, by rw [e]⟩)) ?_)
   rintro _ M6 _ hM6 ⟨hsn, A6, m6, c6, A7, n7, c7, rfl, rfl, hsT, hsD⟩
   have hd6 := hd5.trans hM6
   have hm6 := hsD.size
   rw [sgD, List.length_drop] at hm6
   refine tl_y rfl (y_build rfl) <| tl_e rfl <| e_alloc <| fun b3 => tl_e rfl <| e_sT rfl rfl <| zq <| .s6 3 6 7 8 28 29 rfl rfl rfl rfl rfl rfl <| zr <| .bring b2 iI <| tl_e rfl (e_call rfl (hkey_spec (hg.mono hd6) hsD) (by
    rintro _ M7 _ hM7 ⟨rfl, hno, rfl⟩
    have e : (readP pub sig).1 = keyE (sgD k b) := by rw [hr1, parse, if_neg (by omega), if_pos hno]
    exact TP.dropTo L iI (.retA rfl (hd6.trans hM7) ⟨rfl, _, ⟨by rw [e]; exact hno, rfl⟩, by rw [e]⟩)) ?_)
   rintro _ M7 _ hM7 ⟨hke, A8, m8, c8, A9, n9, c9, rfl, rfl, hkT2, hkD2⟩
   have hd7 := hd6.trans hM7
   obtain ⟨u1, u2, u3, u4, u5⟩ := keyT_pair hke
   obtain ⟨ps1, ps2⟩ := parse_succ (j := j) (k := k) (b := b) (by omega) hke
   have hm8 := hkD2.size
   rw [keyD, List.length_drop, sgD, List.length_drop] at hm8
   have hn9 := hkT2.size
   refine tFa rfl <| tl_e rfl <| e_sT rfl rfl <| zq ?_
   have he : Le M7 M7 := Le.refl _
   refine x_draw0 8 ([(b3, .cells #[.slice KA kl kc, .slice A7 n7 c7, .slice A9 n9 c9] 151 (0, 0))]) Keeps.mem hmix rfl <| pmS 0 rfl rfl <| zy 1 rfl rfl (y_lg rfl rfl) <| pFa 4 rfl rfl <| pLd 5 rfl rfl rfl <| ze 2 rfl rfl <| e_buildSlice rfl (by decide) <| fun b4 => ⟨⟨he, Keeps.mem⟩, ?_⟩
   refine .pub b4 iI <| fun M8 hM8 hb8 => ?_
   replace he := he.trans hM8
   refine .bringE E iI <| ze 3 rfl rfl <| e_append (by decide) rfl rfl hE (.row (Row.whole (s := 3) (vs := [Value.slice KA kl kc, .slice A7 n7 c7, .slice A9 n9 c9]) hb8 rfl (by omega))) rfl (by omega) (by omega) <| fun AX cX EX hEX => ⟨⟨he, Keeps.mem⟩, ?_⟩
   refine paS 6 rfl rfl <| paS 7 rfl rfl <| zz <| .block_normal <| .then_normal <| .s5 3 6 7 28 29 rfl rfl rfl rfl rfl <| x_region <| tl_y rfl (y_addI rfl rfl (by omega)) <| mvI rfl <| .dropTo (EX ++ (bx b2 A8 m8 c8 :: bx b1 A3 m3 c3 :: L)) iI <| tl_nil <| .loop_next (m' := lv - 1 - (i + 1)) (by omega) (F' := [(3, _), (6, _), (7, _), (28, _), (29, _)]) (cs5 rfl rfl rfl rfl rfl) ?_
   exact ⟨i + 1, A9, n9, c9, keyT (sgD k b), A8, m8, c8, keyD (sgD k b), AX, cX, EX, _, done ++ [⟨k, sgT k b, keyT (sgD k b)⟩], rfl, by omega, hM5.trans (hM6.trans (hM7.trans he)), hkT2.mono he, hkD2.mono he, by omega, u1, hEX,
    (hPt.mono (hM6.trans (hM7.trans he))).snoc (x := ⟨k, sgT k b, keyT (sgD k b)⟩) (hkk.mono (hM6.trans (hM7.trans he))) (hsT.mono (hM7.trans he)) (hkT2.mono he) (fun h => by have h2 := congrArg List.length h; simp only [u3, List.length_nil] at h2; omega),
    by rw [List.length_append, hdl]; rfl, by rw [hr1, ps1]; congr 2; omega, fun h0 => by
     rw [hr2 h0, ps2 (by rw [← hr1]; exact h0), show lv - 1 - (i + 1) = j by omega, List.append_assoc]; rfl, rfl, rfl, rfl⟩
  obtain rfl : i = lv - 1 := by omega
  rw [Nat.sub_self] at hr1 hr2
  refine .bring b2 iI <| x_exit <| .then_exit <| .loop_exit <| .block_exit <| .then_normal <| zr <| mvS rfl <| mvS rfl <| mvS rfl <| tl_e rfl (e_call rfl (hsigned_spec (hg.mono hd5) hbb hbl hkk (by omega) hpk) (by
   rintro _ M6 _ hM6 ⟨rfl, hlt, rfl⟩
   have e : (readP pub sig).1 = 2 := by rw [hr1, parse, if_pos (by omega)]
   exact TP.dropTo L iI (.retA rfl (hd5.trans hM6) ⟨rfl, _, ⟨by rw [e]; decide, rfl⟩, by rw [e]⟩)) ?_)
  rintro _ M6 _ hM6 ⟨hsn, A6, m6, c6, A7, n7, c7, rfl, rfl, hsT, hsD⟩
  have hd6 := hd5.trans hM6
  have hm6 := hsD.size
  rw [sgD, List.length_drop] at hm6
  refine tl_y rfl (y_build rfl) <| tl_e rfl <| e_buildSlice rfl (by decide) <| fun b4 => .pub b4 iI <| fun M8 hM8 hb8 => ?_
  have hd8 := hd6.trans hM8
  refine .bringE E iI <| tl_e rfl <| e_append (by decide) rfl rfl hE (.row (Row.whole (s := 3) (vs := [Value.slice KA kl kc, .slice A7 n7 c7, .slice none 0 0]) hb8 rfl (by omega))) rfl (by omega) (by omega) <| fun AX cX EX hEX => asS rfl <| zq <| .s2 3 7 rfl rfl <| zr <| tLd rfl rfl <| tLen rfl <| tl_y rfl (y_eql rfl rfl) ?_
  refine tl_e rfl (e_call rfl (hmust_spec _ _) (by
   rintro _ _ _ _ ⟨rfl, rfl, ht3, rfl⟩
   have e : (readP pub sig).1 = 5 := by rw [hr1, parse, if_neg (by omega), if_pos (by simp at ht3; omega)]
   exact TP.dropTo L iI (.retA rfl hd8 ⟨rfl, _, ⟨by rw [e]; decide, rfl⟩, by rw [e]⟩)) ?_)
  rintro _ _ _ _ ⟨rfl, rfl, ht3⟩
  have hp0 : parse 0 k b = (0, [⟨k, sgT k b, []⟩]) := by rw [parse, if_neg (by omega), if_neg (by simp at ht3; omega)]
  rw [hp0] at hr1 hr2
  have hr2' := hr2 hr1
  refine .bringE EX iI <| .pubRow hEX <| fun M9 hM9 hrow => zq <| .s1 7 rfl <| zr <| mvS rfl <| asS rfl <| zq <| x_ret (.dropTo L iI (ret1 rfl rfl (hd8.trans hM9) ⟨rfl, _, _, _, _, rfl, hr1, by rw [hr2', List.length_append, hdl]; rfl, hrow, by
   rw [hr2']
   exact ((hPt.mono (hM6.trans (hM8.trans hM9))).snoc (x := ⟨k, sgT k b, []⟩) (hkk.mono (hM6.trans (hM8.trans hM9))) (hsT.mono (hM8.trans hM9)) (Row.nil _ _) (fun _ => rfl))⟩))
 refine x_region <| mvI rfl <| tl_y rfl (y_geq rfl rfl) <| mvB rfl <| tl_cases (s := 17) rfl (fun hk1 => ?_) (fun hk1 => ?_)
 ·
  refine mvI rfl <| tl_y rfl (y_leq rfl rfl) <| tPt rfl rfl <| tl_e rfl (e_call rfl (hmust_spec _ _) (by
   rintro _ _ _ _ ⟨rfl, rfl, ht2, rfl⟩
   have e : (readP pub sig).1 = 3 := by rw [readP, if_neg (by omega), ← hp4e, if_neg (fun h => h hk0), if_neg (fun h => h hpl), if_pos (by first | (cases ht2; done) | (simp at ht2; omega) | omega)]
   exact TP.dropTo L iI (.retA rfl hd ⟨rfl, _, ⟨by rw [e]; decide, rfl⟩, by rw [e]⟩)) ?_)
  rintro _ _ _ _ ⟨rfl, rfl, ht2⟩
  refine zq <| .sub (F' := [(3, _), (5, _), (6, _)]) (cs3 rfl rfl rfl) <| Jq4 _ _ _ _ ?_
  exact ⟨by first | (cases ht2; done) | (simp at ht2; omega) | omega, rfl, rfl, rfl, rfl⟩
 refine sk2 rfl rfl <| tPf rfl rfl <| tl_e rfl (e_call rfl (hmust_spec _ _) (by
  rintro _ _ _ _ ⟨rfl, rfl, ht2, rfl⟩
  have e : (readP pub sig).1 = 3 := by rw [readP, if_neg (by omega), ← hp4e, if_neg (fun h => h hk0), if_neg (fun h => h hpl), if_pos (by first | (cases ht2; done) | (simp at ht2; omega) | omega)]
  exact TP.dropTo L iI (.retA rfl hd ⟨rfl, _, ⟨by rw [e]; decide, rfl⟩, by rw [e]⟩)) ?_)
 rintro _ _ _ _ ⟨rfl, rfl, ht2⟩
 refine zq <| .sub (F' := [(3, _), (5, _), (6, _)]) (cs3 rfl rfl rfl) <| Jq4 _ _ _ _ ?_
 exact ⟨by first | (cases ht2; done) | (simp at ht2; omega) | omega, rfl, rfl, rfl, rfl⟩
end
end Go.Proofs.YtplkoemjffplcaaGreatDoor
