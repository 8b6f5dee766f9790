/-
Contracts of functions, each proved by a walk through its code.
-/
import Derived.Test.YtplkoemjffplcaaGreatDoorLaw11Etc
import Derived.Test.YtplkoemjffplcaaGreatDoorTypes1Etc
import Derived.Test.YtplkoemjffplcaaGreatDoorEngIEtc
set_option linter.all false
namespace Go.Proofs.YtplkoemjffplcaaGreatDoor
open Go Go.Eng
theorem and_low (y : UInt64) {H : Nat} (h : H ≤ 25) : (y &&& (shl64 1 H - 1)).toNat = y.toNat % pw2 H := by
 have h1 := shl64_one h
 have h2 := pw2_pos H
 have h3 := pw2_25 h
 have h4 : (shl64 1 H - 1).toNat = pw2 H - 1 := by
  rw [UInt64.toNat_sub_of_le _ _ (by rw [UInt64.le_iff_toNat_le, h1]; exact h2), h1]; rfl
 rw [UInt64.toNat_and, h4, pw2, Nat.and_two_pow_sub_one_eq_mod]
theorem and_low32 (y : UInt64) {H : Nat} (h : H ≤ 25) : (y &&& (shl64 1 H - 1)).toUInt32.toNat = y.toNat % pw2 H := by
 have h3 := pw2_25 h
 have h5 := Nat.mod_lt y.toNat (pw2_pos H)
 rw [UInt64.toNat_toUInt32, and_low y h, Nat.mod_eq_of_lt (by omega)]
theorem shr_low (y : UInt64) (H : Nat) : (shr64 y H).toNat = y.toNat / pw2 H := by
 have h1 := Nat.div_le_self y.toNat (pw2 H)
 have h2 := y.toNat_lt
 rw [shr64, UInt64.toNat_ofNat', show 2 ^ H = pw2 H from rfl, Nat.mod_eq_of_lt (by omega)]
theorem div_hsum (x a b : Nat) : x / pw2 b / pw2 a = x / pw2 (a + b) := by rw [Nat.div_div_eq_div_mul, ← pw2_add, Nat.add_comm]
section
variable {G : World} {M : Mem} {L : Own}
theorem places_spec (hg : HsG M) {A : Option Addr} {n c : Nat} {pl : List PairV} (h : Row M 2 A n c (prow pl)) (x : UInt64) :
  Con Tryz.prog 51 #[.slice A n c, .int .u64 (x.toNat : Int)] G M L (fun v M' L' => L' = L ∧ okL pl ∧ x.toNat < totN pl ∧ ∃ A' c', v = .slice A' n c' ∧ Row M' 1 A' n c' (u32r (atsN (pl.map tv) x.toNat))) (fun ch M' L' => L' = L ∧ ∃ e, ((¬ okL pl ∧ e = 4) ∨ (okL pl ∧ ¬ x.toNat < totN pl ∧ e = 9)) ∧ ch = hwrong e) := by
 have hln : pl.length = n := by have := h.len; rw [prow, flat_len pcl] at this; omega
 have hmx := h.max
 have hle := h.le
 refine enterM (args := [_, _]) (fn := Tryz.f51) ⟨Tryz.func51, rfl, by kernel_rfl, by kernel_rfl⟩ 37 rfl <| zr <| tl_e rfl <| e_box rfl <| fun b1 => as0 rfl <| zq <| zr <| mvS rfl <| tl_e rfl (e_call rfl (trees_spec hg h) (by
  rintro _ M1 _ hM1 ⟨rfl, hno, rfl⟩
  exact TP.dropTo L iI (.retM0 hM1 ⟨rfl, 4, .inl ⟨hno, rfl⟩, rfl⟩)) ?_)
 rintro _ M1 _ hM1 ⟨rfl, hok, A1, c1, rfl, hrow⟩
 have htot : totN pl = pw2 (hsum (pl.map tv)) := by rw [totN, if_pos hok]
 refine asS rfl <| zq <| .s2 3 5 rfl rfl <| x_seq <| x_draw 5 hmix rfl <| pLd 0 rfl rfl rfl <| pmS 1 rfl rfl <| ze 2 rfl rfl <| e_call' rfl (total_spec hrow (okL_h hok) hok.2.2) ?_
 rintro _ _ _ _ ⟨rfl, rfl, rfl⟩
 refine kp ?_
 refine zp 3 rfl rfl (y_lss rfl rfl) <| to_e 4 rfl (by kernel_rfl) rfl (e_call rfl (hmust_spec _ _) (by
  rintro _ _ _ _ ⟨rfl, rfl, ht, rfl⟩
  exact TP.dropTo L iI (.retM0 hM1 ⟨rfl, 9, .inr ⟨hok, by rw [htot]; simp at ht; omega, rfl⟩, rfl⟩)) ?_)
 rintro _ _ _ _ ⟨rfl, rfl, ht⟩
 have hlt : x.toNat < totN pl := by rw [htot]; simp at ht; omega
 refine kp ?_
 refine zz <| .then_normal <| .s2 3 5 rfl rfl <| zr <| tl_e rfl <| e_alloc <| fun b2 => zq <| zr2 <| mvS rfl <| zca rfl backwardT_spec ?_
 rintro _ _ _ _ ⟨rfl, x0, rfl, rfl⟩
 refine zq <| x_block <| x_rangeN rfl rfl <| fun l r0 fn tm lps las lbd hps has hbd htm => ?_
 obtain ⟨xs, hxs⟩ : ∃ xs : LoopState → Option Code → Option Addr → Nat → Nat → Own → UInt64 → Own, ∀ st pd A k c E y, xs st pd A k c E y = lrec l st pd fn tm lps las lbd r0 :: (r0, .deferred (some [])) :: (b2, .cells #[.slice A k c] 118 (0, 0)) :: (E ++ ((b1, .cells #[.int .u64 (y.toNat : Int)] 38 (0, 0)) :: L)) := ⟨_, fun _ _ _ _ _ _ _ => rfl⟩
 refine Con.postD (Con.to ((x0, .cells #[.slice A1 n c1] 169 (0, 0)) :: xs .ready none none 0 0 [] x) (by rw [hxs, List.nil_append]; infer_instance) (backwardT1_spec hrow (Inv := fun k M2 X2 => ∃ (A6 : Option Addr) (c6 : Nat) (E6 : Own) (y : UInt64), Le M1 M2 ∧ y.toNat = x.toNat / pw2 (hsum ((pl.map tv).drop k)) ∧ OwnRow 61 1 A6 (n - k) c6 (u32r ((atsN (pl.map tv) x.toNat).drop k).reverse) E6 ∧ X2 = xs .ready none A6 (n - k) c6 E6 y) (Dn := fun _ _ => False) ?_ ⟨none, 0, [], x, Le.refl _, by rw [List.drop_of_length_le (by simp; omega)]; simp [hsum, pw2], by rw [List.drop_of_length_le (by rw [atsN_len]; simp; omega), Nat.sub_self]; exact .nil, by rw [Nat.sub_self]⟩)) ?_
 ·
  rintro k M2 X2 t ht hM2 ⟨A6, c6, E6, y, hM12, hy, hE6, rfl⟩
  rw [hxs]
  have hkm : k < n := by have := (List.getElem?_eq_some_iff.1 ht).1; simp at this; omega
  obtain ⟨hH, hH1, hH25⟩ := okL_h hok t (List.mem_of_getElem? ht)
  have hds := hsum_drop ht
  have hn8 : n ≤ 8 := by have := hok.1.2; omega
  have hat : y.toNat % pw2 (hN t) = atN (pl.map tv) x.toNat k := by
   rw [atN, hy, List.getD_eq_getElem?_getD, ht]; rfl
  have hdr := drop_rev (atsN_get (pl.map tv) x.toNat (i := k) (by simp; omega))
  subst hps
  subst has
  subst hbd
  refine ycon_body htm rfl (by kernel_rfl) <| fun R1 => ?_
  simp only [List.cons_append, List.append_assoc]
  refine x_region <| tl_e rfl <| e_alloc <| fun b7 => tl_e rfl <| e_sT rfl rfl <| .bring l iI <| tl_nil <| .asg (by kernel_rfl) <| x_block <| x_seq ?_
  have he : Le M2 M2 := Le.refl _
  refine x_draw 9 hmix rfl <| pLd 0 rfl rfl rfl <| pFa 2 rfl rfl <| to_two 1 3 (by kernel_rfl) ?_ ?_
  ·
   refine two_e 1 rfl rfl <| tr_y2 (y_ld rfl rfl) <| ⟨⟨he, Keeps.mem⟩, ?_⟩
   refine zy1 3 rfl rfl (y_load (v := .int .i64 ((hN t : Nat) : Int)) rfl rfl (by rw [← hH]; exact .own iI iI)) <| zp 4 rfl rfl (y_shl64 (a := 1) rfl rfl) <| zp 5 rfl rfl (y_sub64 (b := 1) rfl rfl) <| zp 6 rfl rfl (y_and64 rfl rfl) <| zp 7 rfl rfl (y_u64u32 rfl) ?_
   rw [show u32v ((y &&& (shl64 1 (hN t) - 1)).toUInt32) = .int .u32 ((atN (pl.map tv) x.toNat k : Nat) : Int) from congrArg (fun (x : Nat) => Value.int .u32 (x : Int)) ((and_low32 y hH25).trans hat)]
   refine ze 8 rfl rfl <| e_buildSlice rfl (by decide) <| fun b8 => ⟨⟨he, Keeps.mem⟩, ?_⟩
   refine .pub b8 iI <| fun M5 hM5 hb8 => ?_
   replace he := he.trans hM5
   refine .bringE E6 iI <| zt 9 rfl rfl <| e_append (by decide) rfl rfl hE6 (.row (Row.whole (s := 1) hb8 rfl (by omega))) rfl (by omega) (by omega) <| fun A9 c9 E9 hE9 => ?_
   have hrr : u32r ((atsN (pl.map tv) x.toNat).drop (k + 1)).reverse ++ [Value.int .u32 ((atN (pl.map tv) x.toNat k : Nat) : Int)] = u32r ((atsN (pl.map tv) x.toNat).drop k).reverse := by rw [hdr]; simp [u32r]
   rw [hrr, show n - (k + 1) + 1 = n - k by omega] at hE9
   rw [show n - (k + 1) + 1 = n - k by omega]
   refine zt 10 rfl rfl <| e_sT rfl rfl <| zz <| .then_normal <| .s2 3 8 rfl rfl <| x_region <| tLd rfl rfl <| tFa rfl <| tl_y rfl (y_load (v := .int .i64 ((hN t : Nat) : Int)) rfl rfl (by rw [← hH]; exact .own iI iI)) <| tl_y rfl (y_shr64 rfl rfl) <| tl_e rfl <| e_sT rfl rfl <| tl_nil (.block_normal (.on ((r0, .deferred (some [])) :: (b2, .cells #[.slice A9 (n - k) c9] 118 (0, 0)) :: (E9 ++ ((b1, .cells #[.int .u64 ((shr64 y (hN t)).toNat : Int)] 38 (0, 0)) :: (L ++ R1)))) iI iI
    (X := (r0, .deferred (some [])) :: (b2, .cells #[.slice A9 (n - k) c9] 118 (0, 0)) :: (E9 ++ ((b1, .cells #[.int .u64 ((shr64 y (hN t)).toNat : Int)] 38 (0, 0)) :: L))) (by simp) he ⟨A9, c9, E9, shr64 y (hN t), hM12.trans he, by rw [shr_low, hy, div_hsum, ← hds], hE9, (hxs _ _ _ _ _ _ _).symm⟩))
  refine two_e 3 rfl rfl <| tr_y2 (y_load (v := .int .i64 ((hN t : Nat) : Int)) rfl rfl (by rw [← hH]; exact .own iI iI)) <| ⟨⟨he, Keeps.mem⟩, ?_⟩
  refine zp 4 rfl rfl (y_shl64 (a := 1) rfl rfl) <| zp 5 rfl rfl (y_sub64 (b := 1) rfl rfl) <| zy1 1 rfl rfl (y_ld rfl rfl) <| zp 6 rfl rfl (y_and64 rfl rfl) <| zp 7 rfl rfl (y_u64u32 rfl) ?_
  rw [show u32v ((y &&& (shl64 1 (hN t) - 1)).toUInt32) = .int .u32 ((atN (pl.map tv) x.toNat k : Nat) : Int) from congrArg (fun (x : Nat) => Value.int .u32 (x : Int)) ((and_low32 y hH25).trans hat)]
  refine ze 8 rfl rfl <| e_buildSlice rfl (by decide) <| fun b8 => ⟨⟨he, Keeps.mem⟩, ?_⟩
  refine .pub b8 iI <| fun M5 hM5 hb8 => ?_
  replace he := he.trans hM5
  refine .bringE E6 iI <| zt 9 rfl rfl <| e_append (by decide) rfl rfl hE6 (.row (Row.whole (s := 1) hb8 rfl (by omega))) rfl (by omega) (by omega) <| fun A9 c9 E9 hE9 => ?_
  have hrr : u32r ((atsN (pl.map tv) x.toNat).drop (k + 1)).reverse ++ [Value.int .u32 ((atN (pl.map tv) x.toNat k : Nat) : Int)] = u32r ((atsN (pl.map tv) x.toNat).drop k).reverse := by rw [hdr]; simp [u32r]
  rw [hrr, show n - (k + 1) + 1 = n - k by omega] at hE9
  rw [show n - (k + 1) + 1 = n - k by omega]
  refine zt 10 rfl rfl <| e_sT rfl rfl <| zz <| .then_normal <| .s2 3 8 rfl rfl <| x_region <| tLd rfl rfl <| tFa rfl <| tl_y rfl (y_load (v := .int .i64 ((hN t : Nat) : Int)) rfl rfl (by rw [← hH]; exact .own iI iI)) <| tl_y rfl (y_shr64 rfl rfl) <| tl_e rfl <| e_sT rfl rfl <| tl_nil (.block_normal (.on ((r0, .deferred (some [])) :: (b2, .cells #[.slice A9 (n - k) c9] 118 (0, 0)) :: (E9 ++ ((b1, .cells #[.int .u64 ((shr64 y (hN t)).toNat : Int)] 38 (0, 0)) :: (L ++ R1)))) iI iI
   (X := (r0, .deferred (some [])) :: (b2, .cells #[.slice A9 (n - k) c9] 118 (0, 0)) :: (E9 ++ ((b1, .cells #[.int .u64 ((shr64 y (hN t)).toNat : Int)] 38 (0, 0)) :: L))) (by simp) he ⟨A9, c9, E9, shr64 y (hN t), hM12.trans he, by rw [shr_low, hy, div_hsum, ← hds], hE9, (hxs _ _ _ _ _ _ _).symm⟩))
 rintro v M3 L3 hM3 ⟨X', rfl, hX⟩
 rcases hX with ⟨A6, c6, E6, y, hM13, hy, hE6, rfl⟩ | hX
 ·
  refine ⟨lrec l .ready none fn tm lps las lbd r0 :: (r0, .deferred (some [])) :: (b2, .cells #[.slice A6 (n - 0) c6] 118 (0, 0)) :: (E6 ++ ((b1, .cells #[.int .u64 (y.toNat : Int)] 38 (0, 0)) :: L)), by rw [hxs]; infer_instance, .ready, none, _, by simp, rfl, ?_⟩
  rw [Nat.sub_zero] at hE6 ⊢
  have hn1 := hok.1.1
  refine .block_normal <| .then_normal <| .s1 6 rfl <| zr <| tLd rfl rfl <| .bringE E6 iI <| zca rfl (reverse_spec hE6 (by omega)) ?_
  rintro _ _ _ _ ⟨rfl, E8, rfl, hE8⟩
  rw [List.drop_zero, List.reverse_reverse] at hE8
  refine zq <| zr <| tLd rfl rfl <| asS rfl <| zq <| .s1 4 rfl <| x_ret (.pubRow hE8 fun M9 hM9 hr9 => .retM1 (r := r0) (L1 := L) iI (rv1 rfl (rc_tmp (by rfl))) iI (hM1.trans (hM13.trans hM9)) ⟨rfl, hok, hlt, _, _, rfl, hr9⟩)
 exact hX.elim
end
def plE (l : List PairV) (x : Nat) : Int := if okL l then (if x < totN l then 0 else 9) else 4
section
variable {G : World} {M : Mem} {L : Own}
end
theorem atN_lt {ts : List TreeV} {i : Nat} {t : TreeV} (h : ts[i]? = some t) (x : Nat) : atN ts x i < pw2 (hN t) := by
 have hg : ts.getD i tree0 = t := by rw [List.getD_eq_getElem?_getD, h]; rfl
 rw [atN, hg]
 exact Nat.mod_lt _ (pw2_pos _)
section
variable {G : World} {M : Mem} {L : Own}
end
def belE (x : PairV) (nl sl : Nat) : Int := if ¬ okP x then 4 else if ¬ okY (otsV x.o) nl sl then 1 else 0
def belN (x : PairV) (name sec : List UInt8) (q : Nat) : List UInt8 := (hidB (otsV x.o) name sec q 65535).take 16
def belS (x : PairV) (name sec : List UInt8) (q : Nat) : List UInt8 := hidB (otsV x.o) name sec q 65534
theorem bel_len {x : PairV} {n w p H : Nat} (hx : PF x n w p H) (name sec : List UInt8) (q : Nat) : (belN x name sec q).length = 16 ∧ (belS x name sec q).length = n := by
 have h1 := hidB_len hx.o name sec q 65535
 have h2 := hx.o.n32
 exact ⟨by rw [belN, List.length_take, h1]; omega, hidB_len hx.o name sec q 65534⟩
def seedR (l : List PairV) (at_ : List Nat) (name sec : List UInt8) : Nat → List UInt8 × List UInt8
 | 0 => (name, sec)
 | i + 1 => (belN (l.getD i p0) (seedR l at_ name sec i).1 (seedR l at_ name sec i).2 (at_.getD i 0), belS (l.getD i p0) (seedR l at_ name sec i).1 (seedR l at_ name sec i).2 (at_.getD i 0))
def canB (l : List PairV) (nl sl : Nat) : Prop := ∀ p ∈ l, (tv p).h ≤ 10 ∧ okY (otsV p.o) nl sl
instance {l : List PairV} {nl sl : Nat} : Decidable (canB l nl sl) := inferInstanceAs (Decidable (∀ p ∈ l, _))
def canE (l : List PairV) (nl sl : Nat) : Int := if ¬ okL l then 4 else if ¬ canB l nl sl then 1 else 0
theorem canE_zero {l : List PairV} {nl sl : Nat} (h : canE l nl sl = 0) : okL l ∧ canB l nl sl := by
 unfold canE at h
 split at h
 ·
  cases h
 rename_i h1
 split at h
 ·
  cases h
 rename_i h2
 exact ⟨Classical.not_not.1 h1, Classical.not_not.1 h2⟩
theorem canE_ok {l : List PairV} {nl sl : Nat} (h1 : okL l) (h2 : canB l nl sl) : canE l nl sl = 0 := by rw [canE, if_neg (fun h => h h1), if_neg (fun h => h h2)]
theorem okL_get {l : List PairV} (h : okL l) {i : Nat} (hi : i < l.length) : okP (l.getD i p0) ∧ l.getD i p0 ∈ l ∧ l[i]? = some (l.getD i p0) ∧ (otsV (l.getD i p0).o).n = (tv (l.getD 0 p0)).n := by
 have e : l[i]? = some (l.getD i p0) := by rw [List.getD_eq_getElem?_getD, List.getElem?_eq_getElem hi]; rfl
 have hm := List.mem_of_getElem? e
 have hg := h.2.1 _ hm
 exact ⟨hg.1, hm, e, hg.1.2.2.2.trans hg.2.2⟩
theorem seedR_ok {l : List PairV} {nl sl : Nat} (hok : okL l) (hc : canB l nl sl) (at_ : List Nat) {name sec : List UInt8} (hn : name.length = nl) (hs : sec.length = sl) : ∀ i, i ≤ l.length → (seedR l at_ name sec i).1.length = 16 ∧ ((seedR l at_ name sec i).2.length : Int) = (tv (l.getD 0 p0)).n
 | 0, _ => by
  obtain ⟨h1, h2, h3, h4⟩ := okL_get hok (i := 0) (by have := hok.1.1; omega)
  obtain ⟨h5, h6⟩ := hc _ h2
  exact ⟨by rw [seedR, hn]; exact h6.2.1, by rw [seedR, hs, ← h4]; exact h6.2.2⟩
 | i + 1, hi => by
  obtain ⟨h1, h2, h3, h4⟩ := okL_get hok (i := i) (by omega)
  obtain ⟨n, w, p, H, hx⟩ := okP_facts h1
  obtain ⟨k1, k2⟩ := bel_len hx (seedR l at_ name sec i).1 (seedR l at_ name sec i).2 (at_.getD i 0)
  refine ⟨k1, ?_⟩
  rw [seedR, k2, ← h4, hx.o.hn]
theorem seedR_may {l : List PairV} {nl sl : Nat} (hok : okL l) (hc : canB l nl sl) (at_ : List Nat) {name sec : List UInt8} (hn : name.length = nl) (hs : sec.length = sl) {i j : Nat} (hi : i ≤ l.length) (hj : j < l.length) :
  okY (otsV (l.getD j p0).o) (seedR l at_ name sec i).1.length (seedR l at_ name sec i).2.length ∧ mayC (l.getD j p0) (seedR l at_ name sec i).1.length (seedR l at_ name sec i).2.length = 0 := by
 obtain ⟨h1, h2, h3, h4⟩ := okL_get hok hj
 obtain ⟨k1, k2⟩ := seedR_ok hok hc at_ hn hs i hi
 have hy : okY (otsV (l.getD j p0).o) (seedR l at_ name sec i).1.length (seedR l at_ name sec i).2.length := ⟨(otsV_code h1.1).2, k1, by rw [k2, h4]⟩
 exact ⟨hy, mayC_ok h1 (hc _ h2).1 hy⟩
def pubR (l : List PairV) (at_ : List Nat) (name sec : List UInt8) (i : Nat) : List UInt8 := pubB (l.getD i p0) (seedR l at_ name sec i).1 (seedR l at_ name sec i).2
def nextR (l : List PairV) (at_ : List Nat) (name sec text : List UInt8) (i : Nat) : List UInt8 := if i + 1 < l.length then pubR l at_ name sec (i + 1) else text
def sgR (l : List PairV) (at_ : List Nat) (name sec text : List UInt8) (i : Nat) : List UInt8 := lsigB (l.getD i p0) (seedR l at_ name sec i).1 (seedR l at_ name sec i).2 (at_.getD i 0) (nextR l at_ name sec text i)
def levR (l : List PairV) (at_ : List Nat) (name sec text : List UInt8) (i : Nat) : List UInt8 := sgR l at_ name sec text i ++ (if i + 1 < l.length then pubR l at_ name sec (i + 1) else [])
def hsigB (l : List PairV) (at_ : List Nat) (name sec text : List UInt8) : List UInt8 := putB (l.length - 1) 4 ++ catR (levR l at_ name sec text) l.length
def hpubB (l : List PairV) (name sec : List UInt8) : List UInt8 := putB l.length 4 ++ pubB (l.getD 0 p0) name sec
def hpubV (l : List PairV) (nl sl : Nat) (name sec : List UInt8) : List UInt8 := if canE l nl sl = 0 then hpubB l name sec else []
def hsigE (l : List PairV) (nl sl x tl : Nat) : Int := if canE l nl sl ≠ 0 then canE l nl sl else if 65536 < tl then 1 else plE l x
def hsigV (l : List PairV) (nl sl x tl : Nat) (name sec text : List UInt8) : List UInt8 := if hsigE l nl sl x tl = 0 then hsigB l (atsN (l.map tv) x) name sec text else []
structure PartB where
 key : List UInt8
 sig : List UInt8
 next : List UInt8
def keyE (bs : List UInt8) : Int := if bs.length < 8 then 2 else if ¬ okP (pairC bs) then 4 else if bs.length < pubN (pairC bs) then 2 else 0
theorem keyE_zero {bs : List UInt8} (h : keyE bs = 0) : 8 ≤ bs.length ∧ okP (pairC bs) ∧ pubN (pairC bs) ≤ bs.length := by
 unfold keyE at h
 split at h
 ·
  cases h
 split at h
 ·
  cases h
 split at h
 ·
  cases h
 rename_i h1 h2 h3
 exact ⟨by omega, Classical.not_not.1 h2, by omega⟩
def keyT (bs : List UInt8) : List UInt8 := bs.take (pubN (pairC bs))
def keyD (bs : List UInt8) : List UInt8 := bs.drop (pubN (pairC bs))
def sgT (k b : List UInt8) : List UInt8 := b.take (sigN (pairC k))
def sgD (k b : List UInt8) : List UInt8 := b.drop (sigN (pairC k))
def parse : Nat → List UInt8 → List UInt8 → Int × List PartB
 | 0, k, b => if b.length < sigN (pairC k) then (2, []) else if b.length ≠ sigN (pairC k) then (5, []) else (0, [⟨k, sgT k b, []⟩])
 | m + 1, k, b => if b.length < sigN (pairC k) then (2, []) else if keyE (sgD k b) ≠ 0 then (keyE (sgD k b), []) else
   if (parse m (keyT (sgD k b)) (keyD (sgD k b))).1 ≠ 0 then ((parse m (keyT (sgD k b)) (keyD (sgD k b))).1, []) else
   (0, ⟨k, sgT k b, keyT (sgD k b)⟩ :: (parse m (keyT (sgD k b)) (keyD (sgD k b))).2)
def readP (pub sig : List UInt8) : Int × List PartB :=
 if pub.length < 4 then (2, []) else if keyE (pub.drop 4) ≠ 0 then (keyE (pub.drop 4), []) else if (pub.drop 4).length ≠ pubN (pairC (pub.drop 4)) then (5, []) else
 if getB (pub.take 4) < 1 ∨ 8 < getB (pub.take 4) then (3, []) else if sig.length < 4 then (2, []) else if getB (sig.take 4) ≠ getB (pub.take 4) - 1 then (3, []) else
 parse (getB (pub.take 4) - 1) (pub.drop 4) (sig.drop 4)
def partF (text : List UInt8) (x : PartB) : Prop := fitK x.key (if x.next = [] then text.length else x.next.length) (if x.next = [] then text else x.next) x.sig
instance {text : List UInt8} {x : PartB} : Decidable (partF text x) := inferInstanceAs (Decidable (fitK _ _ _ _))
structure DS where
 sure : List (List UInt8)
 pend : List (Int × List UInt8)
 fail : List Int
 stop : Int
 count : Int
 down : Bool
structure DRep where
 sa : Option Addr
 sn : Nat
 sc : Nat
 sv : List Value
 E1 : Own
 pa : Option Addr
 pn : Nat
 pc : Nat
 pv : List Value
 E2 : Own
 fa : Option Addr
 fn : Nat
 fc : Nat
abbrev dcells (r : DRep) (S : DS) : List Value := [.slice r.sa r.sn r.sc, .slice r.pa r.pn r.pc, .slice r.fa r.fn r.fc, .int .i64 S.stop, .int .i64 S.count, .bool S.down]
abbrev dL (p : Nat) (r : DRep) (S : DS) (R : Own) : Own := (p, .cells (List.toArray (dcells r S)) 75 (0, 0)) :: (r.E1 ++ (r.E2 ++ R))
structure IsDisk (M : Mem) (r : DRep) (S : DS) : Prop where
 s : OwnRow 22 1 r.sa r.sn r.sc r.sv r.E1
 p : OwnRow 141 2 r.pa r.pn r.pc r.pv r.E2
 sure : BRows M r.sv S.sure
 pend : PRows M r.pv S.pend
 fail : Ints M r.fa r.fn r.fc S.fail
 sl : ∀ b ∈ S.sure, b.length = 64
 pl : ∀ q ∈ S.pend, q.2.length = 64 ∧ 0 ≤ q.1 ∧ q.1 < S.sure.length
 sz : S.sure.length ≤ 256
theorem IsDisk.mono {M M' : Mem} {r : DRep} {S : DS} (h : IsDisk M r S) (hle : Le M M') : IsDisk M' r S := ⟨h.s, h.p, h.sure.mono hle, h.pend.mono hle, h.fail.mono hle, h.sl, h.pl, h.sz⟩
theorem IsDisk.sn {M : Mem} {r : DRep} {S : DS} (h : IsDisk M r S) : r.sn = S.sure.length := by have := h.s.len; have := h.sure.len; omega
theorem IsDisk.pn {M : Mem} {r : DRep} {S : DS} (h : IsDisk M r S) : r.pn = S.pend.length := by have := h.p.len; have := h.pend.len; omega
section
variable {G : World} {M : Mem} {R : Own} {p : Nat} {r : DRep} {S : DS}
def DK (p : Nat) (S : DS) (R : Own) (M' : Mem) (L' : Own) : Prop := ∃ r', IsDisk M' r' S ∧ L' = dL p r' S R
theorem is_spec (h : IsDisk M r S) (i : Int) :
  Con Tryz.prog 233 #[.pointer (some ⟨p, 0, none⟩), .int .i64 i] G M (dL p r S R) (fun v M' L' => M' = M ∧ L' = dL p r S R ∧ v = .bool (decide (0 ≤ i ∧ i < S.sure.length))) noPanic := by
 have hsn := h.sn
 refine zfn Tryz.func233 rfl 16 rfl <| zr <| as0 rfl <| zq <| zr <| mvI rfl <| tl_y rfl (y_geq rfl rfl) <| mvB rfl <| tl_cases (s := 7) rfl (fun hk1 => ?_) (fun hk1 => ?_)
 ·
  refine mvI rfl <| mvP rfl <| zc rfl <| tFa rfl <| tLd rfl rfl <| tLen rfl <| tl_y rfl (y_lss rfl rfl) <| tPt rfl rfl <| asB rfl <| zq <| .s1 4 rfl <| x_ret (ret1 rfl rfl lR ⟨rfl, rfl, by congr 1; rw [decide_eq_decide]; omega⟩)
 refine sk7 rfl rfl rfl rfl rfl rfl rfl <| tPf rfl rfl <| asB rfl <| zq <| .s1 4 rfl <| x_ret (ret1 rfl rfl lR ⟨rfl, rfl, by rw [decide_eq_false]; omega⟩)
def zeros : List UInt8 := List.replicate 64 0
def fresh (n : Nat) : DS := { sure := List.replicate n zeros, pend := [], fail := [], stop := 0, count := 0, down := false }
theorem New_spec {L : Own} (n : Int) :
  Con Tryz.prog 8 #[.int .i64 n] G M L (fun v M' L' => if n < 1 ∨ 256 < n then M' = M ∧ L' = L ∧ v = .tuple #[.pointer none, .int .i64 1] else ∃ p, DK p (fresh n.toNat) L M' L' ∧ v = .tuple #[.pointer (some ⟨p, 0, none⟩), .int .i64 0]) noPanic := by
 refine zfn Tryz.func8 rfl 28 rfl <| zr <| as0 rfl <| as0 rfl <| zq <| zr2 <| mvI rfl <| tl_y rfl (y_lss rfl rfl) <| mvB rfl <| tl_cases (s := 7) rfl (fun hk1 => ?_) (fun hk1 => ?_)
 ·
  refine sk2 rfl rfl <| tPt rfl rfl <| zq <| .s2 0 10 rfl rfl <| x_true rfl rfl <| zr <| as0 rfl <| as0 rfl <| zq <| x_ret (.then_ret (ret2 rfl rfl rfl lR (by rw [if_pos (by omega)]; exact ⟨rfl, rfl, rfl⟩)))
 refine mvI rfl <| tl_y rfl (y_gtr rfl rfl) <| tPf rfl rfl <| zq <| .s2 0 10 rfl rfl <| x_cond rfl (fun hc1 => ?_) (fun hc1 => ?_)
 ·
  refine zr <| as0 rfl <| as0 rfl <| zq <| x_ret (.then_ret (ret2 rfl rfl rfl lR (by rw [if_pos (by omega)]; exact ⟨rfl, rfl, rfl⟩)))
 refine x_skip <| .then_normal <| zr <| tl_y rfl (y_build rfl) <| tl_e rfl <| e_box rfl <| fun b1 => asP rfl <| zq <| zr2 <| mvI rfl <| mv0 rfl <| zq <| .s3 4 13 14 rfl rfl rfl <| x_block ?_
 refine x_loop (I := fun m' F D M1 L1 => ∃ (k : Nat) (A : Option Addr) (c : Nat) (vs : List Value) (E : Own), m' = n.toNat - k ∧ k ≤ n.toNat ∧ Le M M1 ∧ OwnRow 22 1 A k c vs E ∧ BRows M1 vs (List.replicate k zeros) ∧ D = [] ∧ L1 = (b1, .cells #[.slice A k c, .slice none 0 0, .slice none 0 0, .int .i64 0, .int .i64 0, .bool false] 75 (0, 0)) :: (E ++ L) ∧ F = [(4, .pointer (some ⟨b1, 0, none⟩)), (13, .int .i64 n), (14, .int .i64 k)]) (n.toNat) (F0 := [(4, _), (13, _), (14, _)]) ?_ (cs3 rfl rfl rfl) ?_
 ·
  exact ⟨0, none, 0, [], [], rfl, by omega, Le.refl _, OwnRow.nil, .nil, rfl, rfl, rfl⟩
 rintro m _ _ M1 L1 ⟨k, A, c, vs, E, rfl, hk, hM1, hE, hvs, rfl, rfl, rfl⟩
 refine zr <| tl_y rfl (y_lss rfl rfl) <| zq <| x_seq <| x_cond rfl (fun hc2 => ?_) (fun hc2 => ?_)
 ·
  refine x_skip <| .then_normal <| x_seq <| x_block <| x_draw 7 hmix rfl <| pmP 0 rfl rfl <| pmP 1 rfl rfl <| zp 2 rfl rfl (y_nilCheck rfl) <| pFa 3 rfl rfl <| pLd 4 rfl rfl rfl <| ze 5 rfl rfl <| e_make1 rfl rfl (by omega) (by omega) (by omega) (by omega) <| fun b2 => ?_
  refine kp ?_
  refine ze 6 rfl rfl <| e_buildSlice rfl (by decide) <| fun b3 => kp ?_
  refine .bringE E iI <| zt 7 rfl rfl <| e_append (E := E) (by decide) rfl rfl hE (.own iI rfl) rfl (by omega) (by omega) <| fun A' cap' E' hE' => zp 8 rfl rfl (y_nilCheck rfl) <| pFa 9 rfl rfl <| zt 10 rfl rfl <| e_sT rfl rfl <| zz <| .block_normal <| .then_normal <| .pub b2 iI <| fun M2 hM2 hb2 => .dropTo ((b1, .cells #[.slice A' (k + 1) cap', .slice none 0 0, .slice none 0 0, .int .i64 0, .int .i64 0, .bool false] 75 (0, 0)) :: (E' ++ L)) iI ?_
  refine .s3 4 13 14 rfl rfl rfl <| x_region <| tl_y rfl (y_addI rfl rfl (by omega)) <| mvI rfl <| tl_nil <| .loop_next (m' := n.toNat - (k + 1)) (by omega) (F' := [(4, _), (13, _), (14, _)]) (cs3 rfl rfl rfl) ?_
  exact ⟨k + 1, A', cap', _, E', rfl, by omega, hM1.trans hM2, hE', by rw [List.replicate_succ']; exact (hvs.mono hM2).snoc (Bytes.zeros hb2 (by omega)), rfl, rfl, rfl⟩
 refine x_exit <| .then_exit <| .loop_exit <| .block_exit <| .then_normal <| zr <| mvP rfl <| asP rfl <| as0 rfl <| zq <| .s2 2 3 rfl rfl <| x_ret (ret2 rfl rfl rfl hM1 (by
 rw [if_neg (by omega)]
 have hkn : k = n.toNat := by omega
 subst hkn
 exact ⟨b1, ⟨{ sa := A, sn := n.toNat, sc := c, sv := vs, E1 := E, pa := none, pn := 0, pc := 0, pv := [], E2 := [], fa := none, fn := 0, fc := 0 }, ⟨hE, .nil, hvs, .nil, .nil _ _, by intro b hb; rw [(List.mem_replicate.1 hb).2]; simp [zeros], by intro q hq; simp [fresh] at hq, by simp [fresh]; omega⟩, rfl⟩, rfl⟩))
end
section
variable {G : World} {M : Mem} {R : Own} {p : Nat} {r : DRep} {S : DS}
def BRow (M : Mem) (v : Value) (bss : List (List UInt8)) : Prop := ∃ A n c vs, v = .slice A n c ∧ Row M 1 A n c vs ∧ BRows M vs bss
theorem Sure_spec (h : IsDisk M r S) :
  Con Tryz.prog 17 #[.pointer (some ⟨p, 0, none⟩)] G M (dL p r S R) (fun v M' L' => L' = dL p r S R ∧ BRow M' v S.sure) noPanic := by
 have hsn := h.sn
 have hsz := h.sz
 have hsv := h.sure.len
 refine zfn Tryz.func17 rfl 22 rfl <| zr <| as0 rfl <| zq <| zr <| as0 rfl <| zq <| zr2 <| mvP rfl <| zc rfl <| tFa rfl <| tLd rfl rfl <| tLen rfl <| mv0 rfl <| zq <| .s4 3 9 10 11 rfl rfl rfl rfl <| x_block ?_
 refine x_loop (I := fun m' F D M1 L1 => ∃ (k : Nat) (A : Option Addr) (c : Nat) (vs : List Value) (E : Own), m' = r.sn - k ∧ k ≤ r.sn ∧ Le M M1 ∧ OwnRow 22 1 A k c vs E ∧ BRows M1 vs (S.sure.take k) ∧ D = [] ∧ L1 = E ++ dL p r S R ∧ F = [(3, .slice A k c), (9, .slice r.sa r.sn r.sc), (10, .int .i64 r.sn), (11, .int .i64 k)]) (r.sn) (F0 := [(3, _), (9, _), (10, _), (11, _)]) ?_ (cs4 rfl rfl rfl rfl) ?_
 ·
  exact ⟨0, none, 0, [], [], rfl, by omega, Le.refl _, OwnRow.nil, .nil, rfl, rfl, rfl⟩
 rintro m _ _ M1 L1 ⟨k, A, c, vs, E, rfl, hk, hM1, hE, hvs, rfl, rfl, rfl⟩
 refine zr <| tl_y rfl (y_lss rfl rfl) <| zq <| x_seq <| x_cond rfl (fun hc1 => ?_) (fun hc1 => ?_)
 ·
  have hkn : k < r.sn := by omega
  obtain ⟨g, o, hsa, hcell⟩ := h.s.cellIn (M := M1) (L := E ++ dL p r S R) iI (by omega)
  obtain ⟨A1, n1, c1, hv1, hb1⟩ := (h.sure.mono hM1).get k (by omega)
  have hbl := h.sl (S.sure.getD k []) (by rw [List.getD_eq_getElem?_getD, List.getElem?_eq_getElem (by omega)]; exact List.getElem_mem _)
  have hn1 := hb1.size
  refine x_skip <| .then_normal <| x_seq <| x_block <| zr <| tl_y rfl (y_indexAddr (b := g) (o := o) (by rw [hsa]; rfl) rfl (by omega)) <| tl_y rfl (y_load rfl rfl (.at_ (hcell k _ hv1) (by omega))) <| asS rfl <| zq <| x_region <| mvS rfl <| mvS rfl ?_
  refine zca rfl (bytesClone_spec hb1 (by omega)) ?_
  rintro _ M2 L2 hM2 ⟨rfl, A2, c2, rfl, hA2⟩
  refine tl_e rfl <| e_buildSlice rfl (by decide) <| fun b1 => .bringE E iI <| tl_e rfl <| e_append (E := E) (by decide) rfl rfl hE (.own iI rfl) rfl (by omega) (by omega) <| fun A' cap' E' hE' => asS rfl <| tl_nil <| .block_normal <| .then_normal <| .dropTo (E' ++ dL p r S R) iI <| .s4 3 9 10 11 rfl rfl rfl rfl <| x_region <| tl_y rfl (y_addI rfl rfl (by omega)) <| mvI rfl <| tl_nil <| .loop_next (m' := r.sn - (k + 1)) (by omega) (F' := [(3, _), (9, _), (10, _), (11, _)]) (cs4 rfl rfl rfl rfl) ?_
  exact ⟨k + 1, A', cap', _, E', rfl, by omega, hM1.trans hM2, hE', by
   have ht : S.sure.take (k + 1) = S.sure.take k ++ [S.sure.getD k []] := by rw [List.take_add_one, List.getD_eq_getElem?_getD, List.getElem?_eq_getElem (show k < S.sure.length by omega)]; rfl
   rw [ht]; exact (hvs.mono hM2).snoc hA2, rfl, rfl, rfl⟩
 refine x_exit <| .then_exit <| .loop_exit <| .block_exit <| .then_normal <| .s1 3 rfl <| zr <| mvS rfl <| asS rfl <| zq <| x_ret (.pubRow hE fun M' hle hr => ret1 rfl rfl (hM1.trans hle) ⟨rfl, _, _, _, _, rfl, hr, by
  have hkn : k = S.sure.length := by omega
  have := hvs.mono hle
  rwa [hkn, List.take_length] at this⟩)
def gonev (e : Int) : Value := .iface 336 (.agg #[.int .i64 e])
theorem doing1_ret {L : Own} {b : Nat} {o : Obj} : ConD Tryz.prog 265 #[.pointer (some ⟨b, 0, none⟩)] .returning G M ((b, o) :: L) (fun u' M' L' => u' = .returning ∧ M' = M ∧ L' = (b, o) :: L) := by
 refine enterRec (args := [_]) (fn := Tryz.f265) ⟨Tryz.func265, rfl, by kernel_rfl, by kernel_rfl⟩ 12 rfl rfl <| x_block <| zr <| tl_y rfl (y_eqNilIface rfl rfl) <| zq <| x_true rfl (rfl) <| x_region <| as0 rfl <| tl_nil (.block_normal (.rec_normal lR ⟨rfl, rfl, rfl⟩))
theorem doing1_gone {L : Own} {b : Nat} {x e : Int} : ConD Tryz.prog 265 #[.pointer (some ⟨b, 0, none⟩)] (.panicking [{ v := gonev e, recovered := false }]) G M ((b, .cells #[.int .i64 x] 25 (0, 0)) :: L)
  (fun u' M' L' => u' = .panicking [{ v := gonev e, recovered := true }] ∧ M' = M ∧ L' = (b, .cells #[.int .i64 e] 25 (0, 0)) :: L) := by
 refine enterRec (args := [_]) (fn := Tryz.f265) ⟨Tryz.func265, rfl, by kernel_rfl, by kernel_rfl⟩ 12 rfl rfl <| x_block <| zr <| tl_y rfl (y_eqIfaceNil rfl rfl) <| zq <| x_false rfl (rfl) <| zr <| tl_y rfl (y_assertOk rfl (by intro _ h; cases h)) <| zx rfl <| zx rfl <| zq <| x_true rfl (rfl) <| zr <| tl_e rfl <| e_alloc <| fun b1 => tl_e rfl <| e_sT rfl rfl <| zq <| .s2 0 2 rfl rfl <| x_region <| tFa rfl <| tLd rfl rfl <| tl_e rfl <| e_sT rfl rfl <| tl_nil (.block_normal (.dropTo ((b, .cells #[.int .i64 e] 25 (0, 0)) :: L) iI (.rec_normal lR ⟨rfl, rfl, rfl⟩)))
def doingRes (S S2 : DS) : DS × Int :=
 if S.down then (S, 6) else if S.count + 1 = S.stop then ({ S with count := S.count + 1, down := true }, 6) else
 if S.count + 1 ∈ S.fail then ({ S with count := S.count + 1 }, 7) else (S2, 0)
theorem doing_spec (h : IsDisk M r S) {S2 : DS} (hc : -4611686018427387904 ≤ S.count ∧ S.count ≤ 4611686018427387904) {wf : FuncId} {first cap : List Value}
  (hwhat : S.down = false → ∀ b o, Con Tryz.prog wf (first ++ [] ++ cap).toArray G M (dL p r { S with count := S.count + 1 } ((b, o) :: R)) (fun v M' L' => DK p S2 ((b, o) :: R) M' L') noPanic) :
  Con Tryz.prog 234 #[.pointer (some ⟨p, 0, none⟩), .func (.func wf) first.toArray cap.toArray] G M (dL p r S R) (fun v M' L' => DK p (doingRes S S2).1 R M' L' ∧ v = .int .i64 (doingRes S S2).2) noPanic := by
 have hd1 : ∀ {x : Int}, IsDisk M r { S with count := S.count + 1 } := fun {_} => ⟨h.s, h.p, h.sure, h.pend, h.fail, h.sl, h.pl, h.sz⟩
 refine enterD (args := [_, _]) (fn := Tryz.f234) ⟨Tryz.func234, rfl, by kernel_rfl, by kernel_rfl⟩ 48 rfl <| zr <| tl_e rfl <| e_alloc <| fun b1 => zq <| zr <| tl_y rfl (y_makeFunc rfl rfl) <| tl_e rfl <| e_defer rfl rfl rfl <| zq <| zr2 <| mvP rfl <| zc rfl <| tFa rfl <| tLd rfl rfl <| zq <| .s4 0 1 4 9 rfl rfl rfl rfl <| x_condb rfl (fun hc1 => ?_) (fun hc1 => ?_)
 ·
  refine x_region <| tl_y rfl (y_build rfl) <| tl_y rfl (y_makeIface rfl (by intro _ h; cases h)) <| tl_e rfl <| e_panic rfl <| .retD (cap := [_]) (args := []) (doing1_gone (e := 6)) ?_
  rintro _ M1 L1 hM1 ⟨rfl, rfl, rfl⟩
  refine .inl ⟨rfl, _, dL p r S R, rv1 rfl (rc_cell (by rfl) rfl (.own iI iI)), iI, Le.refl _, ?_⟩
  rw [show doingRes S S2 = (S, 6) by simp [doingRes, hc1]]
  exact ⟨⟨r, h, rfl⟩, rfl⟩
 refine x_skip <| .then_normal <| zr <| mvP rfl <| zc rfl <| tFa rfl <| tLd rfl rfl <| tl_y rfl (y_addI rfl rfl (by omega)) <| zc rfl <| tFa rfl <| tl_e rfl <| e_sT rfl rfl <| zq <| .s3 0 1 4 rfl rfl rfl <| x_seq <| x_seq <| x_draw 10 hmix rfl ?_
 refine pmP 0 rfl rfl <| zp 1 rfl rfl (y_nilCheck rfl) <| pFa 2 rfl rfl <| pLd 3 rfl rfl rfl <| pmP 4 rfl rfl <| zp 5 rfl rfl (y_nilCheck rfl) <| pFa 6 rfl rfl <| pFa 7 rfl rfl <| pLd 8 rfl rfl rfl <| zp 9 rfl rfl (y_eql rfl rfl) ?_
 refine zz <| .then_normal <| .s4 0 1 4 28 rfl rfl rfl rfl <| x_cond rfl (fun hc2 => ?_) (fun hc2 => ?_)
 ·
  refine zr <| mvP rfl <| zc rfl <| tFa rfl <| tl_e rfl <| e_sT rfl rfl <| zq <| .s3 0 1 4 rfl rfl rfl <| x_region <| tl_y rfl (y_build rfl) <| tl_y rfl (y_makeIface rfl (by intro _ h; cases h)) <| tl_e rfl <| e_panic rfl <| .retD (cap := [_]) (args := []) (doing1_gone (e := 6)) ?_
  rintro _ M1 L1 hM1 ⟨rfl, rfl, rfl⟩
  refine .inl ⟨rfl, _, dL p r { S with count := S.count + 1, down := true } R, rv1 rfl (rc_cell (by rfl) rfl (.own iI iI)), iI, Le.refl _, ?_⟩
  rw [show doingRes S S2 = ({ S with count := S.count + 1, down := true }, 6) by simp [doingRes, hc1, hc2]]
  exact ⟨⟨r, ⟨h.s, h.p, h.sure, h.pend, h.fail, h.sl, h.pl, h.sz⟩, rfl⟩, rfl⟩
 refine x_skip <| .then_normal <| x_seq <| x_seq <| x_draw 10 hmix rfl <| pmP 0 rfl rfl <| zp 1 rfl rfl (y_nilCheck rfl) <| pFa 2 rfl rfl <| pFa 3 rfl rfl <| pLd 4 rfl rfl rfl <| pmP 5 rfl rfl <| zp 6 rfl rfl (y_nilCheck rfl) ?_
 refine pFa 7 rfl rfl <| pLd 8 rfl rfl rfl <| ze 9 rfl rfl <| e_call' rfl (containsInts_spec h.fail (S.count + 1)) ?_
 rintro _ M1 L1 hM1 ⟨rfl, rfl, rfl⟩
 refine kp ?_
 refine zz <| .then_normal <| .s3 1 4 43 rfl rfl rfl <| x_cond rfl (fun hc3 => ?_) (fun hc3 => ?_)
 ·
  refine x_region <| tl_y rfl (y_build rfl) <| tl_y rfl (y_makeIface rfl (by intro _ h; cases h)) <| tl_e rfl <| e_panic rfl <| .retD (cap := [_]) (args := []) (doing1_gone (e := 7)) ?_
  rintro _ M2 L2 hM2 ⟨rfl, rfl, rfl⟩
  refine .inl ⟨rfl, _, dL p r { S with count := S.count + 1 } R, rv1 rfl (rc_cell (by rfl) rfl (.own iI iI)), iI, Le.refl _, ?_⟩
  rw [show doingRes S S2 = ({ S with count := S.count + 1 }, 7) by simp [doingRes, hc1, hc2, hc3]]
  exact ⟨⟨r, hd1 (x := 0), rfl⟩, rfl⟩
 refine x_skip <| .then_normal <| zr <| mvF rfl <| tl_e rfl <| e_callv rfl rfl (Con.to (dL p r { S with count := S.count + 1 } ((b1, .cells #[.int .i64 0] 25 (0, 0)) :: R)) iI (hwhat hc1 b1 _)) (fun _ _ _ _ h => h.elim) ?_
 rintro _ M2 L2 hM2 ⟨r2, hr2, rfl⟩
 refine zq <| .s1 4 rfl <| zr <| tl_e rfl <| e_sT rfl rfl <| zq <| .bring b1 iI <| x_ret <| .retD (cap := [_]) (args := []) doing1_ret ?_
 rintro _ M3 L3 hM3 ⟨rfl, rfl, rfl⟩
 refine .inl ⟨rfl, _, dL p r2 S2 R, rv1 rfl (rc_cell (by rfl) rfl (.own iI iI)), iI, hM2, ?_⟩
 rw [show doingRes S S2 = (S2, 0) by simp [doingRes, hc1, hc2, hc3]]
 exact ⟨⟨r2, hr2, rfl⟩, rfl⟩
abbrev added (S : DS) (i : Int) (bs : List UInt8) : DS := { S with pend := S.pend ++ [(i, bs)] }
abbrev boxD (x p : Nat) : Nat × Obj := (x, .cells #[.pointer (some ⟨p, 0, none⟩)] 24 (0, 0))
abbrev wbox (x0 x1 x2 p : Nat) (i : Int) (A : Option Addr) (n c : Nat) (R : Own) : Own := (x2, .cells #[.slice A n c] 22 (0, 0)) :: (x1, .cells #[.int .i64 i] 3 (0, 0)) :: boxD x0 p :: R
theorem Write1_spec {be x0 x1 x2 : Nat} {oe : Obj} {i : Int} {A : Option Addr} {n c : Nat} {bs : List UInt8} (h : IsDisk M r S) (hb : Bytes M A n c bs) (hn : n = 64) (hi : 0 ≤ i ∧ i < S.sure.length) (hp : S.pend.length ≤ 1099511627776) :
  Con Tryz.prog 235 #[.pointer (some ⟨x0, 0, none⟩), .pointer (some ⟨x1, 0, none⟩), .pointer (some ⟨x2, 0, none⟩)] G M
   (dL p r S ((be, oe) :: wbox x0 x1 x2 p i A n c R)) (fun v M' L' => DK p (added S i bs) ((be, oe) :: wbox x0 x1 x2 p i A n c R) M' L') noPanic := by
 have hpn := h.pn
 refine zfn Tryz.func235 rfl 16 rfl <| x_draw0 13 ([(p, .cells (List.toArray (dcells r S)) 75 (0, 0)), (x2, .cells #[.slice A n c] 22 (0, 0)), (x1, .cells #[.int .i64 i] 3 (0, 0)), boxD x0 p]) Keeps.mem hmix rfl <| pLd 0 rfl rfl rfl <| pLd 1 rfl rfl rfl <| zp 2 rfl rfl (y_nilCheck rfl) <| pFa 3 rfl rfl ?_
 refine pLd 4 rfl rfl rfl <| pLd 5 rfl rfl rfl <| pLd 6 rfl rfl rfl <| ze 7 rfl rfl <| e_call' rfl (bytesClone_spec hb (by omega)) ?_
 rintro _ M1 L1 hM1 ⟨rfl, A', c', rfl, hA'⟩
 refine kp ?_
 refine zp 8 rfl rfl (y_build rfl) <| ze 9 rfl rfl <| e_buildSlice rfl (by decide) <| fun b1 => kp ?_
 refine .bringE r.E2 iI <| ze 10 rfl rfl <| e_append (E := r.E2) (by decide) rfl rfl h.p (.own iI rfl) rfl (by omega) (by omega) <| fun A2 cap2 E2 hE2 => kp ?_
 refine zp 11 rfl rfl (y_nilCheck rfl) <| pFa 12 rfl rfl <| zt 13 rfl rfl <| e_sT rfl rfl <| to_nil (by kernel_rfl) (.dropTo (dL p { r with pa := A2, pn := r.pn + 1, pc := cap2, pv := r.pv ++ [.int .i64 i, .slice A' n c'], E2 := E2 } (added S i bs) ((be, oe) :: wbox x0 x1 x2 p i A n c R)) iI (end0 rfl hM1 ⟨{ r with pa := A2, pn := r.pn + 1, pc := cap2, pv := r.pv ++ [.int .i64 i, .slice A' n c'], E2 := E2 }, ⟨h.s, hE2, h.sure.mono hM1, (h.pend.mono hM1).snoc hA', h.fail.mono hM1, h.sl, (by
  intro q hq
  rcases List.mem_append.1 hq with hq | hq
  ·
   exact h.pl q hq
  rw [List.mem_singleton.1 hq]; exact ⟨by have := hb.size; show bs.length = 64; omega, hi⟩), h.sz⟩, rfl⟩))
def writeRes (S : DS) (i : Int) (bs : List UInt8) : DS × Int :=
 if S.down = false ∧ (¬ (0 ≤ i ∧ i < S.sure.length) ∨ bs.length ≠ 64) then (S, 1)
 else doingRes S (added { S with count := S.count + 1 } i bs)
theorem Write_spec (h : IsDisk M r S) (hc : -4611686018427387904 ≤ S.count ∧ S.count ≤ 4611686018427387904) (hp : S.pend.length ≤ 1099511627776) {i : Int} {A : Option Addr} {n c : Nat} {bs : List UInt8} (hb : Bytes M A n c bs) :
  Con Tryz.prog 183 #[.pointer (some ⟨p, 0, none⟩), .int .i64 i, .slice A n c] G M (dL p r S R) (fun v M' L' => DK p (writeRes S i bs).1 R M' L' ∧ v = .int .i64 (writeRes S i bs).2) noPanic := by
 have hbn := hb.size
 have hdo : ∀ (x0 x1 x2 : Nat), (S.down = false → (0 ≤ i ∧ i < S.sure.length) ∧ n = 64) → Con Tryz.prog 234 #[.pointer (some ⟨p, 0, none⟩), .func (.func 235) #[] #[.pointer (some ⟨x0, 0, none⟩), .pointer (some ⟨x1, 0, none⟩), .pointer (some ⟨x2, 0, none⟩)]] G M
   (dL p r S (wbox x0 x1 x2 p i A n c R)) (fun v M' L' => DK p (doingRes S (added { S with count := S.count + 1 } i bs)).1 (wbox x0 x1 x2 p i A n c R) M' L' ∧ v = .int .i64 (doingRes S (added { S with count := S.count + 1 } i bs)).2) noPanic := fun x0 x1 x2 hd =>
  doing_spec h hc (first := []) (cap := [_, _, _]) (fun hdn b o => Write1_spec ⟨h.s, h.p, h.sure, h.pend, h.fail, h.sl, h.pl, h.sz⟩ hb (hd hdn).2 (hd hdn).1 hp)
 refine zfn Tryz.func183 rfl 26 rfl <| zr <| tl_e rfl <| e_box rfl <| fun b1 => tl_e rfl <| e_box rfl <| fun b2 => tl_e rfl <| e_box rfl <| fun b3 => as0 rfl <| zq <| .s3 3 4 5 rfl rfl rfl <| zr2 <| tLd rfl rfl <| zc rfl <| tFa rfl <| tLd rfl rfl <| tl_y rfl (y_not rfl) <| mvB rfl <| tl_casesb (s := 12) rfl (fun hk1 => ?_) (fun hk1 => ?_)
 ·
  refine tLd rfl rfl <| tLd rfl rfl <| zca rfl (Con.to (dL p r S (wbox b1 b2 b3 p i A n c R)) iI (is_spec h i)) ?_
  rintro _ M1 L1 hM1 ⟨rfl, rfl, rfl⟩
  refine tl_y rfl (y_notd rfl) <| mvB rfl <| tl_cases (s := 17) rfl (fun hk2 => ?_) (fun hk2 => ?_)
  ·
   refine sk3 rfl rfl rfl <| tPt rfl rfl <| tPt rfl rfl <| zq <| .s4 3 4 5 22 rfl rfl rfl rfl <| x_true rfl rfl <| zr <| as0 rfl <| zq <| .s1 6 rfl <| x_ret (.then_ret (.dropTo (dL p r S R) iI (ret1 rfl rfl lR (by
    rw [show writeRes S i bs = (S, 1) from if_pos ⟨by simpa using hk1, .inl hk2⟩]
    exact ⟨⟨r, h, rfl⟩, rfl⟩))))
  refine tLd rfl rfl <| tLen rfl <| tl_y rfl (y_neq rfl rfl) <| tPf rfl rfl <| tPt rfl rfl <| zq <| .s4 3 4 5 22 rfl rfl rfl rfl <| x_cond rfl (fun hc1 => ?_) (fun hc1 => ?_)
  ·
   refine zr <| as0 rfl <| zq <| .s1 6 rfl <| x_ret (.then_ret (.dropTo (dL p r S R) iI (ret1 rfl rfl lR (by
    rw [show writeRes S i bs = (S, 1) from if_pos ⟨by simpa using hk1, .inr (by omega)⟩]
    exact ⟨⟨r, h, rfl⟩, rfl⟩))))
  refine x_skip <| .then_normal <| zr <| tLd rfl rfl <| tl_y rfl (y_makeFunc rfl rfl) <| zca rfl (hdo b1 b2 b3 (fun _ => ⟨by omega, by omega⟩)) ?_
  rintro _ M2 L2 hM2 ⟨⟨r2, hr2, rfl⟩, rfl⟩
  refine asI rfl <| zq <| .s1 6 rfl <| x_ret (.dropTo (dL p r2 _ R) iI (ret1 rfl rfl hM2 (by
   rw [show writeRes S i bs = doingRes S (added { S with count := S.count + 1 } i bs) from if_neg (fun hh => by omega)]
   exact ⟨⟨r2, hr2, rfl⟩, rfl⟩)))
 refine sk8 rfl rfl rfl rfl rfl rfl rfl rfl <| tl_skip rfl <| tPf rfl rfl <| zq <| .s4 3 4 5 22 rfl rfl rfl rfl <| x_false rfl rfl <| x_skip <| .then_normal <| zr <| tLd rfl rfl <| tl_y rfl (y_makeFunc rfl rfl) <| zca rfl (Con.to (dL p r S (wbox b1 b2 b3 p i A n c R)) iI (hdo b1 b2 b3 (fun hh => by rw [hh] at hk1; simp at hk1))) ?_
 rintro _ M2 L2 hM2 ⟨⟨r2, hr2, rfl⟩, rfl⟩
 refine asI rfl <| zq <| .s1 6 rfl <| x_ret (.dropTo (dL p r2 _ R) iI (ret1 rfl rfl hM2 (by
  rw [show writeRes S i bs = doingRes S (added { S with count := S.count + 1 } i bs) from if_neg (fun hh => by rw [hh.1] at hk1; simp at hk1)]
  exact ⟨⟨r2, hr2, rfl⟩, rfl⟩)))
def flushTo (s : List (List UInt8)) (ps : List (Int × List UInt8)) : List (List UInt8) := ps.foldl (fun s q => s.set q.1.toNat q.2) s
theorem flushTo_length (ps : List (Int × List UInt8)) : ∀ s, (flushTo s ps).length = s.length := by
 induction ps with
 | nil => intro s; rfl
 | cons q ps ih => intro s; show (flushTo (s.set _ _) ps).length = _; rw [ih]; simp
theorem flushTo_snoc (s : List (List UInt8)) (ps : List (Int × List UInt8)) (q : Int × List UInt8) : flushTo s (ps ++ [q]) = (flushTo s ps).set q.1.toNat q.2 := by simp [flushTo]
theorem flushTo_mem (ps : List (Int × List UInt8)) : ∀ (s : List (List UInt8)) b, b ∈ flushTo s ps → b ∈ s ∨ ∃ q ∈ ps, b = q.2 := by
 induction ps with
 | nil => intro s b hb; exact .inl hb
 | cons q ps ih =>
  intro s b hb
  rcases ih (s.set q.1.toNat q.2) b hb with h | ⟨q', h1, h2⟩
  ·
   rcases List.mem_or_eq_of_mem_set h with h | h
   ·
    exact .inl h
   exact .inr ⟨q, List.mem_cons_self, h⟩
  exact .inr ⟨q', List.mem_cons_of_mem _ h1, h2⟩
abbrev flushed (S : DS) : DS := { S with sure := flushTo S.sure S.pend, pend := [] }
theorem Flush1_spec {be x0 : Nat} {oe : Obj} (h : IsDisk M r S) (hp : S.pend.length ≤ 1099511627776) :
  Con Tryz.prog 236 #[.pointer (some ⟨x0, 0, none⟩)] G M
   (dL p r S ((be, oe) :: boxD x0 p :: R)) (fun v M' L' => DK p (flushed S) ((be, oe) :: boxD x0 p :: R) M' L') noPanic := by
 have hpn := h.pn
 have hsn := h.sn
 have hpv := h.pend.len
 have hsz := h.sz
 refine zfn Tryz.func236 rfl 25 rfl <| zr2 <| tLd rfl rfl <| zc rfl <| tFa rfl <| tLd rfl rfl <| tLen rfl <| mv0 rfl <| zq <| x_block ?_
 refine x_loop (I := fun m' F D M1 L1 => ∃ (k : Nat) (sv : List Value) (E : Own), m' = r.pn - k ∧ k ≤ r.pn ∧ M = M1 ∧ OwnRow 22 1 r.sa r.sn r.sc sv E ∧ BRows M sv (flushTo S.sure (S.pend.take k)) ∧ D = [] ∧ L1 = (p, .cells (List.toArray (dcells r S)) 75 (0, 0)) :: (E ++ (r.E2 ++ ((be, oe) :: boxD x0 p :: R))) ∧ F = [(0, .pointer (some ⟨x0, 0, none⟩)), (6, .slice r.pa r.pn r.pc), (7, .int .i64 r.pn), (8, .int .i64 k)]) (r.pn) (F0 := [(0, _), (6, _), (7, _), (8, _)]) ?_ (cs4 rfl rfl rfl rfl) ?_
 ·
  exact ⟨0, r.sv, r.E1, rfl, by omega, rfl, h.s, h.sure, rfl, rfl, rfl⟩
 rintro m _ _ M1 L1 ⟨k, sv, E, rfl, hk, rfl, hE, hsv, rfl, rfl, rfl⟩
 refine zr <| tl_y rfl (y_lss rfl rfl) <| zq <| x_seq <| x_cond rfl (fun hc1 => ?_) (fun hc1 => ?_)
 ·
  have hkn : k < r.pn := by omega
  obtain ⟨g, o, hpa, hcell⟩ := h.p.cellsIn (M := M) (L := (p, .cells (List.toArray (dcells r S)) 75 (0, 0)) :: (E ++ (r.E2 ++ ((be, oe) :: boxD x0 p :: R)))) iI (by omega)
  obtain ⟨A1, n1, c1, hv1, hv2, hb1⟩ := h.pend.get k (by omega)
  have hq := h.pl (S.pend.getD k default) (getD_mem _ _ _ (by omega))
  generalize hqe : S.pend.getD k default = q at hv1 hv2 hb1 hq
  have hc1 := hcell (k * 2) 2 (by omega)
  rw [take_two hv1 hv2] at hc1
  obtain ⟨gs, pre, slack, hsa, hEe⟩ := hE.pos (by omega)
  subst hEe
  rw [hsa] at hE
  simp only [List.cons_append, List.nil_append] at hc1 ⊢
  have hsl := hsv.len
  rw [flushTo_length] at hsl
  refine x_skip <| .then_normal <| x_seq <| x_block <| zr <| tl_y rfl (y_indexAddr (b := g) (o := o) (by rw [hpa]; rfl) rfl (by omega)) <| tl_y rfl (y_loadAgg rfl rfl (.at_ hc1 (by omega))) <| tl_e rfl <| e_alloc <| fun b1 => tl_e rfl <| e_sT rfl rfl <| zq <| x_draw 9 hmix rfl ?_
  refine pLd 0 rfl rfl rfl <| zp 1 rfl rfl (y_nilCheck rfl) <| pFa 2 rfl rfl <| pLd 3 rfl rfl rfl <| pFa 4 rfl rfl <| pLd 5 rfl rfl rfl <| pFa 6 rfl rfl <| pLd 7 rfl rfl rfl <| zp 8 rfl rfl (y_indexAddr (b := gs) (o := pre.length) (by rw [hsa]; rfl) rfl (by omega)) <| zt 9 rfl rfl <| e_storeAt (c := pre ++ (sv ++ slack)) rfl rfl rfl iI (by simp; omega) iI ?_
  refine zz <| .block_normal <| .then_normal <| .dropTo ((p, .cells (List.toArray (dcells r S)) 75 (0, 0)) :: ((gs, .cells ((pre ++ (sv ++ slack)).set (pre.length + q.1.toNat * 1) (.slice A1 n1 c1)).toArray 22 (0, 0)) :: (r.E2 ++ ((be, oe) :: boxD x0 p :: R)))) iI <| .s4 0 6 7 8 rfl rfl rfl rfl <| x_region <| tl_y rfl (y_addI rfl rfl (by omega)) <| mvI rfl <| tl_nil <| .loop_next (m' := r.pn - (k + 1)) (by omega) (F' := [(0, _), (6, _), (7, _), (8, _)]) (cs4 rfl rfl rfl rfl) ?_
  exact ⟨k + 1, _, _, rfl, by omega, rfl, hsa ▸ hE.set (q.1.toNat * 1) (.slice A1 n1 c1) (by omega), by
   rw [take_snoc _ _ default (by omega), flushTo_snoc, hqe, Nat.mul_one]; exact hsv.set hb1 _, rfl, rfl, rfl⟩
 refine x_exit <| .then_exit <| .loop_exit <| .block_exit <| .then_normal <| .s1 0 rfl <| x_region <| tLd rfl rfl <| zc rfl <| tFa rfl <| tl_e rfl <| e_sT rfl rfl <| tl_nil (.dropTo ((p, .cells (List.toArray (dcells { r with sv := sv, E1 := E, pa := none, pn := 0, pc := 0, pv := [], E2 := [] } (flushed S))) 75 (0, 0)) :: (E ++ ((be, oe) :: boxD x0 p :: R))) iI (end0 rfl lR (by
  have hkn : k = S.pend.length := by omega
  rw [hkn, List.take_length] at hsv
  exact ⟨{ r with sv := sv, E1 := E, pa := none, pn := 0, pc := 0, pv := [], E2 := [] }, ⟨hE, .nil, hsv, .nil, h.fail, (fun b hb => by
   rcases flushTo_mem _ _ _ hb with hb | ⟨q, hq, rfl⟩
   ·
    exact h.sl b hb
   exact (h.pl q hq).1), (fun q hq => by cases hq), by show (flushTo _ _).length ≤ 256; rw [flushTo_length]; exact hsz⟩, rfl⟩)))
abbrev flushRes (S : DS) : DS × Int := doingRes S (flushed { S with count := S.count + 1 })
theorem Flush_spec (h : IsDisk M r S) (hc : -4611686018427387904 ≤ S.count ∧ S.count ≤ 4611686018427387904) (hp : S.pend.length ≤ 1099511627776) :
  Con Tryz.prog 184 #[.pointer (some ⟨p, 0, none⟩)] G M (dL p r S R) (fun v M' L' => DK p (flushRes S).1 R M' L' ∧ v = .int .i64 (flushRes S).2) noPanic := by
 refine zfn Tryz.func184 rfl 6 rfl <| zr <| tl_e rfl <| e_box rfl <| fun b1 => as0 rfl <| zq <| zr <| tLd rfl rfl <| tl_y rfl (y_makeFunc rfl rfl) <| zca rfl (Con.to (dL p r S (boxD b1 p :: R)) iI (doing_spec h hc (first := []) (cap := [_]) (fun hdn b o => Flush1_spec ⟨h.s, h.p, h.sure, h.pend, h.fail, h.sl, h.pl, h.sz⟩ hp))) ?_
 rintro _ M2 L2 hM2 ⟨⟨r2, hr2, rfl⟩, rfl⟩
 refine asI rfl <| zq <| .s1 2 rfl <| x_ret (.dropTo (dL p r2 _ R) iI (ret1 rfl rfl hM2 ⟨⟨r2, hr2, rfl⟩, rfl⟩))
end
section
variable {G : World} {M : Mem} {R : Own} {p : Nat} {r : DRep} {S : DS}
def lastW (i : Int) : List (Int × List UInt8) → Option (List UInt8)
 | [] => none
 | q :: ps => match lastW i ps with
  | some b => some b
  | none => if q.1 = i then some q.2 else none
theorem lastW_none {i : Int} : ∀ {ps : List (Int × List UInt8)}, (∀ q ∈ ps, q.1 ≠ i) → lastW i ps = none
 | [], _ => rfl
 | q :: ps, h => by
  simp only [lastW, lastW_none fun q' hq' => h q' (List.mem_cons_of_mem _ hq')]
  rw [if_neg (h q List.mem_cons_self)]
theorem lastW_some {i : Int} {q : Int × List UInt8} {qs : List (Int × List UInt8)} (hq : q.1 = i) (h : ∀ q ∈ qs, q.1 ≠ i) : ∀ (ps : List (Int × List UInt8)), lastW i (ps ++ q :: qs) = some q.2
 | [] => by simp [lastW, lastW_none h, hq]
 | q' :: ps => by simp only [List.cons_append, lastW, lastW_some hq h ps]
theorem split_at {α : Type} (l : List α) (k : Nat) (d : α) (h : k < l.length) : l = l.take k ++ l.getD k d :: l.drop (k + 1) := by
 rw [List.getD_eq_getElem?_getD, List.getElem?_eq_getElem h]
 simp
def noneBehind (i : Int) (ps : List (Int × List UInt8)) (k : Nat) : Prop := ∀ q ∈ ps.drop k, q.1 ≠ i
theorem noneBehind_step {i : Int} {ps : List (Int × List UInt8)} {k : Nat} (h : noneBehind i ps (k + 1)) (hk : k < ps.length) (hq : (ps.getD k default).1 ≠ i) : noneBehind i ps k := fun q hm => by
 have : ps.drop k = ps.getD k default :: ps.drop (k + 1) := by
  rw [List.drop_eq_getElem_cons hk, List.getD_eq_getElem?_getD, List.getElem?_eq_getElem hk]; rfl
 rw [this] at hm
 rcases List.mem_cons.1 hm with rfl | hm
 ·
  exact hq
 exact h q hm
theorem backward_spec {L : Own} {A : Option Addr} {n c : Nat} :
  Con Tryz.prog 260 #[.slice A n c] G M L (fun v M' L' => M = M' ∧ ∃ x0, L' = (x0, .cells #[.slice A n c] 73 (0, 0)) :: L ∧ v = .func (.func 274) #[] #[.pointer (some ⟨x0, 0, none⟩)]) noPanic := by
 refine zfn Tryz.func260 rfl 4 rfl <| zr <| tl_e rfl <| e_box rfl <| fun b1 => as0 rfl <| zq <| zr <| tl_y rfl (y_makeFunc rfl rfl) <| asF rfl <| zq <| x_ret (ret1 rfl rfl lR ⟨rfl, b1, rfl, rfl⟩)
theorem backward1_spec {l x0 : Nat} {A : Option Addr} {n c : Nat} {vs : List Value} {E X0 : Own} (hE : OwnRow 141 2 A n c vs E) {Inv : Nat → Mem → Own → Prop} {Dn : Mem → Own → Prop}
  (hy : ∀ k M1 X1, k < n → Le M M1 → Inv (k + 1) M1 X1 → YCon Tryz.prog l [.int .i64 k, .agg ((vs.drop (k * 2)).take 2).toArray] G M1 X1 (Inv k) Dn) (h0 : Inv n M X0) :
  Con Tryz.prog 274 #[.func (.yield l) #[] #[], .pointer (some ⟨x0, 0, none⟩)] G M ((x0, .cells #[.slice A n c] 73 (0, 0)) :: (E ++ X0))
   (fun v M' L' => ∃ X', L' = (x0, .cells #[.slice A n c] 73 (0, 0)) :: (E ++ X') ∧ (Inv 0 M' X' ∨ Dn M' X')) noPanic := by
 have hmx := hE.max
 have hle := hE.le
 have hlen := hE.len
 refine zfn Tryz.func274 rfl 19 rfl <| zr <| tLd rfl rfl <| tLen rfl <| tl_y rfl (y_subI rfl rfl (by omega)) <| asI rfl <| zq <| x_block ?_
 refine x_loop (I := fun m' F D M1 L1 => ∃ (k : Nat) (X1 : Own), k = m' ∧ k ≤ n ∧ Le M M1 ∧ Inv k M1 X1 ∧ D = [] ∧ L1 = (x0, .cells #[.slice A n c] 73 (0, 0)) :: (E ++ X1) ∧ F = [(0, .func (.yield l) #[] #[]), (1, .pointer (some ⟨x0, 0, none⟩)), (3, .int .i64 ((k : Int) - 1))]) (n) (F0 := [(0, _), (1, _), (3, _)]) ?_ (cs3 rfl rfl rfl) ?_
 ·
  exact ⟨n, X0, rfl, by omega, Le.refl _, h0, rfl, rfl, rfl⟩
 rintro m _ _ M1 L1 ⟨k, X1, rfl, hk, hM1, hI, rfl, rfl, rfl⟩
 refine zr2 <| mvI rfl <| tl_y rfl (y_geq rfl rfl) <| zq <| x_cond rfl (fun hc1 => ?_) (fun hc1 => ?_)
 ·
  obtain ⟨k, rfl⟩ : ∃ j, k = j + 1 := ⟨k - 1, by omega⟩
  obtain ⟨g, o, rfl, hcell⟩ := hE.cellsIn (M := M1) (L := (x0, .cells #[.slice A n c] 73 (0, 0)) :: (E ++ X1)) iI (by omega)
  have hc1 := hcell (k * 2) 2 (by omega)
  have e0 : (((k + 1 : Nat) : Int) - 1) = (k : Int) := by omega
  rw [e0]
  refine x_skip <| .then_normal <| x_seq <| x_block <| zr <| mvF rfl <| mvI rfl <| tLd rfl rfl <| mvI rfl <| tl_y rfl (y_indexAddr rfl rfl (by omega)) <| tl_y rfl (y_loadAgg rfl rfl (.at_ hc1 (by omega))) <| .eqL (L' := ((x0, .cells #[.slice (some ⟨g, o, none⟩) n c] 73 (0, 0)) :: E) ++ X1) (by simp) <| tl_e rfl <| e_yieldB rfl rfl (hy k M1 X1 (by omega) hM1 hI) <| fun b M2 X2 hM2 hb => ?_
  rw [List.cons_append]
  refine tl_y rfl (y_not rfl) <| zq <| .s4 0 1 3 18 rfl rfl rfl rfl <| x_condb rfl (fun hc2 => ?_) (fun hc2 => ?_)
  ·
   refine x_ret (.block_ret (.then_ret (.loop_ret (.block_ret (ret0 rfl (hM1.trans hM2) ⟨X2, rfl, by
    rcases hb with ⟨rfl, _⟩ | ⟨_, hb⟩
    ·
     simp at hc2
    exact .inr hb⟩)))))
  refine x_skip <| .block_normal <| .then_normal <| x_region <| mvI rfl <| tl_y rfl (y_subI rfl rfl (by omega)) <| asI rfl <| tl_nil <| .loop_next (m' := k) (by omega) (F' := [(0, _), (1, _), (3, _)]) (cs3 rfl rfl rfl) ?_
  exact ⟨k, X2, rfl, by omega, hM1.trans hM2, by
   rcases hb with ⟨_, hb⟩ | ⟨rfl, hb⟩
   ·
    exact hb
   simp at hc2, rfl, rfl, rfl⟩
 refine x_exit (.then_exit (.loop_exit (.block_exit (end0 rfl hM1 ⟨X1, rfl, .inl (by
  obtain rfl : k = 0 := by omega
  exact hI)⟩))))
def readRes (S : DS) (i : Int) : List UInt8 × Int :=
 if S.down then ([], 6) else if 0 ≤ i ∧ i < S.sure.length then ((lastW i S.pend).getD (S.sure.getD i.toNat []), 0) else ([], 1)
theorem Read_spec (h : IsDisk M r S) (i : Int) :
  Con Tryz.prog 229 #[.pointer (some ⟨p, 0, none⟩), .int .i64 i] G M (dL p r S R) (fun v M' L' => L' = dL p r S R ∧ ∃ A n c, v = .tuple #[.slice A n c, .int .i64 (readRes S i).2] ∧ Bytes M' A n c (readRes S i).1) noPanic := by
 have hpn := h.pn
 have hsn := h.sn
 have hpv := h.pend.len
 have hsv := h.sure.len
 refine enterM (args := [_, _]) (fn := Tryz.f229) ⟨Tryz.func229, rfl, by kernel_rfl, by kernel_rfl⟩ 40 rfl <| zr <| tl_e rfl <| e_box rfl <| fun b1 => tl_e rfl <| e_alloc <| fun b2 => tl_e rfl <| e_alloc <| fun b3 => zq <| x_seq <| x_block <| zr <| mvP rfl <| zc rfl <| tFa rfl <| tLd rfl rfl <| asB rfl <| zq <| .s5 0 3 4 5 8 rfl rfl rfl rfl rfl <| x_condb rfl (fun hc1 => ?_) (fun hc1 => ?_)
 ·
  refine zr <| tl_e rfl <| e_sT rfl rfl <| tl_e rfl <| e_sT rfl rfl <| zq <| x_ret (.block_ret (.then_ret (.retM0 (L1 := dL p r S R) (rv2 rfl (rc_cell (by rfl) rfl (.own iI iI)) (rc_cell (by rfl) rfl (.own iI iI))) iI lR (by
   rw [show readRes S i = ([], 6) by simp [readRes, hc1]]
   exact ⟨rfl, _, _, _, rfl, Row.nil _ _⟩))))
 refine zr <| mvP rfl <| tLd rfl rfl <| zca rfl (Con.to (dL p r S ((b3, .cells #[.int .i64 0] 25 (0, 0)) :: (b2, .cells #[.slice none 0 0] 22 (0, 0)) :: (b1, .cells #[.int .i64 i] 3 (0, 0)) :: R)) iI (is_spec h i)) ?_
 rintro _ M1 L1 hM1 ⟨rfl, rfl, rfl⟩
 refine tl_y rfl (y_notd rfl) <| asB rfl <| zq <| .s5 0 3 4 5 13 rfl rfl rfl rfl rfl <| x_cond rfl (fun hc2 => ?_) (fun hc2 => ?_)
 ·
  refine zr <| tl_e rfl <| e_sT rfl rfl <| tl_e rfl <| e_sT rfl rfl <| zq <| x_ret (.block_ret (.then_ret (.retM0 (L1 := dL p r S R) (rv2 rfl (rc_cell (by rfl) rfl (.own iI iI)) (rc_cell (by rfl) rfl (.own iI iI))) iI lR (by
   rw [show readRes S i = ([], 1) by rw [readRes, if_neg (by simp [hc1]), if_neg hc2]]
   exact ⟨rfl, _, _, _, rfl, Row.nil _ _⟩))))
 refine x_skip <| .block_normal <| .then_normal <| zr2 <| mvP rfl <| zc rfl <| tFa rfl <| tLd rfl rfl <| zca rfl backward_spec ?_
 rintro _ M2 L2 hM2 ⟨rfl, x0, rfl, rfl⟩
 refine zq <| .s5 0 3 4 5 22 rfl rfl rfl rfl rfl <| x_block <| x_rangeN rfl rfl <| fun l r0 fn tm lps las lbd hps has hbd htm => ?_
 have hin : 0 ≤ i ∧ i < S.sure.length := Classical.not_not.1 hc2
 obtain ⟨xs, hxs⟩ : ∃ xs : LoopState → Option Code → Value → Own, ∀ st pd rc, xs st pd rc = lrec l st pd fn tm lps las lbd r0 :: (r0, .deferred (some [])) :: (b3, .cells #[.int .i64 0] 25 (0, 0)) :: (b2, .cells #[rc] 22 (0, 0)) :: (b1, .cells #[.int .i64 i] 3 (0, 0)) :: (p, .cells (List.toArray (dcells r S)) 75 (0, 0)) :: (r.E1 ++ R) := ⟨_, fun _ _ _ => rfl⟩
 refine Con.postD (Con.to ((x0, .cells #[.slice r.pa r.pn r.pc] 73 (0, 0)) :: (r.E2 ++ xs .ready none (.slice none 0 0))) (by rw [hxs]; infer_instance) (backward1_spec h.p (Inv := fun k M1 X1 => noneBehind i S.pend k ∧ X1 = xs .ready none (.slice none 0 0)) (Dn := fun M1 X1 => ∃ A' c' b, lastW i S.pend = some b ∧ Bytes M1 A' 64 c' b ∧ X1 = xs .done (some .ret) (.slice A' 64 c')) ?_ ⟨(fun q hq => by rw [hpn, List.drop_length] at hq; cases hq), rfl⟩)) ?_
 ·
  rintro k M1 X1 hk hM1 ⟨hno, rfl⟩
  rw [hxs]
  obtain ⟨A1, n1, c1, hv1, hv2, hb1⟩ := (h.pend.mono hM1).get k (by omega)
  have hq := h.pl (S.pend.getD k default) (getD_mem _ _ _ (by omega))
  rw [take_two hv1 hv2]
  subst hps
  subst has
  subst hbd
  refine ycon_body htm rfl (by kernel_rfl) <| fun R1 => ?_
  simp only [List.cons_append, List.append_assoc]
  have hsz1 := hb1.size
  refine x_region <| tl_e rfl <| e_alloc <| fun b9 => tl_e rfl <| e_sT rfl rfl <| .bring l iI <| tl_nil <| .asg (by kernel_rfl) <| x_block <| zr <| tFa rfl <| tLd rfl rfl <| tLd rfl rfl <| tl_y rfl (y_eql rfl rfl) <| zq <| .s4 4 5 7 28 rfl rfl rfl rfl <| x_cond rfl (fun hc1 => ?_) (fun hc1 => ?_)
  ·
   refine zr <| tFa rfl <| tLd rfl rfl <| zca rfl (bytesClone_spec hb1 (by omega)) ?_
   rintro _ M2 L2 hM2 ⟨rfl, A2, c2, rfl, hA2⟩
   refine tl_e rfl <| e_sT rfl rfl <| tl_e rfl <| e_sT rfl rfl <| zq <| .s2 4 5 rfl rfl <| x_ret (.block_ret (.off_ret ((r0, .deferred (some [])) :: (b3, .cells #[.int .i64 0] 25 (0, 0)) :: (b2, .cells #[.slice A2 n1 c2] 22 (0, 0)) :: (b1, .cells #[.int .i64 i] 3 (0, 0)) :: (p, .cells (List.toArray (dcells r S)) 75 (0, 0)) :: (r.E1 ++ (R ++ R1))) iI iI
    (X := (r0, .deferred (some [])) :: (b3, .cells #[.int .i64 0] 25 (0, 0)) :: (b2, .cells #[.slice A2 n1 c2] 22 (0, 0)) :: (b1, .cells #[.int .i64 i] 3 (0, 0)) :: (p, .cells (List.toArray (dcells r S)) 75 (0, 0)) :: (r.E1 ++ R)) (by simp) hM2 (by
     obtain rfl : n1 = 64 := by omega
     refine ⟨A2, c2, _, ?_, hA2, (hxs _ _ _).symm⟩
     conv => lhs; rw [split_at S.pend k default (by omega)]
     exact lastW_some hc1 hno _)))
  refine x_skip (.block_normal (.on ((r0, .deferred (some [])) :: (b3, .cells #[.int .i64 0] 25 (0, 0)) :: (b2, .cells #[.slice none 0 0] 22 (0, 0)) :: (b1, .cells #[.int .i64 i] 3 (0, 0)) :: (p, .cells (List.toArray (dcells r S)) 75 (0, 0)) :: (r.E1 ++ (R ++ R1))) iI iI
   (X := (r0, .deferred (some [])) :: (b3, .cells #[.int .i64 0] 25 (0, 0)) :: (b2, .cells #[.slice none 0 0] 22 (0, 0)) :: (b1, .cells #[.int .i64 i] 3 (0, 0)) :: (p, .cells (List.toArray (dcells r S)) 75 (0, 0)) :: (r.E1 ++ R)) (by simp) lR ⟨noneBehind_step hno (by omega) hc1, rfl⟩))
 rintro v M3 L3 hM3 ⟨X', rfl, hX⟩
 rcases hX with ⟨hno, rfl⟩ | ⟨A', c', b, hb, hB, rfl⟩
 ·
  refine ⟨lrec l .ready none fn tm lps las lbd r0 :: (r0, .deferred (some [])) :: (b3, .cells #[.int .i64 0] 25 (0, 0)) :: (b2, .cells #[.slice none 0 0] 22 (0, 0)) :: (b1, .cells #[.int .i64 i] 3 (0, 0)) :: dL p r S R, by rw [hxs]; infer_instance, .ready, none, _, by simp, rfl, ?_⟩
  have hlast : lastW i S.pend = none := lastW_none (fun q hq => hno q (by simpa using hq))
  obtain ⟨g, o, hsa, hcell⟩ := h.s.cellIn (M := M3) (L := lrec l .exhausted none fn tm lps las lbd r0 :: (r0, .deferred (some [])) :: (b3, .cells #[.int .i64 0] 25 (0, 0)) :: (b2, .cells #[.slice none 0 0] 22 (0, 0)) :: (b1, .cells #[.int .i64 i] 3 (0, 0)) :: dL p r S R) iI (by omega)
  obtain ⟨A1, n1, c1, hv1, hb1⟩ := (h.sure.mono hM3).get i.toNat (by omega)
  have hbl := h.sl (S.sure.getD i.toNat []) (getD_mem _ _ _ (by omega))
  have hsz1 := hb1.size
  refine .block_normal <| .then_normal <| .s4 0 3 4 5 rfl rfl rfl rfl <| x_seq <| x_draw 8 hmix rfl <| pmP 0 rfl rfl <| zp 1 rfl rfl (y_nilCheck rfl) <| pFa 2 rfl rfl <| pLd 3 rfl rfl rfl <| pLd 4 rfl rfl rfl <| zp 5 rfl rfl (y_indexAddr (b := g) (o := o) (by rw [hsa]; rfl) rfl (by omega)) ?_
  refine zy 6 rfl rfl (y_load rfl rfl (.at_ (hcell i.toNat _ hv1) (by omega))) ?_
  refine ze 7 rfl rfl <| e_call' rfl (bytesClone_spec hb1 (by omega)) ?_
  rintro _ M4 L4 hM4 ⟨rfl, A2, c2, rfl, hA2⟩
  refine kp ?_
  refine zt 8 rfl rfl <| e_sT rfl rfl <| zt 9 rfl rfl <| e_sT rfl rfl <| zz <| .then_normal <| .s2 4 5 rfl rfl <| x_ret (.retM1 (r := r0) (L1 := dL p r S R) iI (rv2 rfl (rc_cell (by rfl) rfl (.own iI iI)) (rc_cell (by rfl) rfl (.own iI iI))) iI (hM3.trans hM4) (by
   rw [show readRes S i = (S.sure.getD i.toNat [], 0) by rw [readRes, if_neg (by simp [hc1]), if_pos hin, hlast]; rfl]
   exact ⟨rfl, _, _, _, rfl, hA2⟩))
 refine ⟨lrec l .done (some .ret) fn tm lps las lbd r0 :: (r0, .deferred (some [])) :: (b3, .cells #[.int .i64 0] 25 (0, 0)) :: (b2, .cells #[.slice A' 64 c'] 22 (0, 0)) :: (b1, .cells #[.int .i64 i] 3 (0, 0)) :: dL p r S R, by rw [hxs]; infer_instance, .done, some .ret, _, by simp, rfl, rfl, ?_⟩
 refine x_ret (.block_ret (.then_ret (.retM1 (r := r0) (L1 := dL p r S R) iI (rv2 rfl (rc_cell (by rfl) rfl (.own iI iI)) (rc_cell (by rfl) rfl (.own iI iI))) iI hM3 (by
  rw [show readRes S i = (b, 0) by rw [readRes, if_neg (by simp [hc1]), if_pos hin, hb]; rfl]
  exact ⟨rfl, _, _, _, rfl, hB⟩))))
end
def DS.within (S : DS) (B : Nat) : Prop := 0 ≤ S.count ∧ S.count ≤ B ∧ S.pend.length ≤ B
theorem within_fresh (n : Nat) : (fresh n).within 0 := ⟨by simp [fresh], by simp [fresh], by simp [fresh]⟩
theorem within_doing {S S2 : DS} {B : Nat} (h : S.within B) (h2 : S2.within (B + 1)) : (doingRes S S2).1.within (B + 1) := by
 obtain ⟨a, b, c⟩ := h
 unfold doingRes
 split
 ·
  exact ⟨a, by show S.count ≤ _; omega, by show S.pend.length ≤ _; omega⟩
 split
 ·
  exact ⟨by show 0 ≤ S.count + 1; omega, by show S.count + 1 ≤ _; omega, by show S.pend.length ≤ _; omega⟩
 split
 ·
  exact ⟨by show 0 ≤ S.count + 1; omega, by show S.count + 1 ≤ _; omega, by show S.pend.length ≤ _; omega⟩
 exact h2
theorem within_write {S : DS} {B : Nat} (h : S.within B) (i : Int) (bs : List UInt8) : (writeRes S i bs).1.within (B + 1) := by
 unfold writeRes
 obtain ⟨a, b, c⟩ := h
 split
 ·
  exact ⟨a, by show S.count ≤ _; omega, by show S.pend.length ≤ _; omega⟩
 exact within_doing ⟨a, b, c⟩ ⟨by show 0 ≤ S.count + 1; omega, by show S.count + 1 ≤ _; omega, by simp; omega⟩
theorem within_flush {S : DS} {B : Nat} (h : S.within B) : (flushRes S).1.within (B + 1) :=
 within_doing h ⟨by show 0 ≤ S.count + 1; have := h.1; omega, by show S.count + 1 ≤ _; have := h.2.1; omega, by simp [flushed]⟩
end Go.Proofs.YtplkoemjffplcaaGreatDoor
