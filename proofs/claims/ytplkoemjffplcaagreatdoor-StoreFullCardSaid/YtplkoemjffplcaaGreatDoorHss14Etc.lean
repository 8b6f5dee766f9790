/-
Contracts of functions, each proved by a walk through its code.
-/
import Derived.Test.YtplkoemjffplcaaGreatDoorHss11Etc
import Derived.Test.YtplkoemjffplcaaGreatDoorLms3Etc
import Derived.Test.YtplkoemjffplcaaGreatDoorHss7Etc
import Derived.Test.YtplkoemjffplcaaGreatDoorSlotsPureEtc
import Derived.Test.YtplkoemjffplcaaGreatDoorShaEtc
set_option linter.all false
namespace Go.Proofs.YtplkoemjffplcaaGreatDoor
open Go Go.Eng
theorem seedR_bel {l : List PairV} {nl sl : Nat} (hok : okL l) (hc : canB l nl sl) (at_ : List Nat) {name sec : List UInt8} (hn : name.length = nl) (hs : sec.length = sl) {i : Nat} (hi : i < l.length) :
  belE (l.getD i p0) (seedR l at_ name sec i).1.length (seedR l at_ name sec i).2.length = 0 := by
 obtain ⟨h1, h2, h3, h4⟩ := okL_get hok hi
 have h5 := (seedR_may hok hc at_ hn hs (i := i) (j := i) (by omega) hi).1
 rw [belE, if_neg (fun h => h h1), if_neg (fun h => h h5)]
abbrev levC (p : PairV) (NA : Option Addr) (nl nc : Nat) (SA : Option Addr) (sl sc : Nat) (q : Nat) : List Value := [.int .u32 (p.o.toNat : Int), .int .u32 (p.t.toNat : Int), .slice NA nl nc, .slice SA sl sc, .int .u32 (q : Int)]
section
variable {G : World} {M : Mem} {L : Own} {NA SA TA : Option Addr} {nl nc sl_ sc tl tc : Nat} {name sec text : List UInt8}
theorem levels_spec {A B : Option Addr} {n c m d : Nat} :
  Con Tryz.prog 50 #[.slice A n c, .agg (List.toArray (seedC NA nl nc SA sl_ sc)), .slice B m d] G M L (fun v M' L' => M = M' ∧ ∃ x1 x2 x3, L' = (x3, .cells #[.slice B m d] 118 (0, 0)) :: (x2, .cells (List.toArray (seedC NA nl nc SA sl_ sc)) 33 (0, 0)) :: (x1, .cells #[.slice A n c] 31 (0, 0)) :: L ∧ v = .func (.func 101) #[] #[.pointer (some ⟨x1, 0, none⟩), .pointer (some ⟨x2, 0, none⟩), .pointer (some ⟨x3, 0, none⟩)]) noPanic := by
 refine zfn Tryz.func50 rfl 8 rfl <| zr <| tl_e rfl <| e_box rfl <| fun b1 => tl_e rfl <| e_box rfl <| fun b2 => tl_e rfl <| e_box rfl <| fun b3 => as0 rfl <| zq <| .s3 3 4 5 rfl rfl rfl <| zr <| tl_y rfl (y_makeFunc rfl rfl) <| asF rfl <| zq <| .s1 6 rfl <| x_ret (ret1 rfl rfl lR ⟨rfl, b1, b2, b3, rfl, rfl⟩)
theorem levels1_spec (hg : LmG M) {l0 x1 x2 x3 : Nat} {A B : Option Addr} {n c d : Nat} {l : List PairV} (h : Row M 2 A n c (prow l)) {at_ : List Nat} (hat : Row M 1 B n d (u32r at_)) (hlt : ∀ k, k < n → at_.getD k 0 < 4294967296) (hok : okL l) (hcan : canB l nl sl_) (hname : Bytes M NA nl nc name) (hsec : Bytes M SA sl_ sc sec) {X0 : Own} {Inv : Nat → Mem → Own → Prop} {Dn : Mem → Own → Prop} (hmono : ∀ k M1 M2 X, Le M1 M2 → Inv k M1 X → Inv k M2 X)
  (hy : ∀ k M1 X1 A1 n1 c1 A2 n2 c2, k < n → Bytes M1 A1 n1 c1 (seedR l at_ name sec k).1 → Bytes M1 A2 n2 c2 (seedR l at_ name sec k).2 → Le M M1 → Inv k M1 X1 → YCon Tryz.prog l0 [.int .i64 (k : Nat), .agg (List.toArray (levC (l.getD k p0) A1 n1 c1 A2 n2 c2 (at_.getD k 0)))] G M1 X1 (Inv (k + 1)) Dn) (h0 : Inv 0 M X0) :
  Con Tryz.prog 101 #[.func (.yield l0) #[] #[], .pointer (some ⟨x1, 0, none⟩), .pointer (some ⟨x2, 0, none⟩), .pointer (some ⟨x3, 0, none⟩)] G M ((x3, .cells #[.slice B n d] 118 (0, 0)) :: (x2, .cells (List.toArray (seedC NA nl nc SA sl_ sc)) 33 (0, 0)) :: (x1, .cells #[.slice A n c] 31 (0, 0)) :: X0)
   (fun v M' L' => ∃ X', DropTo L' X' ∧ (Inv n M' X' ∨ Dn M' X')) noPanic := by
 have hmx := h.max
 have hle := h.le
 have hln : l.length = n := by have := h.len; rw [prow, flat_len pcl] at this; omega
 have hal : at_.length = n := by have := hat.len; simp [u32r] at this; omega
 have hnl := hname.size
 have hsl := hsec.size
 have hn8 := hok.1.2
 refine zfn Tryz.func101 rfl 33 rfl <| zr <| tLd rfl rfl <| tLen rfl <| mv0 rfl <| zq <| x_block ?_
 refine x_loop (I := fun m' F D M1 L1 => ∃ (k : Nat) (X1 : Own) (A1 : Option Addr) (n1 c1 : Nat) (A2 : Option Addr) (n2 c2 : Nat), m' = n - k ∧ k ≤ n ∧ Le M M1 ∧ Bytes M1 A1 n1 c1 (seedR l at_ name sec k).1 ∧ Bytes M1 A2 n2 c2 (seedR l at_ name sec k).2 ∧ Inv k M1 X1 ∧ D = [] ∧ L1 = (x3, .cells #[.slice B n d] 118 (0, 0)) :: (x2, .cells (List.toArray (seedC A1 n1 c1 A2 n2 c2)) 33 (0, 0)) :: (x1, .cells #[.slice A n c] 31 (0, 0)) :: X1 ∧ F = [(0, .func (.yield l0) #[] #[]), (2, .pointer (some ⟨x2, 0, none⟩)), (3, .pointer (some ⟨x3, 0, none⟩)), (7, .slice A n c), (8, .int .i64 n), (9, .int .i64 k)]) (n) (F0 := [(0, _), (2, _), (3, _), (7, _), (8, _), (9, _)]) ?_ (cs6 rfl rfl rfl rfl rfl rfl) ?_
 ·
  exact ⟨0, X0, _, _, _, _, _, _, rfl, by omega, Le.refl _, hname, hsec, h0, rfl, rfl, rfl⟩
 rintro m _ _ M1 L1 ⟨k, X1, A1, n1, c1, A2, n2, c2, rfl, hk, hM1, hb1, hb2, hI, rfl, rfl, rfl⟩
 refine zr <| tl_y rfl (y_lss rfl rfl) <| zq <| x_seq <| x_cond rfl (fun hc1 => ?_) (fun hc1 => ?_)
 ·
  have hkn : k < n := by omega
  have hs1 := hb1.size
  have hs2 := hb2.size
  have hp : l[k]? = some (l.getD k p0) := (okL_get hok (i := k) (by omega)).2.2.1
  have hbel := seedR_bel hok hcan at_ hnl hsl (i := k) (by omega)
  rw [hs1, hs2] at hbel
  have haq : at_[k]? = some (at_.getD k 0) := by rw [List.getD_eq_getElem?_getD, List.getElem?_eq_getElem (by omega)]; rfl
  obtain ⟨q, hq⟩ : ∃ q : UInt32, q.toNat = at_.getD k 0 := ⟨UInt32.ofNat (at_.getD k 0), by rw [UInt32.toNat_ofNat', Nat.mod_eq_of_lt (by have := hlt k hkn; omega)]⟩
  obtain ⟨g, o, rfl, hcell⟩ := (h.mono hM1).cellsN (by omega)
  have hc2 := fun L => hcell L (k * 2) 2 (by rw [prow, flat_len pcl]; omega)
  simp only [prow, flat_take pcl l k _ hp] at hc2
  obtain ⟨g2, o2, rfl, hcell2⟩ := (hat.mono hM1).addr (by omega)
  refine x_skip <| .then_normal <| x_seq <| x_block <| zr <| mvI rfl <| tl_y rfl (y_indexAddr rfl rfl (by omega)) <| tl_y rfl (y_loadAgg rfl rfl (.at_ (hc2 _) (by omega))) <| tl_e rfl <| e_alloc <| fun b1 => asI rfl <| tl_e rfl <| e_sT rfl rfl <| zq <| .s8 0 2 3 5 6 7 8 9 rfl rfl rfl rfl rfl rfl rfl rfl <| x_seq <| x_seq <| x_draw0 11 ([(b1, .cells (List.toArray (l.getD k p0).cells) 63 (0, 0)), (x3, .cells #[.slice (some ⟨g2, o2, none⟩) n d] 118 (0, 0)), (x2, .cells (List.toArray (seedC A1 n1 c1 A2 n2 c2)) 33 (0, 0))]) Keeps.mem hmix rfl ?_
  refine pmF 0 rfl rfl <| pmI 1 rfl rfl <| zy 2 rfl rfl (y_lg rfl rfl) <| zy 3 rfl rfl (y_lg rfl rfl) <| pLd 4 rfl rfl rfl <| pmI 5 rfl rfl <| zp 6 rfl rfl (y_indexAddr rfl rfl (by omega)) <| zy 7 rfl rfl (y_load rfl rfl (.at_ (hcell2 _ k _ (u32r_get haq)) (by omega))) <| zp 8 rfl rfl (y_build rfl) <| ze 9 rfl rfl <| e_yieldB (R := [(b1, .cells (List.toArray (l.getD k p0).cells) 63 (0, 0)), (x3, .cells #[.slice (some ⟨g2, o2, none⟩) n d] 118 (0, 0)), (x2, .cells (List.toArray (seedC A1 n1 c1 A2 n2 c2)) 33 (0, 0)), (x1, .cells #[.slice (some ⟨g, o, none⟩) n c] 31 (0, 0))]) (X := X1) rfl rfl (hy k M1 X1 _ _ _ _ _ _ hkn hb1 hb2 hM1 hI) <| fun b M2 X2 hM2 hb => ?_
  simp only [List.cons_append, List.nil_append]
  refine kp ?_
  refine zp 10 rfl rfl (y_not rfl) <| zz <| .then_normal <| .sub (F' := [(0, _), (2, _), (3, _), (5, _), (6, _), (7, _), (8, _), (9, _), (24, _)]) (cs9 rfl rfl rfl rfl rfl rfl rfl rfl rfl) <| x_condb rfl (fun hc2 => ?_) (fun hc2 => ?_)
  ·
   refine x_ret (.then_ret (.block_ret (.then_ret (.loop_ret (.block_ret (ret0 rfl (hM1.trans hM2) ⟨X2, iI, by
    rcases hb with ⟨rfl, _⟩ | ⟨_, hb⟩
    ·
     simp at hc2
    exact .inr hb⟩))))))
  replace hb : Inv (k + 1) M2 X2 := by
   rcases hb with ⟨_, hb⟩ | ⟨rfl, hb⟩
   ·
    exact hb
   simp at hc2
  have hd := hM1.trans hM2
  have he : Le M2 M2 := Le.refl _
  obtain ⟨g3, o3, e3, hcell3⟩ := (hat.mono hd).addr (by omega)
  obtain ⟨rfl, rfl⟩ : g2 = g3 ∧ o2 = o3 := by simp at e3; omega
  refine x_skip <| .then_normal <| x_draw 7 hmix rfl <| zy 0 rfl rfl (y_lg rfl rfl) <| zy 1 rfl rfl (y_lg rfl rfl) <| pLd 2 rfl rfl rfl <| pmI 3 rfl rfl <| zp 4 rfl rfl (y_indexAddr rfl rfl (by omega)) <| zy 5 rfl rfl (y_load (v := .int .u32 ((q.toNat : Nat) : Int)) rfl rfl (by rw [hq]; exact .at_ (hcell3 _ k _ (u32r_get haq)) (by omega))) ?_
  refine to_e 6 rfl (by kernel_rfl) rfl (e_call rfl (below_spec (hg.mono hd) (l.getD k p0) (hb1.mono hM2) (hb2.mono hM2) q) (by
   rintro _ M3 _ hM3 ⟨rfl, hno, rfl⟩
   exact absurd hbel hno) ?_)
  rintro _ M3 _ hM3 ⟨rfl, y, z, rfl, h0', hy', hz'⟩
  rw [hq] at hy' hz'
  replace he := he.trans hM3
  refine kp ?_
  refine zt 7 rfl rfl <| e_sT rfl rfl <| zz <| .block_normal <| .then_normal <| .s6 0 2 3 7 8 9 rfl rfl rfl rfl rfl rfl <| x_region <| tl_y rfl (y_addI rfl rfl (by omega)) <| mvI rfl <| .dropTo ((x3, .cells #[.slice (some ⟨g2, o2, none⟩) n d] 118 (0, 0)) :: (x2, .cells (List.toArray (seedC y.a y.n y.c z.a z.n z.c)) 33 (0, 0)) :: (x1, .cells #[.slice (some ⟨g, o, none⟩) n c] 31 (0, 0)) :: X2) iI ?_
  refine tl_nil <| .loop_next (m' := n - (k + 1)) (by omega) (F' := [(0, _), (2, _), (3, _), (7, _), (8, _), (9, _)]) (cs6 rfl rfl rfl rfl rfl rfl) ?_
  exact ⟨k + 1, X2, _, _, _, _, _, _, rfl, by omega, hd.trans hM3, hy', hz', hmono _ _ _ _ hM3 hb, rfl, rfl, rfl⟩
 refine x_exit (.then_exit (.loop_exit (.block_exit (end0 rfl hM1 ⟨X1, iI, .inl (by
  obtain rfl : k = n := by omega
  exact hI)⟩))))
theorem lsign_spec (hg : LmG M) (x : PairV) (hname : Bytes M NA nl nc name) (hsec : Bytes M SA sl_ sc sec) (q : UInt32) (htext : Bytes M TA tl tc text) (h0 : lsigE x nl sl_ q.toNat tl = 0) :
  Con Tryz.prog 54 #[.agg (List.toArray (levC x NA nl nc SA sl_ sc q.toNat)), .slice TA tl tc] G M L (fun v M' L' => L' = L ∧ ∃ A m c, v = .slice A m c ∧ Bytes M' A m c (lsigB x name sec q.toNat text)) noPanic := by
 refine zfn Tryz.func54 rfl 21 rfl <| zr <| tl_e rfl <| e_box rfl <| fun b1 => as0 rfl <| zq <| zr <| tFa rfl <| tLg rfl rfl <| tFa rfl <| tLg rfl rfl <| tFa rfl <| tLd rfl rfl <| mvS rfl <| zca rfl (Sign_lspec hg x hname hsec q htext) ?_
 rintro _ M1 _ hM1 ⟨rfl, A1, m1, c1, rfl, hA1⟩
 rw [lsigV, if_pos h0] at hA1
 refine mvU rfl <| zx rfl <| zx rfl <| asS rfl <| asI rfl <| zq <| .s2 5 6 rfl rfl <| zr <| mvI rfl <| tl_e rfl (e_call rfl (hwell_spec _) (by
  rintro _ _ _ _ ⟨rfl, rfl, hne, rfl⟩
  exact absurd h0 hne) ?_)
 rintro _ _ _ _ ⟨rfl, rfl, _⟩
 refine zq <| zr <| mvS rfl <| asS rfl <| zq <| .s1 4 rfl <| x_ret (.dropTo L iI (ret1 rfl rfl hM1 ⟨rfl, _, _, _, rfl, hA1⟩))
end
section
variable {G : World} {M : Mem} {L : Own}
theorem PutO_spec (v : UInt64) (n : Nat) (hn : n ≤ 8) :
  Con Tryz.prog 52 #[.int .u64 (v.toNat : Int), .int .i64 (n : Int)] G M L (fun r M' L' => M = M' ∧ ∃ A c E, r = .slice A n c ∧ OwnRow 5 1 A n c ((putB v.toNat n).map bv) E ∧ L' = E ++ L) noPanic := by
 refine zfn Tryz.func52 rfl 32 rfl <| zr <| as0 rfl <| zq <| zr2 <| mvI rfl <| tl_y rfl (y_lss rfl rfl) <| mvB rfl <| tl_set (s := 9) (u := .bool false) rfl (by rw [decide_eq_false]; omega) <| mvI rfl <| tl_y rfl (y_gtr rfl rfl) <| tPf rfl rfl <| zq <| .s3 0 1 12 rfl rfl rfl <| x_false rfl (by rw [decide_eq_false]; omega) <| x_skip <| .then_normal <| zr <| mvI rfl <| tl_e rfl <| e_make1 rfl rfl (by omega) (by omega) (by omega) (by omega) <| fun b1 => ?_
 simp only [Int.toNat_natCast]
 refine asS rfl <| zq <| zr2 <| mvI rfl <| mv0 rfl <| zq <| x_block ?_
 refine x_loop (I := fun m' F D M1 L1 => ∃ k : Nat, m' = n - k ∧ k ≤ n ∧ D = [] ∧ M = M1 ∧ L1 = (b1, .cells ((List.replicate (n - k) (0 : UInt8) ++ (putB v.toNat n).drop (n - k)).map bv).toArray 5 (0, 0)) :: L ∧ F = [(0, .int .u64 (v.toNat : Int)), (1, .int .i64 n), (5, .slice (some ⟨b1, 0, none⟩) n n), (15, .int .i64 n), (16, .int .i64 k)]) (n) (F0 := [(0, _), (1, _), (5, _), (15, _), (16, _)]) ?_ (cs5 rfl rfl rfl rfl rfl) ?_
 ·
  exact ⟨0, rfl, by omega, rfl, rfl, by rw [Nat.sub_zero, List.drop_of_length_le (by rw [putB_length]; omega), List.append_nil, List.map_replicate]; rfl, rfl⟩
 rintro m _ _ M1 L1 ⟨k, rfl, hk, rfl, rfl, rfl, rfl⟩
 refine zr <| tl_y rfl (y_lss rfl rfl) <| zq <| x_seq <| x_cond rfl (fun hc2 => ?_) (fun hc2 => ?_)
 ·
  refine x_skip <| .then_normal <| x_seq <| x_block <| zr <| mvI rfl <| asI rfl <| zq <| x_region <| mvS rfl <| mvI rfl <| tl_y rfl (y_subI rfl rfl (by omega)) <| mvI rfl <| tl_y rfl (y_subI rfl rfl (by omega)) <| mvI rfl <| mvI rfl <| tl_y rfl (y_mulI rfl rfl (by omega)) <| tl_y rfl (y_shr64 (s := 8 * k) rfl rfl) <| tl_y rfl (y_u64u8 rfl) ?_
  rw [shr_byte]
  refine tl_y rfl (y_indexAddr rfl rfl (by omega)) <| tl_e rfl <| e_storeAt (c := (List.replicate (n - k) (0 : UInt8) ++ (putB v.toNat n).drop (n - k)).map bv) (v := bv _) (o := n - 1 - k) (by show some (Value.pointer (some ⟨b1, _, none⟩)) = _; congr 4; omega) rfl rfl iI (by simp [putB_length]; omega) iI ?_
  rw [← List.map_set, put_step v.toNat n k (by omega)]
  refine tl_nil <| .block_normal <| .then_normal <| .s5 0 1 5 15 16 rfl rfl rfl rfl rfl <| x_region <| tl_y rfl (y_addI rfl rfl (by omega)) <| mvI rfl <| tl_nil <| .loop_next (m' := n - (k + 1)) (by omega) (F' := [(0, _), (1, _), (5, _), (15, _), (16, _)]) (cs5 rfl rfl rfl rfl rfl) ?_
  exact ⟨k + 1, rfl, by omega, rfl, rfl, rfl, rfl⟩
 refine x_exit <| .then_exit <| .loop_exit <| .block_exit <| .then_normal <| .s1 5 rfl <| zr <| mvS rfl <| asS rfl <| zq ?_
 obtain rfl : k = n := by omega
 rw [Nat.sub_self, List.replicate_zero, List.nil_append, List.drop_zero]
 exact x_ret (ret1 rfl rfl lR ⟨rfl, _, _, _, rfl, OwnRow.made (by simp [putB_length]) (by omega), rfl⟩)
theorem PutVO_spec (v n : Nat) (hv : v < 18446744073709551616) (hn : n ≤ 8) :
  Con Tryz.prog 52 #[.int .u64 (v : Int), .int .i64 (n : Int)] G M L (fun r M' L' => M = M' ∧ ∃ A c E, r = .slice A n c ∧ OwnRow 5 1 A n c ((putB v n).map bv) E ∧ L' = E ++ L) noPanic := by
 have h := PutO_spec (G := G) (M := M) (L := L) (UInt64.ofNat v) n hn
 rwa [UInt64.toNat_ofNat', Nat.mod_eq_of_lt (by omega)] at h
end
def LvRows (M : Mem) (vs : List Value) (l : List PairV) (at_ : List Nat) (name sec : List UInt8) (k : Nat) : Prop := vs.length = k * 5 ∧ ∀ i, i < k → ∃ A1 n1 c1 A2 n2 c2, (vs.drop (i * 5)).take 5 = levC (l.getD i p0) A1 n1 c1 A2 n2 c2 (at_.getD i 0) ∧ Bytes M A1 n1 c1 (seedR l at_ name sec i).1 ∧ Bytes M A2 n2 c2 (seedR l at_ name sec i).2
theorem LvRows.mono {M M' : Mem} {vs : List Value} {l : List PairV} {at_ : List Nat} {name sec : List UInt8} {k : Nat} (h : LvRows M vs l at_ name sec k) (hle : Le M M') : LvRows M' vs l at_ name sec k :=
 ⟨h.1, fun i hi => let ⟨A1, n1, c1, A2, n2, c2, h1, h2, h3⟩ := h.2 i hi; ⟨A1, n1, c1, A2, n2, c2, h1, h2.mono hle, h3.mono hle⟩⟩
theorem LvRows.nil {M : Mem} {l : List PairV} {at_ : List Nat} {name sec : List UInt8} : LvRows M [] l at_ name sec 0 := ⟨rfl, fun i hi => by omega⟩
theorem LvRows.snoc {M : Mem} {vs : List Value} {l : List PairV} {at_ : List Nat} {name sec : List UInt8} {k : Nat} (h : LvRows M vs l at_ name sec k) {A1 A2 : Option Addr} {n1 c1 n2 c2 : Nat} (h1 : Bytes M A1 n1 c1 (seedR l at_ name sec k).1) (h2 : Bytes M A2 n2 c2 (seedR l at_ name sec k).2) :
  LvRows M (vs ++ levC (l.getD k p0) A1 n1 c1 A2 n2 c2 (at_.getD k 0)) l at_ name sec (k + 1) := by
 refine ⟨by rw [List.length_append, h.1]; simp; omega, fun i hi => ?_⟩
 have hl := h.1
 by_cases hik : i < k
 ·
  obtain ⟨B1, m1, d1, B2, m2, d2, k1, k2, k3⟩ := h.2 i hik
  refine ⟨B1, m1, d1, B2, m2, d2, ?_, k2, k3⟩
  rw [List.drop_append_of_le_length (by omega), List.take_append_of_le_length (by rw [List.length_drop]; omega), k1]
 obtain rfl : i = k := by omega
 refine ⟨A1, n1, c1, A2, n2, c2, ?_, h1, h2⟩
 rw [← hl, List.drop_left]; rfl
theorem lv_len {l : List PairV} {nl sl : Nat} (hok : okL l) (hc : canB l nl sl) (at_ : List Nat) {name sec : List UInt8} (text : List UInt8) (hn : name.length = nl) (hs : sec.length = sl) {x : Nat} {i : Nat} (hi : i < l.length) (hat : at_ = atsN (l.map tv) x) :
  (sgR l at_ name sec text i).length = sigN (l.getD i p0) ∧ sigN (l.getD i p0) ≤ 10000 ∧ at_.getD i 0 < leavesN (treeV (l.getD i p0).t).h ∧ at_.getD i 0 < 4294967296 := by
 obtain ⟨h1, h2, h3, h4⟩ := okL_get hok hi
 obtain ⟨n, w, p, H, hx⟩ := okP_facts h1
 obtain ⟨z1, z2, z3, z4, z5⟩ := hx.sizes
 have h16 := (seedR_ok hok hc at_ hn hs i (by omega)).1
 have ht : (l.map tv)[i]? = some (tv (l.getD i p0)) := by rw [List.getElem?_map, h3]; rfl
 have hq := atN_lt ht x
 have hp25 := pw2_25 hx.h2
 have hH : hN (tv (l.getD i p0)) = H := by
  have : (treeV (l.getD i p0).t).h = (H : Int) := hx.th
  rw [hN]; show (treeV (l.getD i p0).t).h.toNat = H; rw [this]; rfl
 have hg : at_.getD i 0 = atN (l.map tv) x i := by rw [hat, List.getD_eq_getElem?_getD, atsN_get _ _ (by rw [List.length_map]; exact hi)]; rfl
 rw [hH] at hq
 refine ⟨?_, by omega, ?_, by omega⟩
 ·
  rw [sgR]
  exact (lsig_parts hx h16 _ _ (by rw [hg]; exact hq)).1
 rw [hx.lv, hg]; exact hq
theorem take5 {vs : List Value} {j : Nat} {a b c d e : Value} (h : (vs.drop j).take 5 = [a, b, c, d, e]) : (vs.drop j).take 2 = [a, b] ∧ (vs.drop (j + 2)).take 2 = [c, d] := by
 have h1 := congrArg (List.take 2) h
 have h2 := congrArg (fun l => (List.drop 2 l).take 2) h
 simp only [List.take_take, List.drop_take, List.drop_drop] at h1 h2
 exact ⟨h1, h2⟩
section
variable {G : World} {M : Mem} {L : Own} {NA SA TA : Option Addr} {nl nc sl_ sc tl tc : Nat} {name sec text : List UInt8}
theorem Sign1_hspec (hg : LmG M) {A : Option Addr} {n c : Nat} {pl : List PairV} (h : Row M 2 A n c (prow pl)) (hname : Bytes M NA nl nc name) (hsec : Bytes M SA sl_ sc sec) (x : UInt64) (htext : Bytes M TA tl tc text) {bl bs bt bn : Nat}
  [i1 : Has L bl (.cells #[.slice A n c] 31 (0, 0))] [i2 : Has L bs (.cells (List.toArray (seedC NA nl nc SA sl_ sc)) 33 (0, 0))] [i3 : Has L bt (.cells #[.slice TA tl tc] 22 (0, 0))] [i4 : Has L bn (.cells #[.int .u64 (x.toNat : Int)] 38 (0, 0))] :
  Con Tryz.prog 47 #[.pointer (some ⟨bl, 0, none⟩), .pointer (some ⟨bs, 0, none⟩), .pointer (some ⟨bt, 0, none⟩), .pointer (some ⟨bn, 0, none⟩)] G M L (fun v M' L' => L' = L ∧ ∃ A m c, v = .slice A m c ∧ hsigE pl nl sl_ x.toNat tl = 0 ∧ Bytes M' A m c (hsigB pl (atsN (pl.map tv) x.toNat) name sec text)) (fun ch M' L' => L' = L ∧ ∃ e, (hsigE pl nl sl_ x.toNat tl ≠ 0 ∧ e = hsigE pl nl sl_ x.toNat tl) ∧ ch = hwrong e) := by
 have hln : pl.length = n := by have := h.len; rw [prow, flat_len pcl] at this; omega
 have hns := hname.size
 have hss := hsec.size
 have hts := htext.size
 refine enterM (args := [_, _, _, _]) (fn := Tryz.f47) ⟨Tryz.func47, rfl, by kernel_rfl, by kernel_rfl⟩ 77 rfl <| zr <| as0 rfl <| zq <| zr <| tLd rfl rfl <| tLg rfl rfl <| tl_e rfl (e_call rfl (makes_spec hg h) (by
  rintro _ M1 L hM1 ⟨rfl, hno, rfl⟩
  have e : hsigE pl nl sl_ x.toNat tl = canE pl nl sl_ := by rw [hsigE, if_pos hno]
  exact TP.dropTo L iI (.retM0 hM1 ⟨rfl, _, ⟨by rw [e]; exact hno, rfl⟩, by rw [e]⟩)) ?_)
 rintro _ M1 L hM1 ⟨rfl, h0⟩
 have hd : Le M M1 := hM1
 obtain ⟨hok, hcan⟩ := canE_zero h0
 have hn8 := hok.1
 have hmx := h.max
 have hle := h.le
 refine zq <| .s4 0 1 2 3 rfl rfl rfl rfl <| zr <| tLd rfl rfl <| tLen rfl <| tl_y rfl (y_leq rfl rfl) <| tl_e rfl (e_call rfl (hmust_spec _ _) (by
  rintro _ _ L _ ⟨rfl, rfl, ht, rfl⟩
  have e : hsigE pl nl sl_ x.toNat tl = 1 := by rw [hsigE, if_neg (fun h => h h0), if_pos (by simp at ht; omega)]
  exact TP.dropTo L iI (.retM0 hd ⟨rfl, _, ⟨by rw [e]; decide, rfl⟩, by rw [e]⟩)) ?_)
 rintro _ _ L _ ⟨rfl, rfl, ht⟩
 have htl : tl ≤ 65536 := by simp at ht; omega
 have hEp : hsigE pl nl sl_ x.toNat tl = plE pl x.toNat := by rw [hsigE, if_neg (fun h => h h0), if_neg (by omega)]
 refine zq <| .s4 0 1 2 3 rfl rfl rfl rfl <| zr <| tl_e rfl <| e_alloc <| fun b1 => zq <| x_seq <| x_seq ?_
 have he : Le M1 M1 := Le.refl _
 refine x_draw 6 hmix rfl <| pLd 0 rfl rfl rfl <| zy 1 rfl rfl (y_lg rfl rfl) <| pLd 2 rfl rfl rfl <| pLd 3 rfl rfl rfl <| to_e 4 rfl (by kernel_rfl) rfl (e_call rfl (places_spec (hg.mono hd).hs (h.mono hd) x) (by
  rintro _ M2 _ hM2 ⟨rfl, e, he', rfl⟩
  have h1 : hsigE pl nl sl_ x.toNat tl = e ∧ e ≠ 0 := by
   rw [hEp]
   rcases he' with ⟨hno, rfl⟩ | ⟨_, hno, rfl⟩
   ·
    exact absurd hok hno
   exact ⟨by rw [plE, if_pos hok, if_neg hno], by decide⟩
  exact TP.dropTo L iI (.retM0 (hd.trans hM2) ⟨rfl, e, ⟨by rw [h1.1]; exact h1.2, h1.1.symm⟩, rfl⟩)) ?_)
 rintro _ M3 _ hM3 ⟨rfl, _, hxt, AT, cT, rfl, hat⟩
 replace hd := hd.trans hM3
 replace he := he.trans hM3
 have hE0 : hsigE pl nl sl_ x.toNat tl = 0 := by rw [hEp, plE, if_pos hok, if_pos hxt]
 have hlt : ∀ k, k < n → (atsN (pl.map tv) x.toNat).getD k 0 < 4294967296 := fun k hk => (lv_len hok hcan _ text hns hss (i := k) (by omega) rfl).2.2.2
 refine kp ?_
 refine ze 5 rfl rfl <| e_call' rfl levels_spec ?_
 rintro _ _ _ _ ⟨rfl, x1, x2, x3, rfl, rfl⟩
 refine kp ?_
 refine zz <| .then_normal <| .s4 0 2 5 24 rfl rfl rfl rfl <| x_block <| x_rangeN rfl rfl <| fun l r0 fn tm lps las lbd hps has hbd htm => ?_
 obtain ⟨xs, hxs⟩ : ∃ xs : LoopState → Option Code → Option Addr → Nat → Nat → Own → Own, ∀ st pd A k c E, xs st pd A k c E = lrec l st pd fn tm lps las lbd r0 :: (r0, .deferred (some [])) :: (b1, .cells #[.slice A k c] 114 (0, 0)) :: (E ++ L) := ⟨_, fun _ _ _ _ _ _ => rfl⟩
 refine Con.postD (Con.to ((x3, .cells #[.slice AT n cT] 118 (0, 0)) :: (x2, .cells (List.toArray (seedC NA nl nc SA sl_ sc)) 33 (0, 0)) :: (x1, .cells #[.slice A n c] 31 (0, 0)) :: xs .ready none none 0 0 []) (by rw [hxs, List.nil_append]; infer_instance) (levels1_spec (hg.mono hd) (h.mono hd) hat hlt hok hcan (hname.mono hd) (hsec.mono hd) (Inv := fun k M2 X2 => ∃ (A6 : Option Addr) (c6 : Nat) (E6 : Own) (vs6 : List Value), Le M3 M2 ∧ OwnRow 121 5 A6 k c6 vs6 E6 ∧ LvRows M2 vs6 pl (atsN (pl.map tv) x.toNat) name sec k ∧ X2 = xs .ready none A6 k c6 E6) (Dn := fun _ _ => False) (fun k M1' M2' X hle ⟨A6, c6, E6, vs6, q1, q2, q3, q4⟩ => ⟨A6, c6, E6, vs6, q1.trans hle, q2, q3.mono hle, q4⟩) ?_ ⟨none, 0, [], [], Le.refl _, .nil, .nil, rfl⟩)) ?_
 ·
  rintro k M4 X4 A1 n1 c1 A2 n2 c2 hk hb1 hb2 hM4 ⟨A6, c6, E6, vs6, hM34, hE6, hR6, rfl⟩
  rw [hxs]
  subst hps
  subst has
  subst hbd
  refine ycon_body htm rfl (by kernel_rfl) <| fun R1 => ?_
  simp only [List.cons_append, List.append_assoc]
  refine x_region <| tl_e rfl <| e_alloc <| fun b7 => tl_e rfl <| e_sT rfl rfl <| .bring l iI <| tl_nil <| .asg (by kernel_rfl) <| x_block <| x_region <| tLd rfl rfl <| tLg rfl rfl <| tl_e rfl <| e_buildSlice rfl (by decide) <| fun b8 => .pub b8 iI <| fun M5 hM5 hb8 => .bringE E6 iI <| tl_e rfl <| e_append (by decide) rfl rfl hE6 (.row (Row.whole (s := 5) (vs := levC (pl.getD k p0) A1 n1 c1 A2 n2 c2 ((atsN (pl.map tv) x.toNat).getD k 0)) hb8 rfl (by omega))) rfl (by omega) (by omega) <| fun A9 c9 E9 hE9 => tl_e rfl <| e_sT rfl rfl <| tl_nil (.block_normal (.on ((r0, .deferred (some [])) :: (b1, .cells #[.slice A9 (k + 1) c9] 114 (0, 0)) :: (E9 ++ (L ++ R1))) iI iI
   (X := (r0, .deferred (some [])) :: (b1, .cells #[.slice A9 (k + 1) c9] 114 (0, 0)) :: (E9 ++ L)) (by simp) hM5 ⟨A9, c9, E9, _, hM34.trans hM5, hE9, (hR6.mono hM5).snoc (hb1.mono hM5) (hb2.mono hM5), (hxs _ _ _ _ _ _).symm⟩))
 rintro v M4 L4 hM4 ⟨X', hdrop, hX⟩
 rcases hX with ⟨A6, c6, E6, vs6, hM34, hE6, hR6, rfl⟩ | hX
 ·
  rw [hxs] at hdrop
  refine ⟨_, hdrop, .ready, none, _, by simp, rfl, ?_⟩
  refine .dropTo (E6 ++ ((r0, .deferred (some [])) :: (b1, .cells #[.slice A6 n c6] 114 (0, 0)) :: L)) iI <| .pubRow hE6 <| fun M5 hM5 hrow => ?_
  replace hR6 := hR6.mono hM5
  replace hd := hd.trans (hM34.trans hM5)
  have hvl := hR6.1
  have hrm := hrow.max
  have hrc := hrow.le
  obtain ⟨at_, hatd⟩ : ∃ at_, at_ = atsN (pl.map tv) x.toNat := ⟨_, rfl⟩
  rw [← hatd] at hR6 ⊢
  refine .block_normal <| .then_normal <| zr <| tLd rfl rfl <| tLen rfl <| tl_y rfl (y_subI rfl rfl (by omega)) ?_
  rw [show ((n : Nat) : Int) - 1 = ((n - 1 : Nat) : Int) by omega]
  refine tl_y rfl (y_convN64 rfl (by omega)) ?_
  refine zca rfl (PutVO_spec (n - 1) 4 (by omega) (by omega)) ?_
  rintro _ _ _ _ ⟨rfl, AP, cP, EP, rfl, hEP, rfl⟩
  refine asS rfl <| zq <| .s3 2 5 8 rfl rfl rfl <| zr2 <| tLd rfl rfl <| tLen rfl <| mv0 rfl <| zq <| x_block <| x_loop (I := fun m' F D M6 L6 => ∃ (k no : Nat) (AO : Option Addr) (cO : Nat) (E : Own), m' = n - k ∧ k ≤ n ∧ Le M5 M6 ∧ no ≤ 4 + k * 10100 ∧ OwnRow 5 1 AO no cO ((putB (n - 1) 4 ++ catR (levR pl at_ name sec text) k).map bv) E ∧ D = [Eng.mark r0] ∧ L6 = E ++ ((r0, .deferred (some [])) :: (b1, .cells #[.slice A6 n c6] 114 (0, 0)) :: L) ∧ F = [(2, .pointer (some ⟨bt, 0, none⟩)), (5, .pointer (some ⟨b1, 0, none⟩)), (8, .slice AO no cO), (36, .slice A6 n c6), (37, .int .i64 n), (38, .int .i64 k)]) (n) (F0 := [(2, _), (5, _), (8, _), (36, _), (37, _), (38, _)]) ?_ (cs6 rfl rfl rfl rfl rfl rfl) ?_
  ·
   exact ⟨0, 4, AP, cP, EP, rfl, by omega, Le.refl _, by omega, by rw [catR_zero, List.append_nil]; exact hEP, rfl, rfl, rfl⟩
  rintro m _ _ M6 _ ⟨k, no, AO, cO, E, rfl, hk, hM6, hno, hE, rfl, rfl, rfl⟩
  refine zr <| tl_y rfl (y_lss rfl rfl) <| zq <| x_seq <| x_cond rfl (fun hc1 => ?_) (fun hc1 => ?_)
  ·
   have hkn : k < n := by omega
   have hd6 := hd.trans hM6
   obtain ⟨A1, n1, c1, A2, n2, c2, hv, hb1, hb2⟩ := (hR6.mono hM6).2 k hkn
   obtain ⟨z1, z2, z3, z4⟩ := lv_len hok hcan at_ text hns hss (i := k) (by omega) hatd
   obtain ⟨hy1, hy2⟩ := seedR_may hok hcan at_ hns hss (i := k) (j := k) (by omega) (by omega)
   rw [hb1.size, hb2.size] at hy2
   obtain ⟨q, hq⟩ : ∃ q : UInt32, q.toNat = at_.getD k 0 := ⟨UInt32.ofNat (at_.getD k 0), by rw [UInt32.toNat_ofNat', Nat.mod_eq_of_lt (by omega)]⟩
   rw [← hq] at hv z3
   obtain ⟨g, o, rfl, hcell⟩ := (hrow.mono hM6).cellsN (by omega)
   have hc5 := fun L => hcell L (k * 5) 5 (by omega)
   simp only [hv] at hc5
   have hsg : lsigB (pl.getD k p0) (seedR pl at_ name sec k).1 (seedR pl at_ name sec k).2 q.toNat (nextR pl at_ name sec text k) = sgR pl at_ name sec text k := by rw [sgR, hq]
   refine x_skip <| .then_normal <| x_seq <| x_block <| zr <| mvI rfl <| tl_y rfl (y_indexAddr rfl rfl (by omega)) <| tl_y rfl (y_loadAgg rfl rfl (.at_ (hc5 _) (by omega))) <| tl_e rfl <| e_alloc <| fun b12 => asI rfl <| tl_e rfl <| e_sT rfl rfl <| zq <| zr <| tLd rfl rfl <| asS rfl <| zq <| zr2 <| mvI rfl <| tl_y rfl (y_addI rfl rfl (by omega)) <| tLd rfl rfl <| tLen rfl <| tl_y rfl (y_lss rfl rfl) <| zq <| x_cond rfl (fun hc2 => ?_) (fun hc2 => ?_)
   ·
    have hk1 : k + 1 < n := by omega
    obtain ⟨A3, n3, c3, A4, n4, c4, hv1, hb3, hb4⟩ := (hR6.mono hM6).2 (k + 1) hk1
    obtain ⟨hv2, hv3⟩ := take5 hv1
    have hc2a := fun L => hcell L ((k + 1) * 5) 2 (by omega)
    have hc2b := fun L => hcell L ((k + 1) * 5 + 2) 2 (by omega)
    simp only [hv2] at hc2a
    simp only [hv3] at hc2b
    obtain ⟨hy3, hy4⟩ := seedR_may hok hcan at_ hns hss (i := k + 1) (j := k + 1) (by omega) (by omega)
    rw [hb3.size, hb4.size] at hy4
    have hnx : nextR pl at_ name sec text k = pubR pl at_ name sec (k + 1) := by rw [nextR, if_pos (by omega)]
    have hlv : levR pl at_ name sec text k = sgR pl at_ name sec text k ++ pubR pl at_ name sec (k + 1) := by rw [levR, if_pos (by omega)]
    have he : Le M6 M6 := Le.refl _
    refine x_draw 14 hmix rfl <| pLd 0 rfl rfl rfl <| pmI 1 rfl rfl <| zp 2 rfl rfl (y_addI rfl rfl (by omega)) <| zp 3 rfl rfl (y_indexAddr rfl rfl (by omega)) <| pFa 4 rfl rfl <| zy 5 rfl rfl (y_loadAgg rfl rfl (.at_ (hc2a _) (by omega))) <| pLd 6 rfl rfl rfl <| pmI 7 rfl rfl <| zp 8 rfl rfl (y_addI rfl rfl (by omega)) ?_
    refine zp 9 rfl rfl (y_indexAddr rfl rfl (by omega)) <| pFa 10 rfl rfl <| zy 11 rfl rfl (y_loadAgg rfl rfl (.at_ (hc2b _) (by omega))) ?_
    refine to_e 12 rfl (by kernel_rfl) rfl (e_call rfl (hpublic_spec (hg.mono hd6) (pl.getD (k + 1) p0) hb3 hb4) (by
     rintro _ M7 _ hM7 ⟨rfl, hno, rfl⟩
     exact absurd hy4 hno) ?_)
    rintro _ M7 _ hM7 ⟨rfl, _, A7, n7, c7, rfl, hb7⟩
    replace he := he.trans hM7
    have hs7 := hb7.size
    obtain ⟨hp1, hp2, hp3, hp4⟩ := okL_get hok (i := k + 1) (by omega)
    obtain ⟨n', w', p', H', hx'⟩ := okP_facts hp1
    have hn32 := hx'.o.n32
    obtain ⟨pp1, _, _, _, _⟩ := pub_parts hx' ((seedR_ok hok hcan at_ hns hss (k + 1) (by omega)).1) (seedR pl at_ name sec (k + 1)).2
    have hE1 : lsigE (pl.getD k p0) n1 n2 q.toNat n7 = 0 := by rw [lsigE, if_neg (fun h => h hy2), if_neg (by omega), if_neg (by omega)]
    refine kp ?_
    refine paS 13 rfl rfl <| zz <| .then_normal <| zr <| mvS rfl <| tLg rfl rfl <| mvS rfl <| zca rfl (lsign_spec (hg.mono (hd6.trans hM7)) (pl.getD k p0) (hb1.mono hM7) (hb2.mono hM7) q hb7 hE1) ?_
    rintro _ M8 _ hM8 ⟨rfl, A8, n8, c8, rfl, hb8⟩
    rw [← pubR, ← hnx, hsg] at hb8
    have hs8 := hb8.size
    refine .bringE E iI <| tl_e rfl <| e_append (by decide) rfl rfl hE (.row hb8) (all_one_bv _) (by omega) (by omega) <| fun A9 c9 E9 hE9 => asS rfl <| zq <| zr <| mvI rfl <| tl_y rfl (y_addI rfl rfl (by omega)) <| tLd rfl rfl <| tLen rfl <| tl_y rfl (y_lss rfl rfl) <| zq <| x_true rfl (by rw [decide_eq_true_iff]; omega) <| x_region <| mvS rfl <| mvS rfl <| .bringE E9 iI <| tl_e rfl <| e_append (by decide) rfl rfl hE9 (.row (hb7.mono hM8)) (all_one_bv _) (by omega) (by omega) <| fun A10 c10 E10 hE10 => ?_
    rw [← List.map_append, ← List.map_append, List.append_assoc, List.append_assoc, ← pubR, ← hlv, ← catR_succ] at hE10
    refine asS rfl <| tl_nil <| .block_normal <| .then_normal <| x_region <| tl_y rfl (y_addI rfl rfl (by omega)) <| mvI rfl <| .dropTo (E10 ++ ((r0, .deferred (some [])) :: (b1, .cells #[.slice (some ⟨g, o, none⟩) n c6] 114 (0, 0)) :: L)) iI <| tl_nil <| .loop_next (m' := n - (k + 1)) (by omega) (F' := [(2, _), (5, _), (8, _), (36, _), (37, _), (38, _)]) (cs6 rfl rfl rfl rfl rfl rfl) ?_
    exact ⟨k + 1, _, A10, c10, E10, rfl, by omega, hM6.trans (hM7.trans hM8), by omega, hE10, rfl, rfl, rfl⟩
   have hk1 : k + 1 = n := by omega
   have hnx : nextR pl at_ name sec text k = text := by rw [nextR, if_neg (by omega)]
   have hlv : levR pl at_ name sec text k = sgR pl at_ name sec text k := by rw [levR, if_neg (by omega), List.append_nil]
   have hE1 : lsigE (pl.getD k p0) n1 n2 q.toNat tl = 0 := by rw [lsigE, if_neg (fun h => h hy2), if_neg (by omega), if_neg (by omega)]
   refine x_skip <| .then_normal <| zr <| mvS rfl <| tLg rfl rfl <| mvS rfl <| zca rfl (lsign_spec (hg.mono hd6) (pl.getD k p0) hb1 hb2 q (htext.mono hd6) hE1) ?_
   rintro _ M8 _ hM8 ⟨rfl, A8, n8, c8, rfl, hb8⟩
   rw [← hnx, hsg, ← hlv] at hb8
   have hs8 := hb8.size
   rw [hlv] at hs8
   refine .bringE E iI <| tl_e rfl <| e_append (by decide) rfl rfl hE (.row hb8) (all_one_bv _) (by omega) (by omega) <| fun A9 c9 E9 hE9 => ?_
   rw [← List.map_append, List.append_assoc, ← catR_succ] at hE9
   refine asS rfl <| zq <| zr <| mvI rfl <| tl_y rfl (y_addI rfl rfl (by omega)) <| tLd rfl rfl <| tLen rfl <| tl_y rfl (y_lss rfl rfl) <| zq <| x_false rfl (by rw [decide_eq_false_iff_not]; omega) <| x_skip <| .block_normal <| .then_normal <| x_region <| tl_y rfl (y_addI rfl rfl (by omega)) <| mvI rfl <| .dropTo (E9 ++ ((r0, .deferred (some [])) :: (b1, .cells #[.slice (some ⟨g, o, none⟩) n c6] 114 (0, 0)) :: L)) iI <| tl_nil <| .loop_next (m' := n - (k + 1)) (by omega) (F' := [(2, _), (5, _), (8, _), (36, _), (37, _), (38, _)]) (cs6 rfl rfl rfl rfl rfl rfl) ?_
   exact ⟨k + 1, _, A9, c9, E9, rfl, by omega, hM6.trans hM8, by omega, hE9, rfl, rfl, rfl⟩
  obtain rfl : k = n := by omega
  refine x_exit <| .then_exit <| .loop_exit <| .block_exit <| .then_normal <| .s1 8 rfl <| zr <| mvS rfl <| asS rfl <| zq <| x_ret (.pubRow hE fun M9 hM9 hr9 => .retM1 (r := r0) (L1 := L) iI (rv1 rfl (rc_tmp (by rfl))) iI (hd.trans (hM6.trans hM9)) ⟨rfl, _, _, _, rfl, hE0, by rw [hsigB, hln]; exact hr9⟩)
 exact hX.elim
theorem Sign_hspec (hg : LmG M) {A : Option Addr} {n c : Nat} {pl : List PairV} (h : Row M 2 A n c (prow pl)) (hname : Bytes M NA nl nc name) (hsec : Bytes M SA sl_ sc sec) (x : UInt64) (htext : Bytes M TA tl tc text) :
  Con Tryz.prog 15 #[.slice A n c, .agg (List.toArray (seedC NA nl nc SA sl_ sc)), .int .u64 (x.toNat : Int), .slice TA tl tc] G M L (fun v M' L' => L' = L ∧ ∃ A m c, v = .tuple #[.slice A m c, .int .i64 (hsigE pl nl sl_ x.toNat tl)] ∧ Bytes M' A m c (hsigV pl nl sl_ x.toNat tl name sec text)) noPanic := by
 refine zfn Tryz.func15 rfl 14 rfl <| zr <| tl_e rfl <| e_box rfl <| fun b1 => tl_e rfl <| e_box rfl <| fun b2 => tl_e rfl <| e_box rfl <| fun b3 => tl_e rfl <| e_box rfl <| fun b4 => as0 rfl <| as0 rfl <| zq <| .s4 4 5 6 7 rfl rfl rfl rfl <| zr <| tl_y rfl (y_makeFunc rfl rfl) <| zca rfl (caughtHB_spec (K := fun A m c M' => hsigE pl nl sl_ x.toNat tl = 0 ∧ Bytes M' A m c (hsigB pl (atsN (pl.map tv) x.toNat) name sec text)) (Kp := fun e => hsigE pl nl sl_ x.toNat tl ≠ 0 ∧ e = hsigE pl nl sl_ x.toNat tl) (first := []) (cap := [.pointer (some ⟨b1, 0, none⟩), .pointer (some ⟨b2, 0, none⟩), .pointer (some ⟨b4, 0, none⟩), .pointer (some ⟨b3, 0, none⟩)]) (fun p' q' => Sign1_hspec hg h hname hsec x htext)) ?_
 rintro v M1 _ hM1 ⟨rfl, hv⟩
 obtain ⟨A2, m2, c2, rfl, hA⟩ : ∃ A m c, v = .tuple #[.slice A m c, .int .i64 (hsigE pl nl sl_ x.toNat tl)] ∧ Bytes M1 A m c (hsigV pl nl sl_ x.toNat tl name sec text) := by
  rcases hv with ⟨A, m, c, rfl, h0, hb⟩ | ⟨e, rfl, hno, rfl⟩
  ·
   exact ⟨A, m, c, by rw [h0], by rw [hsigV, if_pos h0]; exact hb⟩
  exact ⟨none, 0, 0, rfl, by rw [hsigV, if_neg hno]; exact Row.nil _ _⟩
 refine zx rfl <| zx rfl <| asS rfl <| asI rfl <| zq <| .s2 8 9 rfl rfl <| x_ret (.dropTo L iI (ret2 rfl rfl rfl hM1 ⟨rfl, _, _, _, rfl, hA⟩))
end
section
variable {G : World} {M : Mem} {L R : Own}
abbrev scells (d : Nat) (s : SS) (A : Option Addr) (l c : Nat) : List Value := [.pointer (some ⟨d, 0, none⟩), .int .i64 s.first, .int .i64 s.n, .int .i64 s.at_, .int .u64 (s.num.toNat : Int), .slice A l c]
abbrev sL (p d : Nat) (s : SS) (A : Option Addr) (l c : Nat) : Nat × Obj := (p, .cells (List.toArray (scells d s A l c)) 215 (0, 0))
def wrongv (e : Int) : Value := .iface 259 (.agg #[.int .i64 e])
def wrongs (e : Int) : List PanicEntry := [{ v := wrongv e, recovered := false }]
theorem well_spec (e : Int) :
  Con Tryz.prog 179 #[.int .i64 e] G M L (fun v M' L' => M = M' ∧ L = L' ∧ e = 0) (fun ch M' L' => M = M' ∧ L = L' ∧ ch = wrongs e ∧ e ≠ 0) := by
 refine zfn Tryz.func179 rfl 7 rfl <| zr <| mvI rfl <| tl_y rfl (y_neq rfl rfl) <| zq <| x_cond rfl (fun hc1 => ?_) (fun hc1 => ?_)
 ·
  refine x_region <| mvI rfl <| tl_y rfl (y_build rfl) <| tl_y rfl (y_makeIface rfl (by intro _ h; cases h)) <| tl_e rfl (e_panic rfl (.ret lR ⟨rfl, rfl, rfl, hc1⟩))
 refine x_skip (end0 rfl lR ⟨rfl, rfl, by omega⟩)
theorem caught1_ret {b : Nat} {o : Obj} : ConD Tryz.prog 175 #[.pointer (some ⟨b, 0, none⟩)] .returning G M ((b, o) :: L) (fun u' M' L' => u' = .returning ∧ M' = M ∧ L' = (b, o) :: L) := by
 refine enterRec (args := [_]) (fn := Tryz.f175) ⟨Tryz.func175, rfl, by kernel_rfl, by kernel_rfl⟩ 12 rfl rfl <| x_block <| zr <| tl_y rfl (y_eqNilIface rfl rfl) <| zq <| x_true rfl (rfl) <| x_region <| as0 rfl <| tl_nil (.block_normal (.rec_normal lR ⟨rfl, rfl, rfl⟩))
theorem caught1_wrong {b : Nat} {x e : Int} : ConD Tryz.prog 175 #[.pointer (some ⟨b, 0, none⟩)] (.panicking (wrongs e)) G M ((b, .cells #[.int .i64 x] 25 (0, 0)) :: L)
  (fun u' M' L' => u' = .panicking [{ v := wrongv e, recovered := true }] ∧ M' = M ∧ L' = (b, .cells #[.int .i64 e] 25 (0, 0)) :: L) := by
 refine enterRec (args := [_]) (fn := Tryz.f175) ⟨Tryz.func175, rfl, by kernel_rfl, by kernel_rfl⟩ 12 rfl rfl <| x_block <| zr <| tl_y rfl (y_eqIfaceNil rfl rfl) <| zq <| x_false rfl (rfl) <| zr <| tl_y rfl (y_assertOk rfl (by intro _ h; cases h)) <| zx rfl <| zx rfl <| zq <| x_true rfl (rfl) <| zr <| tl_e rfl <| e_alloc <| fun b1 => tl_e rfl <| e_sT rfl rfl <| zq <| .s2 0 2 rfl rfl <| x_region <| tFa rfl <| tLd rfl rfl <| tl_e rfl <| e_sT rfl rfl <| tl_nil (.block_normal (.dropTo ((b, .cells #[.int .i64 e] 25 (0, 0)) :: L) iI (.rec_normal lR ⟨rfl, rfl, rfl⟩)))
theorem caught_spec {wf : FuncId} {first cap : List Value} {K : Mem → Own → Prop} {Kc : Int → Mem → Own → Prop}
  (hw : ∀ b o, Con Tryz.prog wf (first ++ [] ++ cap).toArray G M ((b, o) :: L) (fun v M' L' => ∃ L1, L' = (b, o) :: L1 ∧ K M' L1) (fun ch M' L' => ∃ e L1, ch = wrongs e ∧ L' = (b, o) :: L1 ∧ Kc e M' L1)) :
  Con Tryz.prog 131 #[.func (.func wf) first.toArray cap.toArray] G M L (fun v M' L' => (v = .int .i64 0 ∧ K M' L') ∨ (∃ e, v = .int .i64 e ∧ Kc e M' L')) noPanic := by
 refine enterD (args := [_]) (fn := Tryz.f131) ⟨Tryz.func131, rfl, by kernel_rfl, by kernel_rfl⟩ 6 rfl <| zr <| tl_e rfl <| e_alloc <| fun b1 => zq <| zr <| tl_y rfl (y_makeFunc rfl rfl) <| tl_e rfl <| e_defer rfl rfl rfl <| zq <| zr <| mvF rfl <| tl_e rfl (e_callv rfl rfl (hw b1 _) (by
  rintro _ M1 _ hM1 ⟨e, L1, rfl, rfl, hk⟩
  refine .retD (cap := [_]) (args := []) caught1_wrong ?_
  rintro _ M2 _ hM2 ⟨rfl, rfl, rfl⟩
  exact .inl ⟨rfl, _, L1, rv1 rfl (rc_cell (by rfl) rfl (.own iI iI)), iI, hM1, .inr ⟨e, rfl, hk⟩⟩) ?_)
 rintro _ M1 _ hM1 ⟨L1, rfl, hk⟩
 refine zq <| .s1 2 rfl <| zr <| tl_e rfl <| e_sT rfl rfl <| zq <| x_ret <| .retD (cap := [_]) (args := []) caught1_ret ?_
 rintro _ M2 _ hM2 ⟨rfl, rfl, rfl⟩
 exact .inl ⟨rfl, _, L1, rv1 rfl (rc_cell (by rfl) rfl (.own iI iI)), iI, hM1, .inl ⟨rfl, hk⟩⟩
theorem Room_spec (n : Int) :
  Con Tryz.prog 180 #[.int .i64 n] G M L (fun v M' L' => M = M' ∧ L = L' ∧ v = .int .i64 (if n < 1 ∨ 8 < n then 0 else 64 * n - 28)) noPanic := by
 refine zfn Tryz.func180 rfl 14 rfl <| zr <| as0 rfl <| zq <| zr2 <| mvI rfl <| tl_y rfl (y_lss rfl rfl) <| mvB rfl <| tl_cases (s := 5) rfl (fun hk1 => ?_) (fun hk1 => ?_)
 ·
  refine sk2 rfl rfl <| tPt rfl rfl <| zq <| .s2 0 8 rfl rfl <| x_true rfl rfl <| zr <| as0 rfl <| zq <| x_ret (.then_ret (ret1 rfl rfl lR ⟨rfl, rfl, by rw [if_pos (by omega)]⟩))
 refine mvI rfl <| tl_y rfl (y_gtr rfl rfl) <| tPf rfl rfl <| zq <| .s2 0 8 rfl rfl <| x_cond rfl (fun hc1 => ?_) (fun hc1 => ?_)
 ·
  refine zr <| as0 rfl <| zq <| x_ret (.then_ret (ret1 rfl rfl lR ⟨rfl, rfl, by rw [if_pos (by omega)]⟩))
 refine x_skip <| .then_normal <| zr <| mvI rfl <| tl_y rfl (y_mulI rfl rfl (by omega)) <| tl_y rfl (y_subI rfl rfl (by omega)) <| tl_y rfl (y_subI rfl rfl (by omega)) <| tl_y rfl (y_subI rfl rfl (by omega)) <| asI rfl <| zq <| .s1 2 rfl <| x_ret (ret1 rfl rfl lR ⟨rfl, rfl, by rw [if_neg (by omega)]; congr 1; omega⟩)
theorem bytesOf_spec (hg : ShaG M) {p d : Nat} {s : SS} {A0 : Option Addr} {l0 c0 : Nat} (hn : 1 ≤ s.n ∧ s.n ≤ 8) {num : UInt64} {A : Option Addr} {n c : Nat} {b : List UInt8} (h : Bytes M A n c b) (hb : b.length + 28 ≤ 64 * s.n) :
  Con Tryz.prog 182 #[.pointer (some ⟨p, 0, none⟩), .agg #[.int .u64 (num.toNat : Int), .slice A n c]] G M (sL p d s A0 l0 c0 :: R) (fun v M' L' => L' = sL p d s A0 l0 c0 :: R ∧ ∃ A' c', v = .slice A' (64 * s.n) c' ∧ Bytes M' A' (64 * s.n) c' (recB s.n num b)) noPanic := by
 have hbl := h.size
 have hx : (UInt64.ofInt (n : Int)).toNat = b.length := by rw [ofInt64, UInt64.toNat_ofNat']; omega
 refine zfn Tryz.func182 rfl 36 rfl <| zr <| tl_e rfl <| e_box rfl <| fun b1 => as0 rfl <| zq <| x_seq <| x_draw 13 hmix rfl <| pFa 0 rfl rfl <| pLd 1 rfl rfl rfl <| pFa 3 rfl rfl ?_
 refine pLd 4 rfl rfl rfl <| zp 5 rfl rfl (y_len rfl) <| zp 6 rfl rfl (y_of64 rfl) <| pFa 8 rfl rfl <| pLd 9 rfl rfl rfl <| ze 2 rfl rfl <| e_call' rfl (PutN_spec num 8 (by omega)) ?_
 rintro _ M1 _ hM1 ⟨rfl, A1, c1, rfl, hA1⟩
 refine kp ?_
 refine ze 7 rfl rfl <| e_call' rfl (PutN_spec (UInt64.ofInt (n : Int)) 4 (by omega)) ?_
 rintro _ M2 _ hM2 ⟨rfl, A2, c2, rfl, hA2⟩
 rw [hx] at hA2
 have hm := hM1.trans hM2
 refine ⟨⟨hm, Keeps.mem⟩, ?_⟩
 refine ze 10 rfl rfl <| e_buildSlice rfl (by decide) <| fun b2 => kp ?_
 refine .pub b2 iI <| fun M3 hM3 hb2 => ?_
 replace hm := hm.trans hM3
 have hfl : [putB num.toNat 8, putB b.length 4, b].flatten = recH num b := by simp [recH]
 have hH := recH_length num b
 refine ze 11 rfl rfl <| e_call' rfl (Cat_spec (Row.whole hb2 rfl (by omega)) (.cons (hA1.mono (hM2.trans hM3)) (.cons (hA2.mono hM3) (.cons (h.mono hm) .nil))) (by rw [hfl, hH]; omega)) ?_
 rintro _ M4 _ hM4 ⟨rfl, A4, c4, rfl, hA4⟩
 rw [hfl, hH] at hA4
 rw [hfl, hH]
 replace hm := hm.trans hM4
 refine ⟨⟨hm, Keeps.mem⟩, ?_⟩
 refine paS 12 rfl rfl <| zz <| .then_normal <| .s2 0 5 rfl rfl <| zr <| mvS rfl <| mvS rfl <| zca rfl (One_spec (hg.mono hm) hA4 (by omega)) ?_
 rintro _ M5 _ hM5 ⟨rfl, A5, c5, rfl, hA5⟩
 replace hm := hm.trans hM5
 have hc5 := hA5.le
 have hT := hA5.take 16 (by omega)
 refine tl_y rfl (y_sliceH rfl rfl (by omega) (by omega)) <| tl_e rfl <| e_buildSlice rfl (by decide) <| fun b3 => .pub b3 iI <| fun M6 hM6 hb3 => ?_
 replace hm := hm.trans hM6
 have hfl2 : [recH num b, (sha (recH num b)).take 16].flatten = recH num b ++ (sha (recH num b)).take 16 := by simp
 have hH2 : (recH num b ++ (sha (recH num b)).take 16).length = 28 + b.length := by rw [List.length_append, hH, List.length_take, sha_length]; omega
 refine zca rfl (Cat_spec (Row.whole hb3 rfl (by omega)) (.cons (hA4.mono (hM5.trans hM6)) (.cons (hT.mono hM6) .nil)) (by rw [hfl2, hH2]; omega)) ?_
 rintro _ M7 _ hM7 ⟨rfl, A7, c7, rfl, hA7⟩
 rw [hfl2, hH2] at hA7
 rw [hfl2, hH2]
 replace hm := hm.trans hM7
 refine asS rfl <| zq <| .s2 0 5 rfl rfl <| zr <| mvS rfl <| mvP rfl <| zc rfl <| tFa rfl <| tLd rfl rfl <| tl_y rfl (y_mulI rfl rfl (by omega)) <| mvS rfl <| tLen rfl <| tl_y rfl (y_subI rfl rfl (by omega)) <| tl_e rfl <| e_make1 rfl rfl (by omega) (by omega) (by omega) (by omega) <| fun b4 => tl_e rfl <| e_buildSlice rfl (by decide) <| fun b5 => .pub b4 iI <| fun M8 hM8 hb4 => .pub b5 iI <| fun M9 hM9 hb5 => ?_
 replace hm := hm.trans (hM8.trans hM9)
 have hZ := (Bytes.zeros hb4 (by omega)).mono hM9
 have hzn : ((s.n : Int) * 64 - ((28 + b.length : Nat) : Int)).toNat = 64 * s.n - 28 - b.length := by omega
 have hfl3 : [recH num b ++ (sha (recH num b)).take 16, List.replicate ((s.n : Int) * 64 - ((28 + b.length : Nat) : Int)).toNat 0].flatten = recB s.n num b := by rw [hzn]; simp [recB]
 have hH3 := recB_length (num := num) hb
 refine zca rfl (Cat_spec (Row.whole hb5 (by rfl) (by omega)) (.cons (hA7.mono (hM8.trans hM9)) (.cons hZ .nil)) (by rw [hfl3, hH3]; omega)) ?_
 rintro _ M10 _ hM10 ⟨rfl, A10, c10, rfl, hA10⟩
 rw [hfl3, hH3] at hA10
 rw [hfl3, hH3]
 replace hm := hm.trans hM10
 refine asS rfl <| zq <| .s1 4 rfl <| x_ret (.dropTo (sL p d s A0 l0 c0 :: R) iI (ret1 rfl rfl hm ⟨rfl, _, _, rfl, hA10⟩))
end
section
variable {G : World} {M : Mem} {L R : Own}
theorem blank1_spec (c : UInt8) :
  Con Tryz.prog 231 #[.int .u8 (c.toNat : Int)] G M L (fun v M' L' => M = M' ∧ L = L' ∧ v = .bool (decide (c ≠ 0))) noPanic := by
 refine zfn Tryz.func231 rfl 5 rfl <| zr <| as0 rfl <| zq <| zr <| mvI rfl <| tl_y rfl (y_neq rfl rfl) <| asB rfl <| zq <| x_ret (ret1 rfl rfl lR ⟨rfl, rfl, by
  congr 1
  rw [decide_eq_decide]
  constructor
  ·
   rintro h rfl; exact h rfl
  intro h e; exact h (UInt8.toNat_inj.1 (by simpa using e))⟩)
theorem indexFunc_spec {A : Option Addr} {n c : Nat} {bs : List UInt8} (h : Bytes M A n c bs) :
  Con Tryz.prog 261 #[.slice A n c, .func (.func 231) #[] #[]] G M L (fun v M' L' => M = M' ∧ L = L' ∧ ∃ r : Int, v = .int .i64 r ∧ (0 ≤ r ↔ isBlank bs = false)) noPanic := by
 have hs := h.size
 have hmx := h.max
 have hle := h.le
 refine zfn Tryz.func261 rfl 19 rfl <| zr <| as0 rfl <| zq <| zr2 <| mvS rfl <| tLen rfl <| mv0 rfl <| zq <| x_block ?_
 refine x_loop (I := fun m' F D M1 L1 => ∃ k : Nat, m' = n - k ∧ k ≤ n ∧ isBlank (bs.take k) = true ∧ D = [] ∧ M = M1 ∧ L = L1 ∧ F = [(0, .slice A n c), (1, .func (.func 231) #[] #[]), (4, .int .i64 0), (7, .int .i64 n), (8, .int .i64 k)]) (n) (F0 := [(0, _), (1, _), (4, _), (7, _), (8, _)]) ?_ (cs5 rfl rfl rfl rfl rfl) ?_
 ·
  exact ⟨0, rfl, by omega, rfl, rfl, rfl, rfl, rfl⟩
 rintro m _ _ M1 L1 ⟨k, rfl, hk, hb, rfl, rfl, rfl, rfl⟩
 refine zr <| tl_y rfl (y_lss rfl rfl) <| zq <| x_seq <| x_cond rfl (fun hc1 => ?_) (fun hc1 => ?_)
 ·
  have hkn : k < n := by omega
  obtain ⟨g, o, rfl, hca⟩ := h.byte (by omega)
  refine x_skip <| .then_normal <| x_seq <| x_block <| zr <| mvI rfl <| asI rfl <| zq <| zr <| mvF rfl <| mvS rfl <| mvI rfl <| tl_y rfl (y_indexAddr rfl rfl (by omega)) <| tl_y rfl (y_load rfl rfl (.at_ (hca _ k hkn) (by omega))) ?_
  refine tl_e rfl <| e_callv rfl rfl (blank1_spec (bs.getD k 0)) (fun _ _ _ _ h => h.elim) ?_
  rintro _ _ _ _ ⟨rfl, rfl, rfl⟩
  refine zq <| .s7 0 1 4 5 7 8 16 rfl rfl rfl rfl rfl rfl rfl <| x_cond rfl (fun hc2 => ?_) (fun hc2 => ?_)
  ·
   refine zr <| mvI rfl <| asI rfl <| zq <| x_ret (.block_ret (.then_ret (.loop_ret (.block_ret (.then_ret (ret1 rfl rfl lR ⟨rfl, rfl, _, rfl, iff_of_true (by omega) (by
    rw [Bool.eq_false_iff]
    intro hall
    have := List.all_eq_true.1 hall _ (getD_mem bs k 0 (by omega))
    exact hc2 (by simpa using this))⟩))))))
  refine x_skip <| .block_normal <| .then_normal <| x_region <| tl_y rfl (y_addI rfl rfl (by omega)) <| mvI rfl <| tl_nil <| .loop_next (m' := n - (k + 1)) (by omega) (F' := [(0, _), (1, _), (4, _), (7, _), (8, _)]) (cs5 rfl rfl rfl rfl rfl) ?_
  exact ⟨k + 1, rfl, by omega, by
   have h1 : bs.getD k 0 = 0 := Classical.not_not.1 hc2
   rw [take_snoc bs k 0 (by omega), h1]
   unfold isBlank at hb ⊢
   rw [List.all_append, hb]
   rfl, rfl, rfl, rfl, rfl⟩
 refine x_exit <| .then_exit <| .loop_exit <| .block_exit <| .then_normal <| .s0 <| zr <| as0 rfl <| zq <| x_ret (ret1 rfl rfl lR ⟨rfl, rfl, _, rfl, iff_of_false (by omega) (by
  rw [List.take_of_length_le (by omega)] at hb
  rw [hb]; simp)⟩)
theorem blank_spec {A : Option Addr} {n c : Nat} {bs : List UInt8} (h : Bytes M A n c bs) :
  Con Tryz.prog 178 #[.slice A n c] G M L (fun v M' L' => M = M' ∧ L = L' ∧ v = .bool (isBlank bs)) noPanic := by
 have hcf : Con Tryz.prog 230 #[.slice A n c, .func (.func 231) #[] #[]] G M L (fun v M' L' => M = M' ∧ L = L' ∧ v = .bool (!isBlank bs)) noPanic := by
  refine zfn Tryz.func230 rfl 9 rfl <| zr <| as0 rfl <| zq <| zr <| mvS rfl <| mvF rfl <| zca rfl (indexFunc_spec h) ?_
  rintro _ _ _ _ ⟨rfl, rfl, r, rfl, hr⟩
  refine tl_y rfl (y_geq rfl rfl) <| asB rfl <| zq <| .s1 4 rfl <| x_ret (ret1 rfl rfl lR ⟨rfl, rfl, by
   congr 1
   cases hb : isBlank bs with
   | true => rw [hb] at hr; simp at hr; simp; omega
   | false => rw [hb] at hr; simp at hr; simp; omega⟩)
 refine zfn Tryz.func178 rfl 6 rfl <| zr <| as0 rfl <| zq <| zr <| mvS rfl <| zca rfl hcf ?_
 rintro _ _ _ _ ⟨rfl, rfl, rfl⟩
 refine tl_y rfl (y_not rfl) <| asB rfl <| zq <| .s1 2 rfl <| x_ret (ret1 rfl rfl lR ⟨rfl, rfl, by simp⟩)
theorem area_spec {p d : Nat} {r : DRep} {S : DS} {s : SS} {A0 : Option Addr} {l0 c0 : Nat} (h : IsDisk M r S) (ok : OkS S s) (i : Nat) (hi : i ≤ 1) :
  Con Tryz.prog 176 #[.pointer (some ⟨p, 0, none⟩), .int .i64 (i : Int)] G M (dL d r S (sL p d s A0 l0 c0 :: R))
   (fun v M' L' => S.down = false ∧ L' = dL d r S (sL p d s A0 l0 c0 :: R) ∧ ∃ A c, v = .slice A (64 * s.n) c ∧ Bytes M' A (64 * s.n) c (areaB S (s.first + i * s.n) s.n))
   (fun ch M' L' => S.down = true ∧ L' = dL d r S (sL p d s A0 l0 c0 :: R) ∧ ch = wrongs 6) := by
 have hn := ok.n
 have hin := ok.in_
 have hsz := h.sz
 have hmul : (i : Int) * (s.n : Int) = ((i * s.n : Nat) : Int) := by simp
 have hq := Nat.mul_le_mul_right s.n hi
 generalize i * s.n = q at hmul hq
 refine zfn Tryz.func176 rfl 44 rfl <| zr <| as0 rfl <| zq <| zr <| as0 rfl <| zq <| zr2 <| mvP rfl <| zc rfl <| tFa rfl <| tLd rfl rfl <| mv0 rfl <| zq <| .s5 0 1 5 12 13 rfl rfl rfl rfl rfl <| x_block ?_
 refine x_loop (I := fun m' F D M1 L1 => ∃ (k : Nat) (A : Option Addr) (c : Nat) (E : Own), m' = s.n - k ∧ k ≤ s.n ∧ (0 < k → S.down = false) ∧ OwnRow 5 1 A (64 * k) c ((areaB S (s.first + q) k).map bv) E ∧ Le M M1 ∧ D = [] ∧ L1 = E ++ dL d r S (sL p d s A0 l0 c0 :: R) ∧ F = [(0, .pointer (some ⟨p, 0, none⟩)), (1, .int .i64 (i : Int)), (5, .slice A (64 * k) c), (12, .int .i64 s.n), (13, .int .i64 k)]) (s.n) (F0 := [(0, _), (1, _), (5, _), (12, _), (13, _)]) ?_ (cs5 rfl rfl rfl rfl rfl) ?_
 ·
  exact ⟨0, none, 0, [], rfl, by omega, (fun h => by omega), .nil, Le.refl _, rfl, rfl, rfl⟩
 rintro m _ _ M1 L1 ⟨k, A, c, E, rfl, hk, hdn, hE, hM1, rfl, rfl, rfl⟩
 refine zr <| tl_y rfl (y_lss rfl rfl) <| zq <| x_seq <| x_cond rfl (fun hc1 => ?_) (fun hc1 => ?_)
 ·
  refine x_skip <| .then_normal <| x_seq <| x_block <| zr <| mvI rfl <| asI rfl <| zq <| x_seq <| x_draw 23 hmix rfl <| pmP 0 rfl rfl ?_
  refine zp 1 rfl rfl (y_nilCheck rfl) <| pFa 2 rfl rfl <| pLd 3 rfl rfl rfl <| pmP 4 rfl rfl <| zp 5 rfl rfl (y_nilCheck rfl) <| pFa 6 rfl rfl <| pLd 7 rfl rfl rfl <| pmI 8 rfl rfl <| pmP 9 rfl rfl <| zp 10 rfl rfl (y_nilCheck rfl) ?_
  refine pFa 11 rfl rfl <| pLd 12 rfl rfl rfl <| zp 13 rfl rfl (y_mulI rfl rfl (by rw [hmul]; omega)) ?_
  rw [hmul]
  refine zp 14 rfl rfl (y_addI rfl rfl (by omega)) <| pmI 15 rfl rfl <| zp 16 rfl rfl (y_addI rfl rfl (by omega)) ?_
  rw [show ((s.first : Int) + (q : Int)) + (k : Int) = ((s.first + q + k : Nat) : Int) by omega]
  refine ze 17 rfl rfl <| e_call' rfl (Con.to (dL d r S (E ++ sL p d s A0 l0 c0 :: R)) iI (Read_spec (h.mono hM1) _)) ?_
  rintro _ M2 _ hM2 ⟨rfl, A2, n2, c2, rfl, hA2⟩
  refine ⟨⟨hM2, Keeps.mem⟩, ?_⟩
  refine pmU 18 rfl rfl <| zp 19 rfl rfl (y_extract rfl) <| zp 20 rfl rfl (y_extract rfl) <| paS 21 rfl rfl <| paI 22 rfl rfl <| zz <| .then_normal <| .s7 0 1 5 7 8 12 13 rfl rfl rfl rfl rfl rfl rfl <| zr <| mvI rfl <| tl_e rfl (e_call rfl (well_spec _) (by
   rintro _ _ _ _ ⟨rfl, rfl, rfl, hne⟩
   refine .dropTo (dL d r S (sL p d s A0 l0 c0 :: R)) iI <| .retA rfl (hM1.trans hM2) ?_
   cases hd : S.down with
   | false => exact absurd (readRes_len hd h.sl h.pl (by omega)).1 hne
   | true => exact ⟨rfl, rfl, by rw [show readRes S ((s.first + q + k : Nat) : Int) = ([], 6) by simp [readRes, hd]]⟩) ?_)
  rintro _ _ _ _ ⟨rfl, rfl, hz⟩
  have hd : S.down = false := by
   cases hd : S.down with
   | false => rfl
   | true => rw [show readRes S ((s.first + q + k : Nat) : Int) = ([], 6) by simp [readRes, hd]] at hz; simp at hz
  have hrl := readRes_len hd h.sl h.pl (i := s.first + q + k) (by omega)
  obtain rfl : n2 = 64 := by have := hA2.size; omega
  refine zq <| x_region <| mvS rfl <| mvS rfl <| .bringE E iI <| tl_e rfl <| e_append (E := E) (by decide) rfl rfl hE (.row hA2) (all_one_bv _) (by omega) (by omega) <| fun A3 cap3 E3 hE3 => ?_
  rw [← List.map_append] at hE3
  refine asS rfl <| tl_nil <| .block_normal <| .then_normal <| .s5 0 1 5 12 13 rfl rfl rfl rfl rfl <| x_region <| tl_y rfl (y_addI rfl rfl (by omega)) <| mvI rfl <| .dropTo (E3 ++ dL d r S (sL p d s A0 l0 c0 :: R)) iI <| tl_nil <| .loop_next (m' := s.n - (k + 1)) (by omega) (F' := [(0, _), (1, _), (5, _), (12, _), (13, _)]) (cs5 rfl rfl rfl rfl rfl) ?_
  exact ⟨k + 1, A3, cap3, E3, rfl, by omega, (fun _ => hd), hE3, hM1.trans hM2, rfl, rfl, rfl⟩
 refine x_exit <| .then_exit <| .loop_exit <| .block_exit <| .then_normal <| .s1 5 rfl <| zr <| mvS rfl <| asS rfl <| zq ?_
 obtain rfl : k = s.n := by omega
 refine x_ret (.pubRow hE fun M' hle hr => ret1 rfl rfl (hM1.trans hle) ⟨hdn (by omega), rfl, _, _, rfl, hr⟩)
theorem read_spec (hg : ShaG M) {p d : Nat} {s : SS} {A0 : Option Addr} {l0 c0 : Nat} (hn : 1 ≤ s.n ∧ s.n ≤ 8) {A : Option Addr} {n c : Nat} {a : List UInt8} (h : Bytes M A n c a) (hl : n = 64 * s.n) :
  Con Tryz.prog 177 #[.pointer (some ⟨p, 0, none⟩), .slice A n c] G M (sL p d s A0 l0 c0 :: R) (fun v M' L' => L' = sL p d s A0 l0 c0 :: R ∧ ∃ A' n' c', v = .agg #[.int .u64 ((readRec s.n a).1.toNat : Int), .slice A' n' c'] ∧ Bytes M' A' n' c' (readRec s.n a).2) noPanic := by
 have hs := h.size
 have hc := h.le
 have hroom : (if (s.n : Int) < 1 ∨ 8 < (s.n : Int) then 0 else 64 * (s.n : Int) - 28) = 64 * (s.n : Int) - 28 := by rw [if_neg (by omega)]
 refine zfn Tryz.func177 rfl 51 rfl <| zr <| tl_e rfl <| e_alloc <| fun b1 => zq <| zr <| mvS rfl <| tl_y rfl (y_sliceH rfl rfl (by omega) (by omega)) ?_
 refine zca rfl (Get8_spec (n := 8) (bs := a.take 8) (Bytes.take h 8 (by omega)) (by omega)) ?_
 rintro _ _ _ _ ⟨rfl, rfl, x, hx, rfl⟩
 refine mvU rfl <| zx rfl <| zx rfl <| asI rfl <| asB rfl <| zq <| .s4 0 1 4 5 rfl rfl rfl rfl <| zr <| mvS rfl <| tl_y rfl (y_sliceLH rfl rfl rfl (by omega) (by omega)) ?_
 refine zca rfl (Get8_spec (n := 4) (bs := (a.drop 8).take 4) (Bytes.sub h 8 12 (by omega) (by omega)) (by omega)) ?_
 rintro _ _ _ _ ⟨rfl, rfl, y, hy, rfl⟩
 have hxn : numOf a = x.toNat := hx.symm
 have hyn : cntOf a = y.toNat := hy.symm
 have hofx : UInt64.ofNat (numOf a) = x := by rw [hxn]; simp
 refine mvU rfl <| zx rfl <| zx rfl <| asI rfl <| asB rfl <| zq <| .s5 0 1 4 5 7 rfl rfl rfl rfl rfl <| zr2 <| mvI rfl <| tl_y rfl (y_eql rfl rfl) <| mvB rfl <| tl_cases (s := 24) rfl (fun hk1 => ?_) (fun hk1 => ?_)
 ·
  refine sk8 rfl rfl rfl rfl rfl rfl rfl rfl <| tPt rfl rfl <| zq <| .s6 0 1 4 5 7 33 rfl rfl rfl rfl rfl rfl <| x_true rfl rfl <| zr <| tl_y rfl (y_build rfl) <| tl_e rfl <| e_sT rfl rfl <| zq <| .s1 4 rfl <| x_ret (.then_ret (retRV (L' := sL p d s A0 l0 c0 :: R) (rv1 rfl (rc_cellAgg (by rfl) rfl (.own iI iI))) iI lR (by
   rw [show readRec s.n a = (0, []) by rw [readRec, if_pos (.inl (by omega))]]
   exact ⟨rfl, _, _, _, rfl, Row.nil _ _⟩)))
 refine mvI rfl <| mvP rfl <| zc rfl <| tFa rfl <| tLd rfl rfl <| zca rfl (Room_spec (s.n : Int)) ?_
 rintro _ _ _ _ ⟨rfl, rfl, rfl⟩
 rw [hroom]
 refine tl_y rfl (y_convN64 rfl (by omega)) <| tl_y rfl (y_gtr rfl rfl) <| tPf rfl rfl <| zq <| .s6 0 1 4 5 7 33 rfl rfl rfl rfl rfl rfl <| x_cond rfl (fun hc1 => ?_) (fun hc1 => ?_)
 ·
  refine zr <| tl_y rfl (y_build rfl) <| tl_e rfl <| e_sT rfl rfl <| zq <| .s1 4 rfl <| x_ret (.then_ret (retRV (L' := sL p d s A0 l0 c0 :: R) (rv1 rfl (rc_cellAgg (by rfl) rfl (.own iI iI))) iI lR (by
   rw [show readRec s.n a = (0, []) by rw [readRec, if_pos (.inr (by omega))]]
   exact ⟨rfl, _, _, _, rfl, Row.nil _ _⟩)))
 refine x_skip <| .then_normal <| zr <| mvI rfl <| mvS rfl <| mvI rfl <| tl_y rfl (y_convI rfl (by omega)) <| tl_y rfl (y_addI rfl rfl (by omega)) <| tl_y rfl (y_sliceLH rfl rfl rfl (by omega) (by omega)) ?_
 rw [show (12 + ((y.toNat : Nat) : Int)).toNat - Int.toNat 12 = cntOf a by omega]
 have hD : Bytes M (sl A (Int.toNat 12) c 1) (cntOf a) (c - Int.toNat 12) (datOf a) := by
  have h1 := Bytes.sub h 12 (12 + cntOf a) (by omega) (by omega)
  rw [Nat.add_sub_cancel_left] at h1
  exact h1
 refine zca rfl (bytesClone_spec hD (by omega)) ?_
 rintro _ M1 _ hM1 ⟨rfl, A1, c1, rfl, hA1⟩
 have hdl := hA1.size
 refine tl_y rfl (y_build rfl) <| tl_e rfl <| e_alloc <| fun b2 => tl_e rfl <| e_sT rfl rfl <| zq <| .s4 0 1 4 9 rfl rfl rfl rfl <| zr2 <| mvP rfl <| tLg rfl rfl <| zca rfl (Con.to (sL p d s A0 l0 c0 :: (b2, .cells #[.int .u64 (x.toNat : Int), .slice A1 (cntOf a) c1] 213 (0, 0)) :: (b1, .cells #[.int .u64 0, .slice none 0 0] 213 (0, 0)) :: R) iI (bytesOf_spec (hg.mono hM1) hn hA1 (by omega))) ?_
 rintro _ M2 _ hM2 ⟨rfl, A2, c2, rfl, hA2⟩
 refine mvS rfl <| zca rfl (Same_spec hA2 (h.mono (hM1.trans hM2))) ?_
 rintro _ _ _ _ ⟨rfl, rfl, rfl⟩
 refine tl_y rfl (y_notd rfl) <| zq <| .s3 4 9 48 rfl rfl rfl <| x_cond rfl (fun hc2 => ?_) (fun hc2 => ?_)
 ·
  refine zr <| tl_y rfl (y_build rfl) <| tl_e rfl <| e_sT rfl rfl <| zq <| x_ret (.then_ret (retRV (L' := sL p d s A0 l0 c0 :: R) (rv1 rfl (rc_cellAgg (by rfl) rfl (.own iI iI))) iI (hM1.trans hM2) (by
   rw [show readRec s.n a = (0, []) by rw [readRec, if_neg (by omega), hofx, if_neg hc2]]
   exact ⟨rfl, _, _, _, rfl, Row.nil _ _⟩)))
 refine x_skip <| .then_normal <| zr <| tLg rfl rfl <| tl_e rfl <| e_sT rfl rfl <| zq <| x_ret (retRV (L' := sL p d s A0 l0 c0 :: R) (rv1 rfl (rc_cellAgg (by rfl) rfl (.own iI iI))) iI (hM1.trans hM2) (by
  rw [show readRec s.n a = (x, datOf a) by rw [readRec, if_neg (by omega), hofx, if_pos (Classical.not_not.1 hc2)]]
  exact ⟨rfl, _, _, _, rfl, hA1.mono hM2⟩))
end
section
variable {G : World} {M : Mem} {L R : Own} {p d : Nat} {r : DRep} {S : DS} {s : SS} {A0 : Option Addr} {l0 c0 : Nat}
def SK (p d : Nat) (S : DS) (s : SS) (R : Own) (M' : Mem) (L' : Own) : Prop := ∃ r' A l c, IsDisk M' r' S ∧ Bytes M' A l c s.b ∧ L' = dL d r' S (sL p d s A l c :: R)
theorem areaLen (h : IsDisk M r S) (ok : OkS S s) (hd : S.down = false) (i : Nat) (hi : i ≤ 1) : (areaB S (s.first + i * s.n) s.n).length = 64 * s.n :=
 areaB_length hd h.sl h.pl s.n (by have := ok.in_; have := Nat.mul_le_mul_right s.n hi; omega)
theorem load_spec (hg : ShaG M) (h : IsDisk M r S) (ok : OkS S s) (hb : Bytes M A0 l0 c0 s.b) :
  Con Tryz.prog 132 #[.pointer (some ⟨p, 0, none⟩)] G M (dL d r S (sL p d s A0 l0 c0 :: R))
   (fun v M' L' => (loadRes S s).2 = 0 ∧ SK p d S (loadRes S s).1 R M' L') (fun ch M' L' => ch = wrongs (loadRes S s).2 ∧ SK p d S (loadRes S s).1 R M' L') := by
 have hn := ok.n
 refine zfn Tryz.func132 rfl 49 rfl <| zr <| mvP rfl <| tl_e rfl (e_call rfl (area_spec h ok 0 (by omega)) (by
  rintro _ M1 _ hM1 ⟨hd, rfl, rfl⟩
  refine .retA rfl hM1 ?_
  rw [show loadRes S s = (s, 6) by rw [loadRes, if_pos hd]]
  exact ⟨rfl, r, A0, l0, c0, h.mono hM1, hb.mono hM1, rfl⟩) ?_)
 rintro _ M1 _ hM1 ⟨hd, rfl, A1, c1, rfl, hA1⟩
 refine mvP rfl <| tl_e rfl (e_call rfl (area_spec (h.mono hM1) ok 1 (by omega)) (by
  rintro _ M2 _ hM2 ⟨hd', rfl, rfl⟩
  rw [hd] at hd'; cases hd') ?_)
 rintro _ M2 _ hM2 ⟨_, rfl, A2, c2, rfl, hA2⟩
 replace hA1 := hA1.mono hM2
 have hl1 : (areaB S s.first s.n).length = 64 * s.n := by simpa using areaLen h ok hd 0 (by omega)
 have hl2 : (areaB S (s.first + s.n) s.n).length = 64 * s.n := by simpa using areaLen h ok hd 1 (by omega)
 rw [show s.first + 0 * s.n = s.first by omega] at hA1
 rw [show s.first + 1 * s.n = s.first + s.n by omega] at hA2
 have hres : loadRes S s = loaded s (areaB S s.first s.n) (areaB S (s.first + s.n) s.n) := by rw [loadRes, if_neg (by simp [hd])]
 generalize areaB S s.first s.n = one at *
 generalize areaB S (s.first + s.n) s.n = two at *
 have hm := hM1.trans hM2
 refine asS rfl <| asS rfl <| zq <| .s3 0 2 3 rfl rfl rfl <| zr <| mvP rfl <| mvS rfl <| zca rfl (Con.to (sL p d s A0 l0 c0 :: (d, .cells (List.toArray (dcells r S)) 75 (0, 0)) :: (r.E1 ++ (r.E2 ++ R))) iI (read_spec (hg.mono hm) hn hA1 rfl)) ?_
 rintro _ M3 _ hM3 ⟨rfl, A3, n3, c3, rfl, hA3⟩
 refine mvP rfl <| mvS rfl <| zca rfl (read_spec (hg.mono (hm.trans hM3)) hn (hA2.mono hM3) rfl) ?_
 rintro _ M4 _ hM4 ⟨rfl, A4, n4, c4, rfl, hA4⟩
 replace hA3 := hA3.mono hM4
 replace hm := hm.trans (hM3.trans hM4)
 replace hA1 := hA1.mono (hM3.trans hM4)
 replace hA2 := hA2.mono (hM3.trans hM4)
 refine tl_e rfl <| e_alloc <| fun b1 => tl_e rfl <| e_alloc <| fun b2 => tl_e rfl <| e_sT rfl rfl <| tl_e rfl <| e_sT rfl rfl <| zq <| .s5 0 2 3 4 5 rfl rfl rfl rfl rfl <| x_seq <| x_draw0 9 ([(b1, .cells #[.int .u64 ((readRec s.n one).1.toNat : Int), .slice A3 n3 c3] 213 (0, 0))]) Keeps.mem hmix rfl <| pmP 0 rfl rfl <| pmP 1 rfl rfl ?_
 refine zy 2 rfl rfl (y_lg rfl rfl) <| zp 3 rfl rfl (y_nilCheck rfl) <| pFa 4 rfl rfl <| ze 5 rfl rfl <| e_sT rfl rfl <| kp ?_
 refine zp 6 rfl rfl (y_nilCheck rfl) <| pFa 7 rfl rfl <| ze 8 rfl rfl <| e_sT rfl rfl <| kp ?_
 refine zz <| .then_normal <| .s5 0 2 3 4 5 rfl rfl rfl rfl rfl <| x_block <| zr <| tFa rfl <| tLd rfl rfl <| tFa rfl <| tLd rfl rfl <| tl_y rfl (y_gtr rfl rfl) <| asB rfl <| zq <| .s6 0 2 3 4 5 24 rfl rfl rfl rfl rfl rfl <| x_cond rfl (fun hc1 => ?_) (fun hc1 => ?_)
 ·
  refine x_draw0 9 ([(b2, .cells #[.int .u64 ((readRec s.n two).1.toNat : Int), .slice A4 n4 c4] 213 (0, 0))]) Keeps.mem hmix rfl <| pmP 0 rfl rfl <| pmP 1 rfl rfl <| zy 2 rfl rfl (y_lg rfl rfl) <| zp 3 rfl rfl (y_nilCheck rfl) <| pFa 4 rfl rfl <| ze 5 rfl rfl <| e_sT rfl rfl <| kp ?_
  refine zp 6 rfl rfl (y_nilCheck rfl) <| pFa 7 rfl rfl <| ze 8 rfl rfl <| e_sT rfl rfl <| kp ?_
  refine to_nil (by kernel_rfl) (.block_normal (.dropTo (dL d r S (sL p d { s with at_ := 1, num := (readRec s.n two).1, b := (readRec s.n two).2 } A4 n4 c4 :: R)) iI (end0 rfl hm (by
   rw [hres, loaded, if_pos (by omega)]
   exact ⟨rfl, r, _, _, _, h.mono hm, hA4, rfl⟩))))
 refine zr <| tFa rfl <| tLd rfl rfl <| tl_y rfl (y_gtr rfl rfl) <| asB rfl <| zq <| .s3 2 3 37 rfl rfl rfl <| x_cond rfl (fun hc2 => ?_) (fun hc2 => ?_)
 ·
  refine x_skip (.block_normal (.dropTo (dL d r S (sL p d { s with at_ := 0, num := (readRec s.n one).1, b := (readRec s.n one).2 } A3 n3 c3 :: R)) iI (end0 rfl hm (by
   rw [hres, loaded, if_neg (by omega), if_pos (by omega)]
   exact ⟨rfl, r, _, _, _, h.mono hm, hA3, rfl⟩))))
 refine zr <| mvS rfl <| zca rfl (blank_spec hA1) ?_
 rintro _ _ _ _ ⟨rfl, rfl, rfl⟩
 refine mvB rfl <| tl_casesb (s := 44) rfl (fun hk1 => ?_) (fun hk1 => ?_)
 ·
  refine sk2 rfl rfl <| tPt rfl rfl <| asB rfl <| zq <| .s1 41 rfl <| x_true rfl rfl <| x_region <| tl_e rfl (e_call rfl (well_spec 11) (by
   rintro _ _ _ _ ⟨rfl, rfl, rfl, _⟩
   refine .dropTo (dL d r S (sL p d { s with at_ := 0, num := (readRec s.n one).1, b := (readRec s.n one).2 } A3 n3 c3 :: R)) iI <| .retA rfl hm ?_
   rw [hres, loaded, if_neg (by omega), if_neg (by omega), if_pos (.inl hk1)]
   exact ⟨rfl, r, _, _, _, h.mono hm, hA3, rfl⟩) ?_)
  rintro _ _ _ _ ⟨rfl, rfl, hz⟩
  refine tl_nil (.block_normal (end0 rfl hm (absurd hz (by decide))))
 refine mvS rfl <| zca rfl (blank_spec hA2) ?_
 rintro _ _ _ _ ⟨rfl, rfl, rfl⟩
 refine tPf rfl rfl <| asB rfl <| zq <| .s1 41 rfl <| x_condb rfl (fun hc3 => ?_) (fun hc3 => ?_)
 ·
  refine x_region <| tl_e rfl (e_call rfl (well_spec 11) (by
   rintro _ _ _ _ ⟨rfl, rfl, rfl, _⟩
   refine .dropTo (dL d r S (sL p d { s with at_ := 0, num := (readRec s.n one).1, b := (readRec s.n one).2 } A3 n3 c3 :: R)) iI <| .retA rfl hm ?_
   rw [hres, loaded, if_neg (by omega), if_neg (by omega), if_pos (.inr hc3)]
   exact ⟨rfl, r, _, _, _, h.mono hm, hA3, rfl⟩) ?_)
  rintro _ _ _ _ ⟨rfl, rfl, hz⟩
  refine tl_nil (.block_normal (end0 rfl hm (absurd hz (by decide))))
 refine x_region <| tl_e rfl (e_call rfl (well_spec 8) (by
  rintro _ _ _ _ ⟨rfl, rfl, rfl, _⟩
  refine .dropTo (dL d r S (sL p d { s with at_ := 0, num := (readRec s.n one).1, b := (readRec s.n one).2 } A3 n3 c3 :: R)) iI <| .retA rfl hm ?_
  rw [hres, loaded, if_neg (by omega), if_neg (by omega), if_neg (by rw [hk1, hc3]; simp)]
  exact ⟨rfl, r, _, _, _, h.mono hm, hA3, rfl⟩) ?_)
 rintro _ _ _ _ ⟨rfl, rfl, hz⟩
 refine tl_nil (.block_normal (end0 rfl hm (absurd hz (by decide))))
theorem Now_spec (hb : Bytes M A0 l0 c0 s.b) (hbl : s.b.length ≤ 140737488355328) :
  Con Tryz.prog 133 #[.pointer (some ⟨p, 0, none⟩)] G M (sL p d s A0 l0 c0 :: R) (fun v M' L' => L' = sL p d s A0 l0 c0 :: R ∧ ∃ A c, v = .tuple #[.slice A l0 c, .int .u64 (s.num.toNat : Int)] ∧ Bytes M' A l0 c s.b) noPanic := by
 have hl := hb.size
 refine zfn Tryz.func133 rfl 15 rfl <| zr <| as0 rfl <| as0 rfl <| zq <| x_seq <| x_draw 13 hmix rfl <| pmP 0 rfl rfl <| zp 1 rfl rfl (y_nilCheck rfl) <| pFa 2 rfl rfl ?_
 refine pFa 3 rfl rfl <| pLd 4 rfl rfl rfl <| pmP 6 rfl rfl <| zp 7 rfl rfl (y_nilCheck rfl) <| pFa 8 rfl rfl <| pFa 9 rfl rfl <| pLd 10 rfl rfl rfl <| ze 5 rfl rfl <| e_call' rfl (bytesClone_spec hb (by omega)) ?_
 rintro _ M1 _ hM1 ⟨rfl, A1, c1, rfl, hA1⟩
 refine kp ?_
 refine paS 11 rfl rfl <| paI 12 rfl rfl <| zz <| .then_normal <| .s2 2 3 rfl rfl <| x_ret (ret2 rfl rfl rfl hM1 ⟨rfl, A1, c1, rfl, hA1⟩)
def loadTold (S : DS) (s : SS) : List UInt8 × UInt64 := if (loadRes S s).2 = 0 then ((loadRes S s).1.b, (loadRes S s).1.num) else ([], 0)
theorem Load_spec (hg : ShaG M) (h : IsDisk M r S) (ok : OkS S s) (hb : Bytes M A0 l0 c0 s.b) :
  Con Tryz.prog 85 #[.pointer (some ⟨p, 0, none⟩)] G M (dL d r S (sL p d s A0 l0 c0 :: R))
   (fun v M' L' => SK p d S (loadRes S s).1 R M' L' ∧ ∃ A n c, v = .tuple #[.slice A n c, .int .u64 ((loadTold S s).2.toNat : Int), .int .i64 (loadRes S s).2] ∧ Bytes M' A n c (loadTold S s).1) noPanic := by
 have hok := loadRes_ok ok
 refine zfn Tryz.func85 rfl 21 rfl <| zr <| as0 rfl <| as0 rfl <| as0 rfl <| zq <| zr2 <| mvP rfl <| tl_y rfl (y_makeFunc rfl rfl) <| tl_e rfl (e_call' rfl (caught_spec (first := [.pointer (some ⟨p, 0, none⟩)]) (cap := []) (K := fun M' L' => (loadRes S s).2 = 0 ∧ SK p d S (loadRes S s).1 R M' L') (Kc := fun e M' L' => e = (loadRes S s).2 ∧ SK p d S (loadRes S s).1 R M' L') (fun b o => (Con.to (dL d r S (sL p d s A0 l0 c0 :: (b, o) :: R)) iI (load_spec hg h ok hb)).postP
  (fun v M' L' _ ⟨h0, r', A', l', c', k1, k2, e⟩ => ⟨(b, o) :: dL d r' S (sL p d (loadRes S s).1 A' l' c' :: R), by rw [e]; infer_instance, _, rfl, h0, r', A', l', c', k1, k2, rfl⟩)
  (fun ch M' L' _ ⟨h0, r', A', l', c', k1, k2, e⟩ => ⟨(b, o) :: dL d r' S (sL p d (loadRes S s).1 A' l' c' :: R), by rw [e]; infer_instance, _, _, h0, rfl, rfl, r', A', l', c', k1, k2, rfl⟩))) ?_)
 rintro v1 M1 L1 hM1 hv
 obtain ⟨e, rfl, he, r1, A1, l1, c1, hd1, hb1, rfl⟩ : ∃ e, v1 = Value.int .i64 e ∧ e = (loadRes S s).2 ∧ SK p d S (loadRes S s).1 R M1 L1 := by
  rcases hv with ⟨rfl, h0, hk⟩ | ⟨e, rfl, h0, hk⟩
  ·
   exact ⟨0, rfl, h0.symm, hk⟩
  exact ⟨e, rfl, h0, hk⟩
 subst he
 have hl1 := hb1.size
 refine asI rfl <| zq <| .s2 0 5 rfl rfl <| zr <| mvI rfl <| tl_y rfl (y_neq rfl rfl) <| zq <| x_cond rfl (fun hc1 => ?_) (fun hc1 => ?_)
 ·
  refine zr <| mvI rfl <| as0 rfl <| as0 rfl <| asI rfl <| zq <| .s3 2 3 4 rfl rfl rfl <| x_ret (.then_ret (ret3 rfl rfl rfl rfl hM1 ⟨⟨r1, A1, l1, c1, hd1, hb1, rfl⟩, none, 0, 0, by rw [show loadTold S s = ([], 0) by rw [loadTold, if_neg hc1]]; rfl, by rw [show loadTold S s = ([], 0) by rw [loadTold, if_neg hc1]]; exact Row.nil _ _⟩))
 refine x_skip <| .then_normal <| zr <| mvP rfl <| zca rfl (Con.to (sL p d (loadRes S s).1 A1 l1 c1 :: (d, .cells (List.toArray (dcells r1 S)) 75 (0, 0)) :: (r1.E1 ++ (r1.E2 ++ R))) iI (Now_spec hb1 (by have := hok.b; have := hok.n; omega))) ?_
 rintro _ M2 _ hM2 ⟨rfl, A2, c2, rfl, hA2⟩
 refine mvU rfl <| zx rfl <| zx rfl <| asS rfl <| asI rfl <| zq <| .s2 6 7 rfl rfl <| zr <| mvS rfl <| mvI rfl <| asS rfl <| asI rfl <| as0 rfl <| zq <| .s3 2 3 4 rfl rfl rfl <| x_ret (.dropTo (dL d r1 S (sL p d (loadRes S s).1 A1 l1 c1 :: R)) iI (ret3 rfl rfl rfl rfl (hM1.trans hM2) (by
  have h0 : (loadRes S s).2 = 0 := by omega
  rw [show loadTold S s = ((loadRes S s).1.b, (loadRes S s).1.num) by rw [loadTold, if_pos h0], h0]
  exact ⟨⟨r1, A1, l1, c1, hd1.mono hM2, hb1.mono hM2, rfl⟩, A2, l1, c2, rfl, hA2⟩)))
end
end Go.Proofs.YtplkoemjffplcaaGreatDoor
