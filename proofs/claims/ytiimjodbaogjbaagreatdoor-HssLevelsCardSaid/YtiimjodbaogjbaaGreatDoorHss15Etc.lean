/-
Contracts of functions, each proved by a walk through its code.
-/
import Derived.Test.YtiimjodbaogjbaaGreatDoorLms5Etc
import Derived.Test.YtiimjodbaogjbaaGreatDoorLms4Etc
import Derived.Test.YtiimjodbaogjbaaGreatDoorHss7Etc
import Derived.Test.YtiimjodbaogjbaaGreatDoorOnce3Etc
import Derived.Test.YtiimjodbaogjbaaGreatDoorDig1Etc
import Derived.Test.YtiimjodbaogjbaaGreatDoorChain3Etc
import Derived.Test.YtiimjodbaogjbaaGreatDoorShakeEtc
import Derived.Test.YtiimjodbaogjbaaGreatDoorEngWEtc
import Derived.Test.YtiimjodbaogjbaaGreatDoorMerkle5Etc
import Derived.Test.YtiimjodbaogjbaaGreatDoorHss2Etc
import Derived.Test.YtiimjodbaogjbaaGreatDoorLms1Etc
set_option linter.unusedVariables false
set_option linter.unusedSimpArgs false
set_option linter.constructorNameAsVariable false
namespace Go.Proofs.YtiimjodbaogjbaaGreatDoor
open Go Go.Eng
section
variable {G : World} {M : Mem} {L : Own}
theorem PutO_spec (v : UInt64) (n : Nat) (hn : n ≤ 8) :
    Con Tryz.prog 115 #[.int .u64 (v.toNat : Int), .int .i64 (n : Int)] G M L (fun r M' L' => M = M' ∧ ∃ A c E, r = .slice A n c ∧ OwnRow 5 1 A n c ((putB v.toNat n).map bv) E ∧ L' = E ++ L) noPanic := by
  refine enter (args := [_, _]) (fn := Tryz.f115) ⟨Tryz.func115, rfl, by kernel_rfl, by kernel_rfl⟩ 32 rfl ?_
  refine x_seq (x_region ?_)
  refine tl_y rfl (y_assign rfl) ?_
  refine tl_nil (.then_normal ?_)
  refine x_seq (x_seq (x_region ?_))
  refine tl_y rfl (y_move (v := .int _ _) rfl) ?_
  refine tl_y rfl (y_lss rfl rfl) ?_
  refine tl_y rfl (y_move (v := .bool _) rfl) ?_
  refine tl_set (s := 9) (u := .bool false) rfl (by rw [decide_eq_false]; omega) ?_
  refine tl_y rfl (y_move (v := .int _ _) rfl) ?_
  refine tl_y rfl (y_gtr rfl rfl) ?_
  refine tl_y rfl (y_pickF rfl rfl) ?_
  refine tl_nil (.then_normal ?_)
  refine .sub (F' := [(0, _), (1, _), (12, _)]) (.cons rfl (.cons rfl (.cons rfl .nil))) ?_
  refine x_false rfl (by rw [decide_eq_false]; omega) ?_
  refine x_skip (.then_normal ?_)
  refine x_seq (x_region ?_)
  refine tl_y rfl (y_move (v := .int _ _) rfl) ?_
  refine tl_e rfl (e_make1 rfl rfl (by omega) (by omega) (by omega) (by omega) (fun b1 => ?_))
  simp only [Int.toNat_natCast]
  refine tl_y rfl (y_assign (v := .slice _ _ _) rfl) ?_
  refine tl_nil (.then_normal ?_)
  refine x_seq (x_seq (x_region ?_))
  refine tl_y rfl (y_move (v := .int _ _) rfl) ?_
  refine tl_y rfl (y_move rfl) ?_
  refine tl_nil (.then_normal ?_)
  refine x_block ?_
  refine x_loop (I := fun m' F D M1 L1 => ∃ k : Nat, m' = n - k ∧ k ≤ n ∧ D = [] ∧ M = M1 ∧ L1 = (b1, .cells ((List.replicate (n - k) (0 : UInt8) ++ (putB v.toNat n).drop (n - k)).map bv).toArray 5 (0, 0)) :: L ∧ F = [(0, .int .u64 (v.toNat : Int)), (1, .int .i64 n), (5, .slice (some ⟨b1, 0, none⟩) n n), (15, .int .i64 n), (16, .int .i64 k)]) (n) (F0 := [(0, _), (1, _), (5, _), (15, _), (16, _)]) ?_ (.cons rfl (.cons rfl (.cons rfl (.cons rfl (.cons rfl .nil))))) ?_  -- slots [0, 1, 5, 15, 16], written [16]
  · exact ⟨0, rfl, by omega, rfl, rfl, by rw [Nat.sub_zero, List.drop_of_length_le (by rw [putB_length]; omega), List.append_nil, List.map_replicate]; rfl, rfl⟩
  rintro m _ _ M1 L1 ⟨k, rfl, hk, rfl, rfl, rfl, rfl⟩
  refine x_seq (x_region ?_)
  refine tl_y rfl (y_lss rfl rfl) ?_
  refine tl_nil (.then_normal ?_)
  refine x_seq ?_
  refine x_cond rfl (fun hc2 => ?_) (fun hc2 => ?_)
  ·
    refine x_skip (.then_normal ?_)
    refine x_seq ?_
    refine x_block ?_
    refine x_seq (x_region ?_)
    refine tl_y rfl (y_move (v := .int _ _) rfl) ?_
    refine tl_y rfl (y_assign (v := .int _ _) rfl) ?_
    refine tl_nil (.then_normal ?_)
    refine x_region ?_
    refine tl_y rfl (y_move (v := .slice _ _ _) rfl) ?_
    refine tl_y rfl (y_move (v := .int _ _) rfl) ?_
    refine tl_y rfl (y_subI rfl rfl (by omega)) ?_
    refine tl_y rfl (y_move (v := .int _ _) rfl) ?_
    refine tl_y rfl (y_subI rfl rfl (by omega)) ?_
    refine tl_y rfl (y_move (v := .int _ _) rfl) ?_
    refine tl_y rfl (y_move (v := .int _ _) rfl) ?_
    refine tl_y rfl (y_mulI rfl rfl (by omega)) ?_
    refine tl_y rfl (y_shr64 (s := 8 * k) rfl rfl) ?_
    refine tl_y rfl (y_u64u8 rfl) ?_
    rw [shr_byte]
    refine tl_y rfl (y_indexAddr rfl rfl (by omega)) ?_
    refine tl_e rfl (e_storeAt (c := (List.replicate (n - k) (0 : UInt8) ++ (putB v.toNat n).drop (n - k)).map bv) (v := bv _) (o := n - 1 - k) (by show some (Value.pointer (some ⟨b1, _, none⟩)) = _; congr 4; omega) rfl rfl inferInstance (by simp [putB_length]; omega) inferInstance ?_)
    rw [← List.map_set, put_step v.toNat n k (by omega)]
    refine tl_nil (.block_normal (.then_normal ?_))
    refine .sub (F' := [(0, _), (1, _), (5, _), (15, _), (16, _)]) (.cons rfl (.cons rfl (.cons rfl (.cons rfl (.cons rfl .nil))))) ?_
    refine x_region ?_
    refine tl_y rfl (y_addI rfl rfl (by omega)) ?_
    refine tl_y rfl (y_move (v := .int _ _) rfl) ?_
    refine tl_nil (.loop_next (m' := n - (k + 1)) (by omega) (F' := [(0, _), (1, _), (5, _), (15, _), (16, _)]) (.cons rfl (.cons rfl (.cons rfl (.cons rfl (.cons rfl .nil))))) ?_)
    exact ⟨k + 1, rfl, by omega, rfl, rfl, rfl, rfl⟩
  ·
    refine x_exit (.then_exit (.loop_exit (.block_exit (.then_normal ?_))))
    refine .sub (F' := [(5, _)]) (.cons rfl .nil) ?_
    refine x_seq (x_region ?_)
    refine tl_y rfl (y_move (v := .slice _ _ _) rfl) ?_
    refine tl_y rfl (y_assign (v := .slice _ _ _) rfl) ?_
    refine tl_nil (.then_normal ?_)
    obtain rfl : k = n := by omega
    rw [Nat.sub_self, List.replicate_zero, List.nil_append, List.drop_zero]
    exact x_ret (ret1 rfl rfl (Le.refl _) ⟨rfl, _, _, _, rfl, OwnRow.made (by simp [putB_length]) (by omega), rfl⟩)
theorem PutVO_spec (v n : Nat) (hv : v < 18446744073709551616) (hn : n ≤ 8) :
    Con Tryz.prog 115 #[.int .u64 (v : Int), .int .i64 (n : Int)] G M L (fun r M' L' => M = M' ∧ ∃ A c E, r = .slice A n c ∧ OwnRow 5 1 A n c ((putB v n).map bv) E ∧ L' = E ++ L) noPanic := by
  have h := PutO_spec (G := G) (M := M) (L := L) (UInt64.ofNat v) n hn
  rwa [UInt64.toNat_ofNat', Nat.mod_eq_of_lt (by omega)] at h
end
def LvRows (M : Mem) (vs : List Value) (l : List PairV) (at_ : List Nat) (name sec : List UInt8) (k : Nat) : Prop := vs.length = k * 5 ∧ ∀ i, i < k → ∃ A1 n1 c1 A2 n2 c2, (vs.drop (i * 5)).take 5 = levC (l.getD i p0) A1 n1 c1 A2 n2 c2 (at_.getD i 0) ∧ Bytes M A1 n1 c1 (seedR l at_ name sec i).1 ∧ Bytes M A2 n2 c2 (seedR l at_ name sec i).2
theorem LvRows.mono {M M' : Mem} {vs : List Value} {l : List PairV} {at_ : List Nat} {name sec : List UInt8} {k : Nat} (h : LvRows M vs l at_ name sec k) (hle : Le M M') : LvRows M' vs l at_ name sec k :=
  ⟨h.1, fun i hi => let ⟨A1, n1, c1, A2, n2, c2, h1, h2, h3⟩ := h.2 i hi; ⟨A1, n1, c1, A2, n2, c2, h1, h2.mono hle, h3.mono hle⟩⟩
theorem LvRows.nil {M : Mem} {l : List PairV} {at_ : List Nat} {name sec : List UInt8} : LvRows M [] l at_ name sec 0 := ⟨rfl, fun i hi => by omega⟩
theorem LvRows.snoc {M : Mem} {vs : List Value} {l : List PairV} {at_ : List Nat} {name sec : List UInt8} {k : Nat} (h : LvRows M vs l at_ name sec k) {A1 A2 : Option Addr} {n1 c1 n2 c2 : Nat} (h1 : Bytes M A1 n1 c1 (seedR l at_ name sec k).1) (h2 : Bytes M A2 n2 c2 (seedR l at_ name sec k).2) :
    LvRows M (vs ++ levC (l.getD k p0) A1 n1 c1 A2 n2 c2 (at_.getD k 0)) l at_ name sec (k + 1) := by
  refine ⟨by rw [List.length_append, h.1]; simp; omega, fun i hi => ?_⟩
  have hl := h.1
  by_cases hik : i < k
  · obtain ⟨B1, m1, d1, B2, m2, d2, k1, k2, k3⟩ := h.2 i hik
    refine ⟨B1, m1, d1, B2, m2, d2, ?_, k2, k3⟩
    rw [List.drop_append_of_le_length (by omega), List.take_append_of_le_length (by rw [List.length_drop]; omega), k1]
  · obtain rfl : i = k := by omega
    refine ⟨A1, n1, c1, A2, n2, c2, ?_, h1, h2⟩
    rw [← hl, List.drop_left]; rfl
theorem lv_len {l : List PairV} {nl sl : Nat} (hok : okL l) (hc : canB l nl sl) (at_ : List Nat) {name sec : List UInt8} (text : List UInt8) (hn : name.length = nl) (hs : sec.length = sl) {x : Nat} {i : Nat} (hi : i < l.length) (hat : at_ = atsN (l.map tv) x) :
    (sgR l at_ name sec text i).length = sigN (l.getD i p0) ∧ sigN (l.getD i p0) ≤ 10000 ∧ at_.getD i 0 < leavesN (treeV (l.getD i p0).t).h ∧ at_.getD i 0 < 4294967296 := by
  obtain ⟨h1, h2, h3, h4⟩ := okL_get hok hi
  obtain ⟨n, w, p, H, hx⟩ := okP_facts h1
  obtain ⟨z1, z2, z3, z4, z5⟩ := hx.sizes
  have h16 := (seedR_ok hok hc at_ hn hs i (by omega)).1
  have ht : (l.map tv)[i]? = some (tv (l.getD i p0)) := by rw [List.getElem?_map, h3]; rfl
  have hq := atN_lt ht x
  have hp25 := pw2_25 hx.h2
  have hH : hN (tv (l.getD i p0)) = H := by
    have : (treeV (l.getD i p0).t).h = (H : Int) := hx.th
    rw [hN]; show (treeV (l.getD i p0).t).h.toNat = H; rw [this]; rfl
  have hg : at_.getD i 0 = atN (l.map tv) x i := by rw [hat, List.getD_eq_getElem?_getD, atsN_get _ _ (by rw [List.length_map]; exact hi)]; rfl
  rw [hH] at hq
  refine ⟨?_, by omega, ?_, by omega⟩
  · rw [sgR]
    exact (lsig_parts hx h16 _ _ (by rw [hg]; exact hq)).1
  · rw [hx.lv, hg]; exact hq
theorem take5 {vs : List Value} {j : Nat} {a b c d e : Value} (h : (vs.drop j).take 5 = [a, b, c, d, e]) : (vs.drop j).take 2 = [a, b] ∧ (vs.drop (j + 2)).take 2 = [c, d] := by
  have h1 := congrArg (List.take 2) h
  have h2 := congrArg (fun l => (List.drop 2 l).take 2) h
  simp only [List.take_take, List.drop_take, List.drop_drop] at h1 h2
  exact ⟨h1, h2⟩
section
variable {G : World} {M : Mem} {L : Own} {NA SA TA : Option Addr} {nl nc sl_ sc tl tc : Nat} {name sec text : List UInt8}
theorem Sign1_hspec (hg : LmG M) {A : Option Addr} {n c : Nat} {pl : List PairV} (h : Row M 2 A n c (prow pl)) (hname : Bytes M NA nl nc name) (hsec : Bytes M SA sl_ sc sec) (x : UInt64) (htext : Bytes M TA tl tc text) {bl bs bt bn : Nat}
    [i1 : Has L bl (.cells (List.toArray [.slice A n c]) 46 (0, 0))] [i2 : Has L bs (.cells (List.toArray (seedC NA nl nc SA sl_ sc)) 49 (0, 0))] [i3 : Has L bt (.cells (List.toArray [.slice TA tl tc]) 35 (0, 0))] [i4 : Has L bn (.cells (List.toArray [.int .u64 (x.toNat : Int)]) 37 (0, 0))] :
    Con Tryz.prog 118 #[.pointer (some ⟨bl, 0, none⟩), .pointer (some ⟨bs, 0, none⟩), .pointer (some ⟨bt, 0, none⟩), .pointer (some ⟨bn, 0, none⟩)] G M L (fun v M' L' => L' = L ∧ ∃ A m c, v = .slice A m c ∧ hsigE pl nl sl_ x.toNat tl = 0 ∧ Bytes M' A m c (hsigB pl (atsN (pl.map tv) x.toNat) name sec text)) (fun ch M' L' => L' = L ∧ ∃ e, (hsigE pl nl sl_ x.toNat tl ≠ 0 ∧ e = hsigE pl nl sl_ x.toNat tl) ∧ ch = hwrong e) := by
  have hln : pl.length = n := by have := h.len; rw [prow, flat_len pcl] at this; omega
  have hns := hname.size
  have hss := hsec.size
  have hts := htext.size
  refine enterM (args := [_, _, _, _]) (fn := Tryz.f118) ⟨Tryz.func118, rfl, by kernel_rfl, by kernel_rfl⟩ 77 rfl ?_
  refine x_seq (x_region ?_)
  refine tl_y rfl (y_assign rfl) ?_
  refine tl_nil (.then_normal ?_)
  refine x_seq (x_region ?_)
  refine tl_y rfl (y_load rfl rfl (.own inferInstance inferInstance)) ?_
  refine tl_y rfl (y_loadAgg rfl rfl (.own inferInstance inferInstance)) ?_
  refine tl_e rfl (e_call rfl (makes_spec hg h) (by
    rintro _ M1 L hM1 ⟨rfl, hno, rfl⟩
    have e : hsigE pl nl sl_ x.toNat tl = canE pl nl sl_ := by rw [hsigE, if_pos hno]
    exact TP.dropTo L inferInstance (.retM0 hM1 ⟨rfl, _, ⟨by rw [e]; exact hno, rfl⟩, by rw [e]⟩)) ?_)
  rintro _ M1 L hM1 ⟨rfl, h0⟩
  have hd : Le M M1 := hM1
  obtain ⟨hok, hcan⟩ := canE_zero h0
  have hn8 := hok.1
  have hmx := h.max
  have hle := h.le
  refine tl_nil (.then_normal ?_)
  refine .sub (F' := [(0, _), (1, _), (2, _), (3, _)]) (.cons rfl (.cons rfl (.cons rfl (.cons rfl .nil)))) ?_
  refine x_seq (x_region ?_)
  refine tl_y rfl (y_load rfl rfl (.own inferInstance inferInstance)) ?_
  refine tl_y rfl (y_len rfl) ?_
  refine tl_y rfl (y_leq rfl rfl) ?_
  refine tl_e rfl (e_call rfl (hmust_spec _ _) (by
    rintro _ _ L _ ⟨rfl, rfl, ht, rfl⟩
    have e : hsigE pl nl sl_ x.toNat tl = 1 := by rw [hsigE, if_neg (fun h => h h0), if_pos (by simp at ht; omega)]
    exact TP.dropTo L inferInstance (.retM0 hd ⟨rfl, _, ⟨by rw [e]; decide, rfl⟩, by rw [e]⟩)) ?_)
  rintro _ _ L _ ⟨rfl, rfl, ht⟩
  have htl : tl ≤ 65536 := by simp at ht; omega
  have hEp : hsigE pl nl sl_ x.toNat tl = plE pl x.toNat := by rw [hsigE, if_neg (fun h => h h0), if_neg (by omega)]
  refine tl_nil (.then_normal ?_)
  refine .sub (F' := [(0, _), (1, _), (2, _), (3, _)]) (.cons rfl (.cons rfl (.cons rfl (.cons rfl .nil)))) ?_
  refine x_seq (x_region ?_)
  refine tl_e rfl (e_alloc (fun b1 => ?_))
  refine tl_nil (.then_normal ?_)
  refine x_seq (x_seq ?_)
  have he : Le M1 M1 := Le.refl _
  refine x_draw 6 hmix rfl ?_
  refine to_y 0 rfl (by kernel_rfl) rfl (y_load rfl rfl (.own inferInstance inferInstance)) ?_
  refine to_y 1 rfl (by kernel_rfl) rfl (y_loadAgg rfl rfl (.own inferInstance inferInstance)) ?_
  refine to_y 2 rfl (by kernel_rfl) rfl (y_load rfl rfl (.own inferInstance inferInstance)) ?_
  refine to_y 3 rfl (by kernel_rfl) rfl (y_load rfl rfl (.own inferInstance inferInstance)) ?_
  refine to_e 4 rfl (by kernel_rfl) rfl (e_call rfl (places_spec (hg.mono hd).hs (h.mono hd) x) (by
    rintro _ M2 _ hM2 ⟨rfl, e, he', rfl⟩
    have h1 : hsigE pl nl sl_ x.toNat tl = e ∧ e ≠ 0 := by
      rw [hEp]
      rcases he' with ⟨hno, rfl⟩ | ⟨_, hno, rfl⟩
      · exact absurd hok hno
      · exact ⟨by rw [plE, if_pos hok, if_neg hno], by decide⟩
    exact TP.dropTo L inferInstance (.retM0 (hd.trans hM2) ⟨rfl, e, ⟨by rw [h1.1]; exact h1.2, h1.1.symm⟩, rfl⟩)) ?_)
  rintro _ M3 _ hM3 ⟨rfl, _, hxt, AT, cT, rfl, hat⟩
  replace hd := hd.trans hM3
  replace he := he.trans hM3
  have hE0 : hsigE pl nl sl_ x.toNat tl = 0 := by rw [hEp, plE, if_pos hok, if_pos hxt]
  have hlt : ∀ k, k < n → (atsN (pl.map tv) x.toNat).getD k 0 < 4294967296 := fun k hk => (lv_len hok hcan _ text hns hss (i := k) (by omega) rfl).2.2.2
  refine ⟨⟨(by first | exact Le.refl _ | assumption), Keeps.mem⟩, ?_⟩
  refine to_e 5 rfl (by kernel_rfl) rfl (e_call' rfl levels_spec ?_)
  rintro _ _ _ _ ⟨rfl, x1, x2, x3, rfl, rfl⟩
  refine ⟨⟨(by first | exact Le.refl _ | assumption), Keeps.mem⟩, ?_⟩
  refine to_nil (by kernel_rfl) (.then_normal ?_)
  refine .sub (F' := [(0, _), (2, _), (5, _), (24, _)]) (.cons rfl (.cons rfl (.cons rfl (.cons rfl .nil)))) ?_
  refine x_block ?_
  refine x_rangeN rfl rfl (fun l r0 fn tm lps las lbd hps has hbd htm => ?_)
  obtain ⟨xs, hxs⟩ : ∃ xs : LoopState → Option Code → Option Addr → Nat → Nat → Own → Own, ∀ st pd A k c E, xs st pd A k c E = lrec l st pd fn tm lps las lbd r0 :: (r0, .deferred (some [])) :: (b1, .cells (List.toArray [.slice A k c]) 149 (0, 0)) :: (E ++ L) := ⟨_, fun _ _ _ _ _ _ => rfl⟩
  refine Con.postD (Con.to ((x3, .cells (List.toArray [.slice AT n cT]) 50 (0, 0)) :: (x2, .cells (List.toArray (seedC NA nl nc SA sl_ sc)) 49 (0, 0)) :: (x1, .cells (List.toArray [.slice A n c]) 46 (0, 0)) :: xs .ready none none 0 0 []) (by rw [hxs, List.nil_append]; infer_instance) (levels1_spec (hg.mono hd) (h.mono hd) hat hlt hok hcan (hname.mono hd) (hsec.mono hd) (Inv := fun k M2 X2 => ∃ (A6 : Option Addr) (c6 : Nat) (E6 : Own) (vs6 : List Value), Le M3 M2 ∧ OwnRow 154 5 A6 k c6 vs6 E6 ∧ LvRows M2 vs6 pl (atsN (pl.map tv) x.toNat) name sec k ∧ X2 = xs .ready none A6 k c6 E6) (Dn := fun _ _ => False) (fun k M1' M2' X hle ⟨A6, c6, E6, vs6, q1, q2, q3, q4⟩ => ⟨A6, c6, E6, vs6, q1.trans hle, q2, q3.mono hle, q4⟩) ?_ ⟨none, 0, [], [], Le.refl _, .nil, .nil, rfl⟩)) ?_
  · rintro k M4 X4 A1 n1 c1 A2 n2 c2 hk hb1 hb2 hM4 ⟨A6, c6, E6, vs6, hM34, hE6, hR6, rfl⟩
    rw [hxs]
    subst hps
    subst has
    subst hbd
    refine ycon_body htm rfl (by kernel_rfl) (fun R1 => ?_)
    simp only [List.cons_append, List.append_assoc]
    refine x_region ?_
    refine tl_e rfl (e_alloc (fun b7 => ?_))
    refine tl_e rfl (e_store rfl rfl (by rfl) (by rfl) inferInstance inferInstance inferInstance ?_)
    refine .bring l inferInstance ?_
    refine tl_nil (.asg (by kernel_rfl) ?_)
    refine x_block ?_
    refine x_region ?_
    refine tl_y rfl (y_load rfl rfl (.own inferInstance inferInstance)) ?_
    refine tl_y rfl (y_loadAgg rfl rfl (.own inferInstance inferInstance)) ?_
    refine tl_e rfl (e_buildSlice rfl (by decide) (fun b8 => ?_))
    refine .pub b8 inferInstance (fun M5 hM5 hb8 => ?_)
    refine .bringE E6 inferInstance ?_
    refine tl_e rfl (e_append (by decide) rfl rfl hE6 (.row (Row.whole (s := 5) (vs := levC (pl.getD k p0) A1 n1 c1 A2 n2 c2 ((atsN (pl.map tv) x.toNat).getD k 0)) hb8 rfl (by omega))) rfl (by omega) (by omega) (fun A9 c9 E9 hE9 => ?_))
    refine tl_e rfl (e_store rfl rfl (by rfl) (by rfl) inferInstance inferInstance inferInstance ?_)
    refine tl_nil (.block_normal (.on ((r0, .deferred (some [])) :: (b1, .cells (List.toArray [.slice A9 (k + 1) c9]) 149 (0, 0)) :: (E9 ++ (L ++ R1))) inferInstance inferInstance
      (X := (r0, .deferred (some [])) :: (b1, .cells (List.toArray [.slice A9 (k + 1) c9]) 149 (0, 0)) :: (E9 ++ L)) (by simp) hM5 ⟨A9, c9, E9, _, hM34.trans hM5, hE9, (hR6.mono hM5).snoc (hb1.mono hM5) (hb2.mono hM5), (hxs _ _ _ _ _ _).symm⟩))
  · rintro v M4 L4 hM4 ⟨X', hdrop, hX⟩
    rcases hX with ⟨A6, c6, E6, vs6, hM34, hE6, hR6, rfl⟩ | hX
    · rw [hxs] at hdrop
      refine ⟨_, hdrop, .ready, none, _, by simp, rfl, ?_⟩
      refine .dropTo (E6 ++ ((r0, .deferred (some [])) :: (b1, .cells (List.toArray [.slice A6 n c6]) 149 (0, 0)) :: L)) inferInstance ?_
      refine .pubRow hE6 (fun M5 hM5 hrow => ?_)
      replace hR6 := hR6.mono hM5
      replace hd := hd.trans (hM34.trans hM5)
      have hvl := hR6.1
      have hrm := hrow.max
      have hrc := hrow.le
      obtain ⟨at_, hatd⟩ : ∃ at_, at_ = atsN (pl.map tv) x.toNat := ⟨_, rfl⟩
      rw [← hatd] at hR6 ⊢
      refine .block_normal (.then_normal ?_)
      refine x_seq (x_region ?_)
      refine tl_y rfl (y_load rfl rfl (.own inferInstance inferInstance)) ?_
      refine tl_y rfl (y_len rfl) ?_
      refine tl_y rfl (y_subI rfl rfl (by omega)) ?_
      rw [show ((n : Nat) : Int) - 1 = ((n - 1 : Nat) : Int) by omega]
      refine tl_y rfl (y_convN64 rfl (by omega)) ?_
      refine tl_e rfl (e_call' rfl (PutVO_spec (n - 1) 4 (by omega) (by omega)) ?_)
      rintro _ _ _ _ ⟨rfl, AP, cP, EP, rfl, hEP, rfl⟩
      refine tl_y rfl (y_assign (v := .slice _ _ _) rfl) ?_
      refine tl_nil (.then_normal ?_)
      refine .sub (F' := [(2, _), (5, _), (8, _)]) (.cons rfl (.cons rfl (.cons rfl .nil))) ?_
      refine x_seq (x_seq (x_region ?_))
      refine tl_y rfl (y_load rfl rfl (.own inferInstance inferInstance)) ?_
      refine tl_y rfl (y_len rfl) ?_
      refine tl_y rfl (y_move rfl) ?_
      refine tl_nil (.then_normal ?_)
      refine x_block ?_
      refine x_loop (I := fun m' F D M6 L6 => ∃ (k no : Nat) (AO : Option Addr) (cO : Nat) (E : Own), m' = n - k ∧ k ≤ n ∧ Le M5 M6 ∧ no ≤ 4 + k * 10100 ∧ OwnRow 5 1 AO no cO ((putB (n - 1) 4 ++ catR (levR pl at_ name sec text) k).map bv) E ∧ D = [Eng.mark r0] ∧ L6 = E ++ ((r0, .deferred (some [])) :: (b1, .cells (List.toArray [.slice A6 n c6]) 149 (0, 0)) :: L) ∧ F = [(2, .pointer (some ⟨bt, 0, none⟩)), (5, .pointer (some ⟨b1, 0, none⟩)), (8, .slice AO no cO), (36, .slice A6 n c6), (37, .int .i64 n), (38, .int .i64 k)]) (n) (F0 := [(2, _), (5, _), (8, _), (36, _), (37, _), (38, _)]) ?_ (.cons rfl (.cons rfl (.cons rfl (.cons rfl (.cons rfl (.cons rfl .nil)))))) ?_
      · exact ⟨0, 4, AP, cP, EP, rfl, by omega, Le.refl _, by omega, by rw [catR_zero, List.append_nil]; exact hEP, rfl, rfl, rfl⟩
      rintro m _ _ M6 _ ⟨k, no, AO, cO, E, rfl, hk, hM6, hno, hE, rfl, rfl, rfl⟩
      refine x_seq (x_region ?_)
      refine tl_y rfl (y_lss rfl rfl) ?_
      refine tl_nil (.then_normal ?_)
      refine x_seq ?_
      refine x_cond rfl (fun hc1 => ?_) (fun hc1 => ?_)
      ·
        have hkn : k < n := by omega
        have hd6 := hd.trans hM6
        obtain ⟨A1, n1, c1, A2, n2, c2, hv, hb1, hb2⟩ := (hR6.mono hM6).2 k hkn
        obtain ⟨z1, z2, z3, z4⟩ := lv_len hok hcan at_ text hns hss (i := k) (by omega) hatd
        obtain ⟨hy1, hy2⟩ := seedR_may hok hcan at_ hns hss (i := k) (j := k) (by omega) (by omega)
        rw [hb1.size, hb2.size] at hy2
        obtain ⟨q, hq⟩ : ∃ q : UInt32, q.toNat = at_.getD k 0 := ⟨UInt32.ofNat (at_.getD k 0), by rw [UInt32.toNat_ofNat', Nat.mod_eq_of_lt (by omega)]⟩
        rw [← hq] at hv z3
        obtain ⟨g, o, rfl, hcell⟩ := (hrow.mono hM6).cellsN (by omega)
        have hc5 := fun L => hcell L (k * 5) 5 (by omega)
        simp only [hv] at hc5
        have hsg : lsigB (pl.getD k p0) (seedR pl at_ name sec k).1 (seedR pl at_ name sec k).2 q.toNat (nextR pl at_ name sec text k) = sgR pl at_ name sec text k := by rw [sgR, hq]
        refine x_skip (.then_normal ?_)
        refine x_seq ?_
        refine x_block ?_
        refine x_seq (x_region ?_)
        refine tl_y rfl (y_move (v := .int _ _) rfl) ?_
        refine tl_y rfl (y_indexAddr rfl rfl (by omega)) ?_
        refine tl_y rfl (y_loadAgg rfl rfl (.at_ (hc5 _) (by omega))) ?_
        refine tl_e rfl (e_alloc (fun b12 => ?_))
        refine tl_y rfl (y_assign (v := .int _ _) rfl) ?_
        refine tl_e rfl (e_store rfl rfl (by rfl) (by rfl) inferInstance inferInstance inferInstance ?_)
        refine tl_nil (.then_normal ?_)
        refine x_seq (x_region ?_)
        refine tl_y rfl (y_load rfl rfl (.own inferInstance inferInstance)) ?_
        refine tl_y rfl (y_assign (v := .slice _ _ _) rfl) ?_
        refine tl_nil (.then_normal ?_)
        refine x_seq (x_seq (x_region ?_))
        refine tl_y rfl (y_move (v := .int _ _) rfl) ?_
        refine tl_y rfl (y_addI rfl rfl (by omega)) ?_
        refine tl_y rfl (y_load rfl rfl (.own inferInstance inferInstance)) ?_
        refine tl_y rfl (y_len rfl) ?_
        refine tl_y rfl (y_lss rfl rfl) ?_
        refine tl_nil (.then_normal ?_)
        refine x_cond rfl (fun hc2 => ?_) (fun hc2 => ?_)
        ·
          have hk1 : k + 1 < n := by omega
          obtain ⟨A3, n3, c3, A4, n4, c4, hv1, hb3, hb4⟩ := (hR6.mono hM6).2 (k + 1) hk1
          obtain ⟨hv2, hv3⟩ := take5 hv1
          have hc2a := fun L => hcell L ((k + 1) * 5) 2 (by omega)
          have hc2b := fun L => hcell L ((k + 1) * 5 + 2) 2 (by omega)
          simp only [hv2] at hc2a
          simp only [hv3] at hc2b
          obtain ⟨hy3, hy4⟩ := seedR_may hok hcan at_ hns hss (i := k + 1) (j := k + 1) (by omega) (by omega)
          rw [hb3.size, hb4.size] at hy4
          have hnx : nextR pl at_ name sec text k = pubR pl at_ name sec (k + 1) := by rw [nextR, if_pos (by omega)]
          have hlv : levR pl at_ name sec text k = sgR pl at_ name sec text k ++ pubR pl at_ name sec (k + 1) := by rw [levR, if_pos (by omega)]
          have he : Le M6 M6 := Le.refl _
          refine x_draw 14 hmix rfl ?_
          refine to_y 0 rfl (by kernel_rfl) rfl (y_load rfl rfl (.own inferInstance inferInstance)) ?_
          refine to_p 1 rfl (by kernel_rfl) rfl (y_move (v := .int _ _) rfl) ?_
          refine to_p 2 rfl (by kernel_rfl) rfl (y_addI rfl rfl (by omega)) ?_
          refine to_p 3 rfl (by kernel_rfl) rfl (y_indexAddr rfl rfl (by omega)) ?_
          refine to_p 4 rfl (by kernel_rfl) rfl (y_fieldAddr rfl) ?_
          refine to_y 5 rfl (by kernel_rfl) rfl (y_loadAgg rfl rfl (.at_ (hc2a _) (by omega))) ?_
          refine to_y 6 rfl (by kernel_rfl) rfl (y_load rfl rfl (.own inferInstance inferInstance)) ?_
          refine to_p 7 rfl (by kernel_rfl) rfl (y_move (v := .int _ _) rfl) ?_
          refine to_p 8 rfl (by kernel_rfl) rfl (y_addI rfl rfl (by omega)) ?_
          refine to_p 9 rfl (by kernel_rfl) rfl (y_indexAddr rfl rfl (by omega)) ?_
          refine to_p 10 rfl (by kernel_rfl) rfl (y_fieldAddr rfl) ?_
          refine to_y 11 rfl (by kernel_rfl) rfl (y_loadAgg rfl rfl (.at_ (hc2b _) (by omega))) ?_
          refine to_e 12 rfl (by kernel_rfl) rfl (e_call rfl (hpublic_spec (hg.mono hd6) (pl.getD (k + 1) p0) hb3 hb4) (by
            rintro _ M7 _ hM7 ⟨rfl, hno, rfl⟩
            exact absurd hy4 hno) ?_)
          rintro _ M7 _ hM7 ⟨rfl, _, A7, n7, c7, rfl, hb7⟩
          replace he := he.trans hM7
          have hs7 := hb7.size
          obtain ⟨hp1, hp2, hp3, hp4⟩ := okL_get hok (i := k + 1) (by omega)
          obtain ⟨n', w', p', H', hx'⟩ := okP_facts hp1
          have hn32 := hx'.o.n32
          obtain ⟨pp1, _, _, _, _⟩ := pub_parts hx' ((seedR_ok hok hcan at_ hns hss (k + 1) (by omega)).1) (seedR pl at_ name sec (k + 1)).2
          have hE1 : lsigE (pl.getD k p0) n1 n2 q.toNat n7 = 0 := by rw [lsigE, if_neg (fun h => h hy2), if_neg (by omega), if_neg (by omega)]
          refine ⟨⟨(by first | exact Le.refl _ | assumption), Keeps.mem⟩, ?_⟩
          refine to_p 13 rfl (by kernel_rfl) rfl (y_assign (v := .slice _ _ _) rfl) ?_
          refine to_nil (by kernel_rfl) (.then_normal ?_)
          refine x_seq (x_region ?_)
          refine tl_y rfl (y_move (v := .slice _ _ _) rfl) ?_
          refine tl_y rfl (y_loadAgg rfl rfl (.own inferInstance inferInstance)) ?_
          refine tl_y rfl (y_move (v := .slice _ _ _) rfl) ?_
          refine tl_e rfl (e_call' rfl (lsign_spec (hg.mono (hd6.trans hM7)) (pl.getD k p0) (hb1.mono hM7) (hb2.mono hM7) q hb7 hE1) ?_)
          rintro _ M8 _ hM8 ⟨rfl, A8, n8, c8, rfl, hb8⟩
          rw [← pubR, ← hnx, hsg] at hb8
          have hs8 := hb8.size
          refine .bringE E inferInstance ?_
          refine tl_e rfl (e_append (by decide) rfl rfl hE (.row hb8) (all_one_bv _) (by omega) (by omega) (fun A9 c9 E9 hE9 => ?_))
          refine tl_y rfl (y_assign (v := .slice _ _ _) rfl) ?_
          refine tl_nil (.then_normal ?_)
          refine x_seq (x_region ?_)
          refine tl_y rfl (y_move (v := .int _ _) rfl) ?_
          refine tl_y rfl (y_addI rfl rfl (by omega)) ?_
          refine tl_y rfl (y_load rfl rfl (.own inferInstance inferInstance)) ?_
          refine tl_y rfl (y_len rfl) ?_
          refine tl_y rfl (y_lss rfl rfl) ?_
          refine tl_nil (.then_normal ?_)
          refine x_true rfl (by rw [decide_eq_true_iff]; omega) ?_
          refine x_region ?_
          refine tl_y rfl (y_move (v := .slice _ _ _) rfl) ?_
          refine tl_y rfl (y_move (v := .slice _ _ _) rfl) ?_
          refine .bringE E9 inferInstance ?_
          refine tl_e rfl (e_append (by decide) rfl rfl hE9 (.row (hb7.mono hM8)) (all_one_bv _) (by omega) (by omega) (fun A10 c10 E10 hE10 => ?_))
          rw [← List.map_append, ← List.map_append, List.append_assoc, List.append_assoc, ← pubR, ← hlv, ← catR_succ] at hE10
          refine tl_y rfl (y_assign (v := .slice _ _ _) rfl) ?_
          refine tl_nil (.block_normal (.then_normal ?_))
          refine x_region ?_
          refine tl_y rfl (y_addI rfl rfl (by omega)) ?_
          refine tl_y rfl (y_move (v := .int _ _) rfl) ?_
          refine .dropTo (E10 ++ ((r0, .deferred (some [])) :: (b1, .cells (List.toArray [.slice (some ⟨g, o, none⟩) n c6]) 149 (0, 0)) :: L)) inferInstance ?_
          refine tl_nil (.loop_next (m' := n - (k + 1)) (by omega) (F' := [(2, _), (5, _), (8, _), (36, _), (37, _), (38, _)]) (.cons rfl (.cons rfl (.cons rfl (.cons rfl (.cons rfl (.cons rfl .nil)))))) ?_)
          exact ⟨k + 1, _, A10, c10, E10, rfl, by omega, hM6.trans (hM7.trans hM8), by omega, hE10, rfl, rfl, rfl⟩
        ·
          have hk1 : k + 1 = n := by omega
          have hnx : nextR pl at_ name sec text k = text := by rw [nextR, if_neg (by omega)]
          have hlv : levR pl at_ name sec text k = sgR pl at_ name sec text k := by rw [levR, if_neg (by omega), List.append_nil]
          have hE1 : lsigE (pl.getD k p0) n1 n2 q.toNat tl = 0 := by rw [lsigE, if_neg (fun h => h hy2), if_neg (by omega), if_neg (by omega)]
          refine x_skip (.then_normal ?_)
          refine x_seq (x_region ?_)
          refine tl_y rfl (y_move (v := .slice _ _ _) rfl) ?_
          refine tl_y rfl (y_loadAgg rfl rfl (.own inferInstance inferInstance)) ?_
          refine tl_y rfl (y_move (v := .slice _ _ _) rfl) ?_
          refine tl_e rfl (e_call' rfl (lsign_spec (hg.mono hd6) (pl.getD k p0) hb1 hb2 q (htext.mono hd6) hE1) ?_)
          rintro _ M8 _ hM8 ⟨rfl, A8, n8, c8, rfl, hb8⟩
          rw [← hnx, hsg, ← hlv] at hb8
          have hs8 := hb8.size
          rw [hlv] at hs8
          refine .bringE E inferInstance ?_
          refine tl_e rfl (e_append (by decide) rfl rfl hE (.row hb8) (all_one_bv _) (by omega) (by omega) (fun A9 c9 E9 hE9 => ?_))
          rw [← List.map_append, List.append_assoc, ← catR_succ] at hE9
          refine tl_y rfl (y_assign (v := .slice _ _ _) rfl) ?_
          refine tl_nil (.then_normal ?_)
          refine x_seq (x_region ?_)
          refine tl_y rfl (y_move (v := .int _ _) rfl) ?_
          refine tl_y rfl (y_addI rfl rfl (by omega)) ?_
          refine tl_y rfl (y_load rfl rfl (.own inferInstance inferInstance)) ?_
          refine tl_y rfl (y_len rfl) ?_
          refine tl_y rfl (y_lss rfl rfl) ?_
          refine tl_nil (.then_normal ?_)
          refine x_false rfl (by rw [decide_eq_false_iff_not]; omega) ?_
          refine x_skip (.block_normal (.then_normal ?_))
          refine x_region ?_
          refine tl_y rfl (y_addI rfl rfl (by omega)) ?_
          refine tl_y rfl (y_move (v := .int _ _) rfl) ?_
          refine .dropTo (E9 ++ ((r0, .deferred (some [])) :: (b1, .cells (List.toArray [.slice (some ⟨g, o, none⟩) n c6]) 149 (0, 0)) :: L)) inferInstance ?_
          refine tl_nil (.loop_next (m' := n - (k + 1)) (by omega) (F' := [(2, _), (5, _), (8, _), (36, _), (37, _), (38, _)]) (.cons rfl (.cons rfl (.cons rfl (.cons rfl (.cons rfl (.cons rfl .nil)))))) ?_)
          exact ⟨k + 1, _, A9, c9, E9, rfl, by omega, hM6.trans hM8, by omega, hE9, rfl, rfl, rfl⟩
      ·
        obtain rfl : k = n := by omega
        refine x_exit (.then_exit (.loop_exit (.block_exit (.then_normal ?_))))
        refine .sub (F' := [(8, _)]) (.cons rfl .nil) ?_
        refine x_seq (x_region ?_)
        refine tl_y rfl (y_move (v := .slice _ _ _) rfl) ?_
        refine tl_y rfl (y_assign (v := .slice _ _ _) rfl) ?_
        refine tl_nil (.then_normal ?_)
        refine x_ret (.pubRow hE fun M9 hM9 hr9 => .retM1 (r := r0) (L1 := L) inferInstance (rv1 rfl (rc_tmp (by rfl))) inferInstance (hd.trans (hM6.trans hM9)) ⟨rfl, _, _, _, rfl, hE0, by rw [hsigB, hln]; exact hr9⟩)
    · exact hX.elim
theorem Sign_hspec (hg : LmG M) {A : Option Addr} {n c : Nat} {pl : List PairV} (h : Row M 2 A n c (prow pl)) (hname : Bytes M NA nl nc name) (hsec : Bytes M SA sl_ sc sec) (x : UInt64) (htext : Bytes M TA tl tc text) :
    Con Tryz.prog 52 #[.slice A n c, .agg (List.toArray (seedC NA nl nc SA sl_ sc)), .int .u64 (x.toNat : Int), .slice TA tl tc] G M L (fun v M' L' => L' = L ∧ ∃ A m c, v = .tuple #[.slice A m c, .int .i64 (hsigE pl nl sl_ x.toNat tl)] ∧ Bytes M' A m c (hsigV pl nl sl_ x.toNat tl name sec text)) noPanic := by
  refine enter (args := [_, _, _, _]) (fn := Tryz.f52) ⟨Tryz.func52, rfl, by kernel_rfl, by kernel_rfl⟩ 14 rfl ?_
  refine x_seq (x_region ?_)
  refine tl_e rfl (e_box rfl (fun b1 => ?_))
  refine tl_e rfl (e_box rfl (fun b2 => ?_))
  refine tl_e rfl (e_box rfl (fun b3 => ?_))
  refine tl_e rfl (e_box rfl (fun b4 => ?_))
  refine tl_y rfl (y_assign rfl) ?_
  refine tl_y rfl (y_assign rfl) ?_
  refine tl_nil (.then_normal ?_)
  refine .sub (F' := [(4, _), (5, _), (6, _), (7, _)]) (.cons rfl (.cons rfl (.cons rfl (.cons rfl .nil)))) ?_
  refine x_seq (x_region ?_)
  refine tl_y rfl (y_makeFunc rfl rfl) ?_
  refine tl_e rfl (e_call' rfl (caughtHB_spec (K := fun A m c M' => hsigE pl nl sl_ x.toNat tl = 0 ∧ Bytes M' A m c (hsigB pl (atsN (pl.map tv) x.toNat) name sec text)) (Kp := fun e => hsigE pl nl sl_ x.toNat tl ≠ 0 ∧ e = hsigE pl nl sl_ x.toNat tl) (first := []) (cap := [.pointer (some ⟨b1, 0, none⟩), .pointer (some ⟨b2, 0, none⟩), .pointer (some ⟨b4, 0, none⟩), .pointer (some ⟨b3, 0, none⟩)]) (fun p' q' => Sign1_hspec hg h hname hsec x htext)) ?_)
  rintro v M1 _ hM1 ⟨rfl, hv⟩
  obtain ⟨A2, m2, c2, rfl, hA⟩ : ∃ A m c, v = .tuple #[.slice A m c, .int .i64 (hsigE pl nl sl_ x.toNat tl)] ∧ Bytes M1 A m c (hsigV pl nl sl_ x.toNat tl name sec text) := by
    rcases hv with ⟨A, m, c, rfl, h0, hb⟩ | ⟨e, rfl, hno, rfl⟩
    · exact ⟨A, m, c, by rw [h0], by rw [hsigV, if_pos h0]; exact hb⟩
    · exact ⟨none, 0, 0, rfl, by rw [hsigV, if_neg hno]; exact Row.nil _ _⟩
  refine tl_y rfl (y_extract rfl) ?_
  refine tl_y rfl (y_extract rfl) ?_
  refine tl_y rfl (y_assign (v := .slice _ _ _) rfl) ?_
  refine tl_y rfl (y_assign (v := .int _ _) rfl) ?_
  refine tl_nil (.then_normal ?_)
  refine .sub (F' := [(8, _), (9, _)]) (.cons rfl (.cons rfl .nil)) ?_
  refine x_ret (.dropTo L inferInstance (ret2 rfl rfl rfl hM1 ⟨rfl, _, _, _, rfl, hA⟩))
end
end Go.Proofs.YtiimjodbaogjbaaGreatDoor
set_option linter.unusedVariables false
set_option linter.unusedSimpArgs false
set_option linter.constructorNameAsVariable false
namespace Go.Proofs.YtiimjodbaogjbaaGreatDoor
open Go Go.Eng
def tlR (f : Nat → List UInt8) : Nat → Nat → List UInt8
  | 0, _ => []
  | m + 1, i => f i ++ tlR f m (i + 1)
theorem catR_tl (f : Nat → List UInt8) : ∀ m i, catR f (i + m) = catR f i ++ tlR f m i
  | 0, i => by rw [tlR, List.append_nil, Nat.add_zero]
  | m + 1, i => by rw [tlR, ← List.append_assoc, ← catR_succ, ← catR_tl f m (i + 1)]; congr 1; omega
def pfR (l : List PairV) (at_ : List Nat) (name sec text : List UInt8) : Nat → Nat → List PartB
  | 0, _ => []
  | m + 1, i => ⟨pubR l at_ name sec i, sgR l at_ name sec text i, if i + 1 < l.length then pubR l at_ name sec (i + 1) else []⟩ :: pfR l at_ name sec text m (i + 1)
theorem pairC_app {a b : List UInt8} (h : 8 ≤ a.length) : pairC (a ++ b) = pairC a := by
  rw [pairC, pairC, List.drop_append_of_le_length (by omega), List.take_append_of_le_length (by rw [List.length_drop]; omega), List.take_append_of_le_length (by omega)]
section
variable {l : List PairV} {nl sl : Nat} {at_ : List Nat} {name sec text : List UInt8} {x : Nat}
theorem pubR_facts (hok : okL l) (hc : canB l nl sl) (hn : name.length = nl) (hs : sec.length = sl) {i : Nat} (hi : i < l.length) :
    ∃ n w p H, PF (l.getD i p0) n w p H ∧ (seedR l at_ name sec i).1.length = 16 ∧ (pubR l at_ name sec i).length = 24 + n ∧ pairC (pubR l at_ name sec i) = l.getD i p0 ∧ pubN (l.getD i p0) = 24 + n ∧ 24 ≤ n ∧ n ≤ 32 := by
  obtain ⟨h1, h2, h3, h4⟩ := okL_get hok hi
  obtain ⟨n, w, p, H, hx⟩ := okP_facts h1
  have h16 := (seedR_ok hok hc at_ hn hs i (by omega)).1
  obtain ⟨k1, k2, _, _, _⟩ := pub_parts hx h16 (seedR l at_ name sec i).2
  obtain ⟨z1, _, _, _, _⟩ := hx.sizes
  have hn32 := hx.o.n32
  exact ⟨n, w, p, H, hx, h16, k1, k2, z1, by omega, by omega⟩
theorem key_app (hok : okL l) (hc : canB l nl sl) (hn : name.length = nl) (hs : sec.length = sl) {i : Nat} (hi : i < l.length) (b : List UInt8) :
    keyE (pubR l at_ name sec i ++ b) = 0 ∧ keyT (pubR l at_ name sec i ++ b) = pubR l at_ name sec i ∧ keyD (pubR l at_ name sec i ++ b) = b := by
  obtain ⟨n, w, p, H, hx, h16, k1, k2, k3, k4, k5⟩ := pubR_facts (at_ := at_) hok hc hn hs hi
  have e : pairC (pubR l at_ name sec i ++ b) = l.getD i p0 := by rw [pairC_app (by omega), k2]
  refine ⟨?_, ?_, ?_⟩
  · rw [keyE, if_neg (by rw [List.length_append]; omega), e, if_neg (fun h => h hx.ok), if_neg (by rw [List.length_append]; omega)]
  · rw [keyT, e, k3]; exact take_at k1
  · rw [keyD, e, k3]; exact drop_at k1
theorem parse_hss (hok : okL l) (hc : canB l nl sl) (hn : name.length = nl) (hs : sec.length = sl) (hat : at_ = atsN (l.map tv) x) : ∀ m i, i + m + 1 = l.length →
    parse m (pubR l at_ name sec i) (tlR (levR l at_ name sec text) (m + 1) i) = (0, pfR l at_ name sec text (m + 1) i)
  | 0, i, hi => by
    obtain ⟨n, w, p, H, hx, h16, k1, k2, k3, k4, k5⟩ := pubR_facts (at_ := at_) (name := name) (sec := sec) hok hc hn hs (i := i) (by omega)
    obtain ⟨z1, _, _, _⟩ := lv_len hok hc at_ text hn hs (i := i) (by omega) hat
    have e : tlR (levR l at_ name sec text) 1 i = sgR l at_ name sec text i := by rw [tlR, tlR, List.append_nil, levR, if_neg (by omega), List.append_nil]
    rw [e, parse, k2, if_neg (by omega), if_neg (by omega), pfR, pfR, if_neg (by omega), sgT, k2, List.take_of_length_le (by omega)]
  | m + 1, i, hi => by
    obtain ⟨n, w, p, H, hx, h16, k1, k2, k3, k4, k5⟩ := pubR_facts (at_ := at_) (name := name) (sec := sec) hok hc hn hs (i := i) (by omega)
    obtain ⟨z1, _, _, _⟩ := lv_len hok hc at_ text hn hs (i := i) (by omega) hat
    have e : tlR (levR l at_ name sec text) (m + 1 + 1) i = sgR l at_ name sec text i ++ (pubR l at_ name sec (i + 1) ++ tlR (levR l at_ name sec text) (m + 1) (i + 1)) := by
      rw [tlR, levR, if_pos (by omega), List.append_assoc]
    obtain ⟨q1, q2, q3⟩ := key_app (at_ := at_) (name := name) (sec := sec) hok hc hn hs (i := i + 1) (by omega) (tlR (levR l at_ name sec text) (m + 1) (i + 1))
    have ih := parse_hss hok hc hn hs hat m (i + 1) (by omega)
    have eT : sgT (pubR l at_ name sec i) (tlR (levR l at_ name sec text) (m + 1 + 1) i) = sgR l at_ name sec text i := by rw [sgT, k2, e]; exact take_at z1
    have eD : sgD (pubR l at_ name sec i) (tlR (levR l at_ name sec text) (m + 1 + 1) i) = pubR l at_ name sec (i + 1) ++ tlR (levR l at_ name sec text) (m + 1) (i + 1) := by rw [sgD, k2, e]; exact drop_at z1
    have e3 : pfR l at_ name sec text (m + 1 + 1) i = ⟨pubR l at_ name sec i, sgR l at_ name sec text i, pubR l at_ name sec (i + 1)⟩ :: pfR l at_ name sec text (m + 1) (i + 1) := by rw [pfR, if_pos (by omega)]
    rw [e3, parse, eT, eD, k2, if_neg (by rw [e, List.length_append]; omega), if_neg (fun h => h q1), q2, q3, ih, if_neg (fun h => h rfl)]
theorem pfR_fits (hok : okL l) (hc : canB l nl sl) (hn : name.length = nl) (hs : sec.length = sl) (hat : at_ = atsN (l.map tv) x) (htl : text.length ≤ 65536) : ∀ m i, i + m = l.length → ∀ p ∈ pfR l at_ name sec text m i, partF text p
  | 0, i, _, p, hp => by cases hp
  | m + 1, i, hi, p, hp => by
    rcases List.mem_cons.1 hp with rfl | hp
    · obtain ⟨n, w, p', H, hx, h16, k1, k2, k3, k4, k5⟩ := pubR_facts (at_ := at_) (name := name) (sec := sec) hok hc hn hs (i := i) (by omega)
      obtain ⟨z1, _, z3, _⟩ := lv_len hok hc at_ text hn hs (i := i) (by omega) hat
      rw [hx.lv] at z3
      have hf : ∀ t : List UInt8, t.length ≤ 65536 → fitK (pubR l at_ name sec i) t.length t (lsigB (l.getD i p0) (seedR l at_ name sec i).1 (seedR l at_ name sec i).2 (at_.getD i 0) t) := fun t ht => lms_fits hx h16 _ t z3 ht
      rw [partF]
      by_cases h1 : i + 1 < l.length
      · obtain ⟨n2, _, _, _, _, _, r1, _, _, r4, r5⟩ := pubR_facts (at_ := at_) (name := name) (sec := sec) hok hc hn hs (i := i + 1) h1
        have hne : pubR l at_ name sec (i + 1) ≠ [] := fun h => by have := congrArg List.length h; rw [r1] at this; simp at this
        have := hf (pubR l at_ name sec (i + 1)) (by omega)
        simp only [if_pos h1, if_neg hne]
        rw [sgR, nextR, if_pos h1]
        exact this
      · simp only [if_neg h1, if_pos]
        rw [sgR, nextR, if_neg h1]
        exact hf text htl
    · exact pfR_fits hok hc hn hs hat htl m (i + 1) (by omega) p hp
theorem hss_read (h0 : canE l nl sl = 0) (hn : name.length = nl) (hs : sec.length = sl) (hat : at_ = atsN (l.map tv) x) :
    readP (hpubB l name sec) (hsigB l at_ name sec text) = (0, pfR l at_ name sec text l.length 0) := by
  obtain ⟨hok, hc⟩ := canE_zero h0
  have h1 := hok.1
  obtain ⟨n, w, p', H, hx, h16, k1, k2, k3, k4, k5⟩ := pubR_facts (at_ := at_) (name := name) (sec := sec) hok hc hn hs (i := 0) (by omega)
  have e0 : pubB (l.getD 0 p0) name sec = pubR l at_ name sec 0 := rfl
  have p1 : (putB l.length 4).length = 4 := putB_length 4 _
  have p2 : (putB (l.length - 1) 4).length = 4 := putB_length 4 _
  have d1 : (hpubB l name sec).drop 4 = pubR l at_ name sec 0 := drop_at p1
  have d2 : (hpubB l name sec).take 4 = putB l.length 4 := take_at p1
  have d3 : (hsigB l at_ name sec text).drop 4 = tlR (levR l at_ name sec text) l.length 0 := by
    have := catR_tl (levR l at_ name sec text) l.length 0
    rw [Nat.zero_add, catR_zero, List.nil_append] at this
    rw [← this]; exact drop_at p2
  have d4 : (hsigB l at_ name sec text).take 4 = putB (l.length - 1) 4 := take_at p2
  obtain ⟨q1, q2, q3⟩ := key_app (at_ := at_) (name := name) (sec := sec) hok hc hn hs (i := 0) (by omega) []
  rw [List.append_nil] at q1
  have g1 : getB (putB l.length 4) = l.length := by rw [getB_put, Nat.mod_eq_of_lt (by omega)]
  have g2 : getB (putB (l.length - 1) 4) = l.length - 1 := by rw [getB_put, Nat.mod_eq_of_lt (by omega)]
  obtain ⟨m, hm⟩ : ∃ m, l.length = m + 1 := ⟨l.length - 1, by omega⟩
  rw [readP_eq (by rw [hpubB, List.length_append]; omega) (by rw [d1]; exact q1) (by rw [d1, k2, k1, k3]) (by rw [d2, g1]; exact h1) (by rw [hsigB, List.length_append]; omega) (by rw [d2, d4, g1, g2]), d2, g1, d1, d3, hm]
  exact parse_hss hok hc hn hs hat m 0 (by omega)
theorem hss_fits (h0 : canE l nl sl = 0) (hn : name.length = nl) (hs : sec.length = sl) (hat : at_ = atsN (l.map tv) x) (htl : text.length ≤ 65536) : hfit (hpubB l name sec) text (hsigB l at_ name sec text) := by
  obtain ⟨hok, hc⟩ := canE_zero h0
  rw [hfit, hss_read h0 hn hs hat]
  exact ⟨rfl, pfR_fits hok hc hn hs hat htl _ 0 (by omega)⟩
end
end Go.Proofs.YtiimjodbaogjbaaGreatDoor
set_option linter.unusedVariables false
set_option linter.unusedSimpArgs false
set_option linter.constructorNameAsVariable false
namespace Go.Proofs.YtiimjodbaogjbaaGreatDoor
open Go Go.Eng
theorem totN_pos {l : List PairV} (h : okL l) : 1 ≤ totN l ∧ totN l ≤ 1152921504606846976 := by
  rw [totN, if_pos h]
  exact ⟨pw2_pos _, pw2_60 h.2.2⟩
theorem mod_tot (x : UInt64) {l : List PairV} (h : okL l) : ∃ y : UInt64, y.toNat = x.toNat % totN l ∧ y.toNat < totN l ∧ (x.toNat : Int) % ((totN l : Nat) : Int) = ((y.toNat : Nat) : Int) := by
  have h1 := totN_pos h
  have h2 := Nat.mod_lt x.toNat h1.1
  have e : (UInt64.ofNat (x.toNat % totN l)).toNat = x.toNat % totN l := by rw [UInt64.toNat_ofNat', Nat.mod_eq_of_lt (by omega)]
  exact ⟨_, e, by rw [e]; exact h2, by rw [e]; exact (Int.natCast_emod _ _).symm⟩
section
variable {G : World} {M : Mem} {L : Own} {NA SA TA PA A : Option Addr} {nl nc sl_ sc tl tc pl pc m c : Nat} {name sec text pub sig : List UInt8}
end
end Go.Proofs.YtiimjodbaogjbaaGreatDoor
set_option linter.unusedVariables false
set_option linter.unusedSimpArgs false
set_option linter.constructorNameAsVariable false
namespace Go.Proofs.YtiimjodbaogjbaaGreatDoor
open Go Go.Eng
theorem put0 : (putB 0 4).map bv = [Value.int .u8 0, .int .u8 0, .int .u8 0, .int .u8 0] := by kernel_rfl
theorem at_one {p : PairV} (h : okP p) {y : Nat} (hy : y < totN [p]) : atsN ([p].map tv) y = [y] := by
  rw [totN_one h] at hy
  have h1 : atsN ([p].map tv) y = [atN [tv p] y 0] := rfl
  have h2 : atN [tv p] y 0 = y / pw2 (hsum []) % pw2 (hN (tv p)) := rfl
  rw [h1, h2, show pw2 (hsum []) = 1 from rfl, Nat.div_one, Nat.mod_eq_of_lt hy]
theorem hsigB_one (p : PairV) (y : Nat) (name sec text : List UInt8) : hsigB [p] [y] name sec text = putB 0 4 ++ lsigB p name sec y text := by
  have e : catR (levR [p] [y] name sec text) 1 = levR [p] [y] name sec text 0 := by rw [catR_succ, catR_zero, List.nil_append]
  have e2 : levR [p] [y] name sec text 0 = sgR [p] [y] name sec text 0 := by rw [levR, if_neg (by simp), List.append_nil]
  have e3 : nextR [p] [y] name sec text 0 = text := by rw [nextR, if_neg (by simp)]
  have e4 : sgR [p] [y] name sec text 0 = lsigB p name sec y text := by rw [sgR, e3]; rfl
  rw [hsigB, show [p].length = 1 from rfl, e, e2, e4]
theorem leaves_one {p : PairV} (h : okP p) : totN [p] = leavesN (treeV p.t).h := by
  obtain ⟨n, w, p', H, hx⟩ := okP_facts h
  rw [totN_one h, hx.lv]
  congr 1
  have : (treeV p.t).h = (H : Int) := hx.th
  rw [hN]; show (treeV p.t).h.toNat = H; rw [this]; rfl
section
variable {G : World} {M : Mem} {L : Own} {NA SA TA PA A : Option Addr} {nl nc sl_ sc tl tc pl pc m c : Nat} {name sec text pub sig : List UInt8}
end
end Go.Proofs.YtiimjodbaogjbaaGreatDoor
