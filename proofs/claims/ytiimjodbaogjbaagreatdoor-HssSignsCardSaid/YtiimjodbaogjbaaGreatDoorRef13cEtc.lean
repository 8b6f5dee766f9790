/-
From a contract to a statement; what came in. What is listed of package-level variables.
-/
import Derived.Test.YtiimjodbaogjbaaGreatDoorHss9Etc
import Derived.Test.YtiimjodbaogjbaaGreatDoorRef12bEtc
import Derived.Test.YtiimjodbaogjbaaGreatDoorRef13Etc
import Derived.Test.YtiimjodbaogjbaaGreatDoorOctEtc
import Derived.Test.YtiimjodbaogjbaaGreatDoorRef9Etc
import Derived.Test.YtiimjodbaogjbaaGreatDoorOncePureEtc
import Derived.Test.YtiimjodbaogjbaaGreatDoorRef11Etc
import Derived.Test.YtiimjodbaogjbaaGreatDoorEngIEtc
import Derived.WalkKit
import Derived.ProofKit
import Derived.OpenShut
import Derived.ShutString
import Derived.ChangeOld
import Derived.Below
import Derived.Deep.Slices
import Derived.LaidMore
import Derived.LaidLaws
import Derived.MakeChecks
import Derived.Stop.Joined
import Derived.SevenTiedAt
import Derived.Test.YtiimjodbaogjbaaGreatDoorTypes1
import Derived.Test.YtiimjodbaogjbaaGreatDoorChecked
import Derived.Test.YtiimjodbaogjbaaGreatDoorRows
import Derived.ChangeSame
set_option linter.unusedVariables false
set_option linter.unusedSimpArgs false
set_option linter.constructorNameAsVariable false
namespace Go.Proofs.YtiimjodbaogjbaaGreatDoor
open Go Go.Eng
theorem cells_mono {M M' : Mem} {L : Own} {ad : Addr} {n : Nat} {vs : List Value} (hle : Le M M') (h : CellsN M L ad n vs) : CellsN M' L ad n vs := ⟨fun w hw => h.1 w ⟨fun b o hb => hw.ro b o (hle b o hb), hw.own⟩, h.2⟩
section
variable {G : World} {M : Mem} {L : Own} {NA SA TA : Option Addr} {nl nc sl_ sc tl tc : Nat} {name sec text : List UInt8}
theorem Rcan_spec {A : Option Addr} {n c : Nat} {l : List PairV} (h : Row M 2 A n c (prow l)) :
    Con Tryz.prog 117 #[.slice A n c, .agg (List.toArray (seedC NA nl nc SA sl_ sc))] G M L (fun v M' L' => M = M' ∧ L = L' ∧ v = .int .i64 (canE l nl sl_)) noPanic := by
  have hmx := h.max
  have hle := h.le
  have hln : l.length = n := by have := h.len; rw [prow, flat_len pcl] at this; omega
  refine enter (args := [_, _]) (fn := Tryz.f117) ⟨Tryz.func117, rfl, by kernel_rfl, by kernel_rfl⟩ 36 rfl <| zr <| tl_e rfl <| e_box rfl <| fun b1 => as0 rfl rfl <| zq <| zr2 <| mvS rfl rfl <| tl_e rfl <| e_call' rfl (RMay13_spec h) ?_
  rintro _ _ _ _ ⟨rfl, rfl, rfl⟩
  refine tl_y rfl (y_notd rfl) <| zq <| x_cond rfl (fun hc1 => ?_) (fun hc1 => ?_)
  ·
    refine zr <| as0 rfl rfl <| zq <| .s1 4 rfl <| x_ret (.then_ret (.dropTo L inferInstance (ret1 rfl rfl (Le.refl _) ⟨rfl, rfl, by rw [canE, if_pos hc1]⟩)))
  ·
    have hok : okL l := Classical.not_not.1 hc1
    refine x_skip <| .then_normal <| .s3 0 3 4 rfl rfl rfl <| zr2 <| as0 rfl rfl <| zq <| x_block ?_
    refine x_loop (I := fun m' F D M2 L2 => ∃ (k : Nat), m' = n - k ∧ k ≤ n ∧ M = M2 ∧ (∀ p ∈ l.take k, (tv p).h ≤ 10 ∧ okY (otsV p.o) nl sl_) ∧ D = [] ∧ (b1, .cells (List.toArray (seedC NA nl nc SA sl_ sc)) 49 (0, 0)) :: L = L2 ∧ F = [(0, .slice A n c), (3, .pointer (some ⟨b1, 0, none⟩)), (4, .int .i64 0), (5, .int .i64 k)]) (n) (F0 := [(0, _), (3, _), (4, _), (5, _)]) ?_ (.cons rfl (.cons rfl (.cons rfl (.cons rfl .nil)))) ?_  -- slots [0, 3, 4, 5], written [4, 5]
    · exact ⟨0, rfl, by omega, rfl, fun p hp => by simp at hp, rfl, rfl, rfl⟩
    rintro m _ _ M2 _ ⟨k, rfl, hk, rfl, hgd, rfl, rfl, rfl⟩
    refine zr2 <| mvI rfl rfl <| mvS rfl rfl <| tl_y rfl (y_len rfl) <| tl_y rfl (y_lss rfl rfl) <| zq <| x_cond rfl (fun hc2 => ?_) (fun hc2 => ?_)
    ·
      have hkn : k < n := by omega
      obtain ⟨p, hp⟩ : ∃ p, l[k]? = some p := ⟨_, List.getElem?_eq_getElem (by omega)⟩
      have hmem : p ∈ l := List.mem_of_getElem? hp
      have htk : l.take (k + 1) = l.take k ++ [p] := by
        rw [List.take_add_one, hp]; rfl
      obtain ⟨g, o, rfl, hcell⟩ := h.cellsN (by omega)
      have hc2 := fun L => hcell L (k * 2) 2 (by rw [prow, flat_len pcl]; omega)
      simp only [prow, flat_take pcl l k p hp] at hc2
      refine x_skip <| .then_normal <| .s4 0 3 4 5 rfl rfl rfl rfl <| x_seq <| x_block <| zr <| mvS rfl rfl <| mvI rfl rfl <| tl_y rfl (y_indexAddr rfl rfl (by omega)) <| tl_y rfl (y_loadAgg rfl rfl (.at_ (hc2 _) (by omega))) <| tl_e rfl <| e_call' rfl (RSets12_spec p) ?_
      rintro _ _ _ _ ⟨rfl, rfl, rfl⟩
      refine mvU rfl rfl <| zx rfl rfl <| zx rfl rfl <| zx rfl rfl <| tl_e rfl <| e_alloc <| fun b2 => tl_e rfl <| e_alloc <| fun b3 => tl_e rfl <| e_st rfl rfl (by rfl) (by rfl) <| tl_e rfl <| e_st rfl rfl (by rfl) (by rfl) <| asB rfl rfl <| zq ?_
      refine .s6 0 3 4 5 6 7 rfl rfl rfl rfl rfl rfl <| zr <| tl_y rfl (y_fieldAddr rfl) <| tl_y rfl (y_ld rfl rfl) ?_
      have hgt : decide ((treeV p.t).h > 10) = decide (¬ (tv p).h ≤ 10) := by rw [decide_eq_decide]; show (treeV p.t).h > 10 ↔ ¬ (treeV p.t).h ≤ 10; omega
      refine tl_y rfl (y_gtr rfl rfl) <| mvB rfl rfl <| tl_cases (s := 30) rfl (fun hk1 => ?_) (fun hk1 => ?_)
      ·
        refine tl_skip rfl <| tl_skip rfl <| tl_skip rfl <| tl_skip rfl <| tl_y rfl (y_pickT rfl rfl) <| zq <| .s5 0 3 4 5 35 rfl rfl rfl rfl rfl <| x_true rfl rfl <| zr <| as0 rfl rfl ?_
        refine zq <| x_ret (.block_ret (.then_ret (.loop_ret (.block_ret (.then_ret (.dropTo L inferInstance (ret1 rfl rfl (Le.refl _) ⟨rfl, rfl, by
          rw [canE, if_neg (fun h => h hok), if_pos (fun h => by have := (h p hmem).1; have h2 : (treeV p.t).h ≤ 10 := this; omega)]⟩)))))))
      ·
        refine tl_y rfl (y_lg rfl rfl) <| tl_y rfl (y_lg rfl rfl) <| tl_e rfl <| e_call' rfl (RoMay_spec (otsV p.o)) ?_
        rintro _ _ _ _ ⟨rfl, rfl, rfl⟩
        refine tl_y rfl (y_notd rfl) <| tl_y rfl (y_pickF rfl rfl) <| zq <| .s5 0 3 4 5 35 rfl rfl rfl rfl rfl <| x_cond rfl (fun hc3 => ?_) (fun hc3 => ?_)
        ·
          refine zr <| as0 rfl rfl <| zq <| x_ret (.block_ret (.then_ret (.loop_ret (.block_ret (.then_ret (.dropTo L inferInstance (ret1 rfl rfl (Le.refl _) ⟨rfl, rfl, by
            rw [canE, if_neg (fun h => h hok), if_pos (fun h => hc3 (h p hmem).2)]⟩)))))))
        ·
          refine x_skip <| .block_normal <| .then_normal <| x_region <| mvI rfl rfl <| tl_y rfl (y_addI rfl rfl (by omega)) <| asI rfl rfl <| .dropTo ((b1, .cells (List.toArray (seedC NA nl nc SA sl_ sc)) 49 (0, 0)) :: L) inferInstance <| tl_nil <| .loop_next (m' := n - (k + 1)) (by omega) (F' := [(0, _), (3, _), (4, _), (5, _)]) (.cons rfl (.cons rfl (.cons rfl (.cons rfl .nil)))) ?_
          exact ⟨k + 1, rfl, by omega, rfl, fun p' hp' => by
            rw [htk, List.mem_append, List.mem_singleton] at hp'
            rcases hp' with hp' | rfl
            · exact hgd p' hp'
            · exact ⟨by show (treeV p'.t).h ≤ 10; omega, Classical.not_not.1 hc3⟩, rfl, rfl, rfl⟩
    ·
      obtain rfl : k = n := by omega
      rw [List.take_of_length_le (by omega)] at hgd
      refine x_exit <| .then_exit <| .loop_exit <| .block_exit <| .then_normal <| .s0 <| zr <| as0 rfl rfl <| zq <| x_ret (.dropTo L inferInstance (ret1 rfl rfl (Le.refl _) ⟨rfl, rfl, by rw [canE_ok hok hgd]⟩))
theorem RPublic13_spec {A : Option Addr} {n c : Nat} {l : List PairV} (h : Row M 2 A n c (prow l)) (hname : Bytes M NA nl nc name) (hsec : Bytes M SA sl_ sc sec) :
  Con Tryz.prog 51 #[.slice A n c, .agg (List.toArray (seedC NA nl nc SA sl_ sc))] G M L (fun v M' L' => L' = L ∧ ∃ A m c, v = .tuple #[.slice A m c, .int .i64 (canE l nl sl_)] ∧ Bytes M' A m c (hpubV l nl sl_ name sec)) noPanic := by
 have hln : l.length = n := by have := h.len; rw [prow, flat_len pcl] at this; omega
 have hns := hname.size
 have hss := hsec.size
 refine enter (args := [_, _]) (fn := Tryz.f51) ⟨Tryz.func51, rfl, by kernel_rfl, by kernel_rfl⟩ 29 rfl <| zr <| tl_e rfl <| e_box rfl <| fun b1 => as0 rfl rfl <| as0 rfl rfl <| zq <| zr <| mvS rfl rfl <| tl_y rfl (y_lg rfl rfl) <| tl_e rfl <| e_call' rfl (Rcan_spec h) ?_
 rintro _ _ _ _ ⟨rfl, rfl, rfl⟩
 refine asI rfl rfl <| zq <| .s3 0 3 6 rfl rfl rfl <| zr2 <| mvI rfl rfl <| tl_y rfl (y_neq rfl rfl) <| zq <| x_cond rfl (fun hc1 => ?_) (fun hc1 => ?_)
 ·
  refine zr <| mvI rfl rfl <| as0 rfl rfl <| asI rfl rfl <| zq <| .s2 4 5 rfl rfl <| x_ret (.then_ret (.dropTo L inferInstance (ret2 rfl rfl rfl (Le.refl _) ⟨rfl, _, _, _, rfl, by rw [hpubV, if_neg (by omega)]; exact Row.nil _ _⟩)))
 ·
  have h0 : canE l nl sl_ = 0 := by omega
  obtain ⟨hok, hcan⟩ := canE_zero h0
  have hn8 := hok.1
  obtain ⟨hp0, hm0, he0, _⟩ := okL_get hok (i := 0) (by omega)
  have hmay : mayC (l.getD 0 p0) nl sl_ = 0 := by
   have := (seedR_may hok hcan [] hns hss (i := 0) (j := 0) (by omega) (by omega)).2
   rw [seedR, hns, hss] at this
   exact this
  obtain ⟨n', w', p', H', hx⟩ := okP_facts hp0
  have hn32 := hx.o.n32
  have hn16 : name.length = 16 := by rw [hns]; exact (hcan _ hm0).2.2.1
  obtain ⟨pp1, _, _, _, _⟩ := pub_parts hx hn16 sec
  obtain ⟨g, o, rfl, hcell⟩ := h.cellsN (by omega)
  have hc2 := fun L => hcell L (0 * 2) 2 (by rw [prow, flat_len pcl]; omega)
  simp only [prow, flat_take pcl l 0 _ he0] at hc2
  have he : Le M M := Le.refl _
  refine x_skip <| .then_normal <| x_seq <| x_draw 10 hmix rfl <| zp 0 rfl rfl (y_move (v := .slice _ _ _) rfl) <| zp 1 rfl rfl (y_indexAddr rfl rfl (by omega)) <| zy 2 rfl rfl (y_loadAgg rfl rfl (.at_ (hc2 _) (by omega))) <| zy 3 rfl rfl (y_lg rfl rfl) <| ze 4 rfl rfl <| e_call' rfl (RPublic_spec (l.getD 0 p0) hname hsec) ?_
  rintro _ M1 _ hM1 ⟨rfl, A1, m1, c1, rfl, hb1⟩
  rw [pubV, if_pos hmay] at hb1
  replace he := he.trans hM1
  have hs1 := hb1.size
  refine ⟨⟨(by first | exact Le.refl _ | assumption), Keeps.mem⟩, ?_⟩
  refine zp 5 rfl rfl (y_move (v := .tuple _) rfl) <| zp 6 rfl rfl (y_extract rfl) <| zp 7 rfl rfl (y_extract rfl) <| zp 8 rfl rfl (y_assign (v := .slice _ _ _) rfl) <| zp 9 rfl rfl (y_assign (v := .int _ _) rfl) <| zz <| .then_normal <| .s2 0 7 rfl rfl <| zr <| mvS rfl rfl <| tl_y rfl (y_len rfl) ?_
  refine tl_y rfl (y_convN64 rfl (by omega)) <| tl_e rfl <| e_call' rfl (RPutVO_spec n 4 (by omega) (by omega)) ?_
  rintro _ _ _ _ ⟨rfl, A2, c2, E2, rfl, hE2, rfl⟩
  refine mvS rfl rfl <| tl_e rfl <| e_append (by decide) rfl rfl hE2 (.row hb1) (all_one_bv _) (by omega) (by omega) <| fun A3 c3 E3 hE3 => ?_
  rw [← List.map_append] at hE3
  refine .pubRow hE3 <| fun M4 hM4 hr4 => asS rfl rfl <| as0 rfl rfl <| zq <| .s2 4 5 rfl rfl <| x_ret (.dropTo L inferInstance (ret2 rfl rfl rfl (hM1.trans hM4) ⟨rfl, _, _, _, by rw [h0], by rw [hpubV, if_pos h0, hpubB, hln]; exact hr4⟩))
theorem RSign13_spec {A : Option Addr} {n c : Nat} {pl : List PairV} (h : Row M 2 A n c (prow pl)) (hname : Bytes M NA nl nc name) (hsec : Bytes M SA sl_ sc sec) (x : UInt64) (htext : Bytes M TA tl tc text) :
    Con Tryz.prog 53 #[.slice A n c, .agg (List.toArray (seedC NA nl nc SA sl_ sc)), .int .u64 (x.toNat : Int), .slice TA tl tc] G M L (fun v M' L' => L' = L ∧ ∃ A m c, v = .tuple #[.slice A m c, .int .i64 (hsigE pl nl sl_ x.toNat tl)] ∧ Bytes M' A m c (hsigV pl nl sl_ x.toNat tl name sec text)) noPanic := by
  have hmx := h.max
  have hle := h.le
  have hln : pl.length = n := by have := h.len; rw [prow, flat_len pcl] at this; omega
  have hns := hname.size
  have hss := hsec.size
  have hts := htext.size
  refine enter (args := [_, _, _, _]) (fn := Tryz.f53) ⟨Tryz.func53, rfl, by kernel_rfl, by kernel_rfl⟩ 118 rfl <| zr <| tl_e rfl <| e_box rfl <| fun b1 => as0 rfl rfl <| as0 rfl rfl <| zq <| zr <| mvS rfl rfl <| tl_y rfl (y_lg rfl rfl) <| tl_e rfl <| e_call' rfl (Rcan_spec h) ?_
  rintro _ _ _ _ ⟨rfl, rfl, rfl⟩
  refine asI rfl rfl <| zq <| .s7 0 2 3 5 8 9 10 rfl rfl rfl rfl rfl rfl rfl <| zr2 <| mvI rfl rfl <| tl_y rfl (y_neq rfl rfl) <| zq <| x_cond rfl (fun hc1 => ?_) (fun hc1 => ?_)
  ·
    refine zr <| mvI rfl rfl <| as0 rfl rfl <| asI rfl rfl <| zq <| .s2 8 9 rfl rfl <| x_ret (.then_ret (.dropTo L inferInstance (ret2 rfl rfl rfl (Le.refl _) (by
      have e : hsigE pl nl sl_ x.toNat tl = canE pl nl sl_ := by rw [hsigE, if_pos (by omega)]
      exact ⟨rfl, _, _, _, by rw [e], by rw [hsigV, if_neg (by omega)]; exact Row.nil _ _⟩))))
  ·
    have h0 : canE pl nl sl_ = 0 := by omega
    obtain ⟨hok, hcan⟩ := canE_zero h0
    have hn8 := hok.1
    refine x_skip <| .then_normal <| zr2 <| mvS rfl rfl <| tl_y rfl (y_len rfl) <| tl_y rfl (y_gtr rfl rfl) <| zq <| .s7 0 2 3 5 8 9 31 rfl rfl rfl rfl rfl rfl rfl <| x_cond rfl (fun hc2 => ?_) (fun hc2 => ?_)
    ·
      refine zr <| as0 rfl rfl <| as0 rfl rfl <| zq <| .s2 8 9 rfl rfl <| x_ret (.then_ret (.dropTo L inferInstance (ret2 rfl rfl rfl (Le.refl _) (by
        have e : hsigE pl nl sl_ x.toNat tl = 1 := by rw [hsigE, if_neg (fun h => h h0), if_pos (by omega)]
        exact ⟨rfl, _, _, _, by rw [e], by rw [hsigV, if_neg (by omega)]; exact Row.nil _ _⟩))))
    ·
      have hEp : hsigE pl nl sl_ x.toNat tl = plE pl x.toNat := by rw [hsigE, if_neg (fun h => h h0), if_neg (by omega)]
      refine x_skip <| .then_normal <| zr <| mvS rfl rfl <| mvI rfl rfl <| tl_e rfl <| e_call' rfl (RPlaces_spec h x) ?_
      rintro _ M3 _ hM3 ⟨rfl, AT, na, ca, rfl, hat⟩
      refine mvU rfl rfl <| zx rfl rfl <| zx rfl rfl <| asS rfl rfl <| asI rfl rfl <| zq <| .s7 0 3 5 8 9 11 12 rfl rfl rfl rfl rfl rfl rfl <| zr2 <| mvI rfl rfl <| tl_y rfl (y_neq rfl rfl) ?_
      refine zq <| x_cond rfl (fun hc3 => ?_) (fun hc3 => ?_)
      ·
        refine zr <| mvI rfl rfl <| as0 rfl rfl <| asI rfl rfl <| zq <| .s2 8 9 rfl rfl <| x_ret (.then_ret (.dropTo L inferInstance (ret2 rfl rfl rfl hM3 ⟨rfl, _, _, _, by rw [hEp], by rw [hsigV, if_neg (by omega)]; exact Row.nil _ _⟩)))
      ·
        have hp0 : plE pl x.toNat = 0 := by omega
        have hE0 : hsigE pl nl sl_ x.toNat tl = 0 := by omega
        have hxt : x.toNat < totN pl := by
          rw [plE, if_pos hok] at hp0
          split at hp0
          · assumption
          · cases hp0
        rw [plV, if_pos ⟨hok, hxt⟩] at hat
        obtain ⟨at_, hatd⟩ : ∃ at_, at_ = atsN (pl.map tv) x.toNat := ⟨_, rfl⟩
        rw [← hatd] at hat
        have hal : at_.length = n := by rw [hatd, atsN_len, List.length_map, hln]
        have hna : n = na := by have := hat.len; simp [u32r] at this; omega
        subst hna
        refine x_skip <| .then_normal <| zr <| mvS rfl rfl <| tl_y rfl (y_len rfl) <| tl_y rfl (y_subI rfl rfl (by omega)) ?_
        rw [show ((n : Nat) : Int) - 1 = ((n - 1 : Nat) : Int) by omega]
        refine tl_y rfl (y_convN64 rfl (by omega)) <| tl_e rfl <| e_call' rfl (RPutVO_spec (n - 1) 4 (by omega) (by omega)) ?_
        rintro _ _ _ _ ⟨rfl, AP, cP, EP, rfl, hEP, rfl⟩
        refine asS rfl rfl <| zq <| .s7 0 3 5 8 9 11 13 rfl rfl rfl rfl rfl rfl rfl <| zr2 <| as0 rfl rfl <| zq <| x_block ?_
        refine x_loop (I := fun m' F D M6 L6 => ∃ (k no : Nat) (AO : Option Addr) (cO : Nat) (E : Own) (A1 : Option Addr) (n1 c1 : Nat) (A2 : Option Addr) (n2 c2 : Nat), m' = n - k ∧ k < n ∧ Le M3 M6 ∧ no ≤ 4 + k * 10100 ∧ OwnRow 5 1 AO no cO ((putB (n - 1) 4 ++ catR (levR pl at_ name sec text) k).map bv) E ∧ Bytes M6 A1 n1 c1 (seedR pl at_ name sec k).1 ∧ Bytes M6 A2 n2 c2 (seedR pl at_ name sec k).2 ∧ D = [] ∧ L6 = E ++ ((b1, .cells (List.toArray (seedC A1 n1 c1 A2 n2 c2)) 49 (0, 0)) :: L) ∧ F = [(0, .slice A n c), (3, .slice TA tl tc), (5, .pointer (some ⟨b1, 0, none⟩)), (8, .slice none 0 0), (9, .int .i64 0), (11, .slice AT n ca), (13, .slice AO no cO), (14, .int .i64 k)]) (n) (F0 := [(0, _), (3, _), (5, _), (8, _), (9, _), (11, _), (13, _), (14, _)]) ?_ (.cons rfl (.cons rfl (.cons rfl (.cons rfl (.cons rfl (.cons rfl (.cons rfl (.cons rfl .nil)))))))) ?_  -- slots [0, 3, 5, 8, 9, 11, 13, 14], written [8, 9, 13, 14]
        · exact ⟨0, 4, AP, cP, EP, _, _, _, _, _, _, rfl, by omega, Le.refl _, by omega, by rw [catR_zero, List.append_nil]; exact hEP, hname.mono hM3, hsec.mono hM3, rfl, rfl, rfl⟩
        rintro m _ _ M6 _ ⟨k, no, AO, cO, E, A1, n1, c1, A2, n2, c2, rfl, hk, hM6, hno, hE, hb1, hb2, rfl, rfl, rfl⟩
        refine zr2 <| mvI rfl rfl <| mvS rfl rfl <| tl_y rfl (y_len rfl) <| tl_y rfl (y_lss rfl rfl) <| zq <| x_cond rfl (fun hc4 => ?_) (fun hc4 => ?_)
        ·
          have hkn : k < n := by omega
          have hd6 := hM3.trans hM6
          have hs1 := hb1.size
          have hs2 := hb2.size
          obtain ⟨z1, z2, z3, z4⟩ := lv_len hok hcan at_ text hns hss (i := k) (by omega) hatd
          obtain ⟨hy1, hy2⟩ := seedR_may hok hcan at_ hns hss (i := k) (j := k) (by omega) (by omega)
          rw [hs1, hs2] at hy2
          obtain ⟨q, hq⟩ : ∃ q : UInt32, q.toNat = at_.getD k 0 := ⟨UInt32.ofNat (at_.getD k 0), by rw [UInt32.toNat_ofNat', Nat.mod_eq_of_lt (by omega)]⟩
          rw [← hq] at z3
          have haq : at_[k]? = some q.toNat := by rw [hq, List.getD_eq_getElem?_getD, List.getElem?_eq_getElem (by omega)]; rfl
          have hp : pl[k]? = some (pl.getD k p0) := (okL_get hok (i := k) (by omega)).2.2.1
          obtain ⟨g, o, rfl, hcell⟩ := (h.mono hd6).cellsN (by omega)
          have hc2 := fun L => hcell L (k * 2) 2 (by rw [prow, flat_len pcl]; omega)
          simp only [prow, flat_take pcl pl k _ hp] at hc2
          obtain ⟨g2, o2, rfl, hcell2⟩ := (hat.mono hM6).addr (by omega)
          have hsg : lsigB (pl.getD k p0) (seedR pl at_ name sec k).1 (seedR pl at_ name sec k).2 q.toNat (nextR pl at_ name sec text k) = sgR pl at_ name sec text k := by rw [sgR, hq]
          have he : Le M6 M6 := Le.refl _
          refine x_skip <| .then_normal <| .s8 0 3 5 8 9 11 13 14 rfl rfl rfl rfl rfl rfl rfl rfl <| x_seq <| x_block <| zr2 <| mvI rfl rfl <| tl_y rfl (y_addI rfl rfl (by omega)) <| mvS rfl rfl <| tl_y rfl (y_len rfl) <| tl_y rfl (y_eql rfl rfl) ?_
          refine zq <| .sub (F' := [(0, _), (3, _), (5, _), (8, _), (9, _), (11, _), (13, _), (14, _), (56, _)]) (.cons rfl (.cons rfl (.cons rfl (.cons rfl (.cons rfl (.cons rfl (.cons rfl (.cons rfl (.cons rfl .nil))))))))) <| x_cond rfl (fun hc5 => ?_) (fun hc5 => ?_)
          ·
            have hk1 : k + 1 = n := by omega
            have hnx : nextR pl at_ name sec text k = text := by rw [nextR, if_neg (by omega)]
            have hlv : levR pl at_ name sec text k = sgR pl at_ name sec text k := by rw [levR, if_neg (by omega), List.append_nil]
            have hE1 : lsigE (pl.getD k p0) n1 n2 q.toNat tl = 0 := by rw [lsigE, if_neg (fun h => h hy2), if_neg (by omega), if_neg (by omega)]
            refine x_seq <| x_draw 16 hmix rfl <| zp 0 rfl rfl (y_move (v := .slice _ _ _) rfl) <| zp 1 rfl rfl (y_move (v := .int _ _) rfl) <| zp 2 rfl rfl (y_indexAddr rfl rfl (by omega)) <| zy 3 rfl rfl (y_loadAgg rfl rfl (.at_ (hc2 _) (by omega))) <| zy 4 rfl rfl (y_lg rfl rfl) <| zp 5 rfl rfl (y_move (v := .slice _ _ _) rfl) <| zp 6 rfl rfl (y_move (v := .int _ _) rfl) <| zp 7 rfl rfl (y_indexAddr rfl rfl (by omega)) ?_
            refine zy 8 rfl rfl (y_load rfl rfl (.at_ (hcell2 _ k _ (u32r_get haq)) (by omega))) <| zp 9 rfl rfl (y_move (v := .slice _ _ _) rfl) <| ze 10 rfl rfl <| e_call' rfl (RSign_spec (pl.getD k p0) hb1 hb2 q (htext.mono hd6)) ?_
            rintro _ M8 _ hM8 ⟨rfl, A8, n8, c8, rfl, hb8⟩
            rw [lsigV, if_pos hE1, ← hnx, hsg, ← hlv] at hb8
            have hs8 := hb8.size
            rw [hlv] at hs8
            replace he := he.trans hM8
            refine ⟨⟨(by first | exact Le.refl _ | assumption), Keeps.mem⟩, ?_⟩
            refine zp 11 rfl rfl (y_move (v := .tuple _) rfl) <| zp 12 rfl rfl (y_extract rfl) <| zp 13 rfl rfl (y_extract rfl) <| zp 14 rfl rfl (y_assign (v := .slice _ _ _) rfl) <| zp 15 rfl rfl (y_assign (v := .int _ _) rfl) <| zz <| .then_normal <| .sub (F' := [(0, _), (3, _), (5, _), (8, _), (9, _), (11, _), (13, _), (14, _), (15, _)]) (.cons rfl (.cons rfl (.cons rfl (.cons rfl (.cons rfl (.cons rfl (.cons rfl (.cons rfl (.cons rfl .nil))))))))) ?_
            refine zr <| mvS rfl rfl <| mvS rfl rfl <| .bringE E inferInstance <| tl_e rfl <| e_append (by decide) rfl rfl hE (.row hb8) (all_one_bv _) (by omega) (by omega) <| fun A9 c9 E9 hE9 => ?_
            rw [← List.map_append, List.append_assoc, ← catR_succ, hk1] at hE9
            refine .pubRow hE9 <| fun M9 hM9 hr9 => asS rfl rfl <| as0 rfl rfl <| zq <| .s8 0 3 5 8 9 11 13 14 rfl rfl rfl rfl rfl rfl rfl rfl <| x_ret (.then_ret (.block_ret (.then_ret (.loop_ret (.block_ret (.then_ret (.dropTo L inferInstance (ret2 rfl rfl rfl (hd6.trans (hM8.trans hM9)) ⟨rfl, _, _, _, by rw [hE0], by rw [hsigV, if_pos hE0, hsigB, hln, ← hatd]; exact hr9⟩))))))))
          ·
            have hk1 : k + 1 < n := by omega
            have hbel := seedR_bel hok hcan at_ hns hss (i := k) (by omega)
            rw [hs1, hs2] at hbel
            have hp1 : pl[k + 1]? = some (pl.getD (k + 1) p0) := (okL_get hok (i := k + 1) (by omega)).2.2.1
            have hc3 := fun L => hcell L ((k + 1) * 2) 2 (by rw [prow, flat_len pcl]; omega)
            simp only [prow, flat_take pcl pl (k + 1) _ hp1] at hc3
            have hnx : nextR pl at_ name sec text k = pubR pl at_ name sec (k + 1) := by rw [nextR, if_pos (by omega)]
            have hlv : levR pl at_ name sec text k = sgR pl at_ name sec text k ++ pubR pl at_ name sec (k + 1) := by rw [levR, if_pos (by omega)]
            refine x_skip <| .then_normal <| x_seq <| x_meet (I := fun F D M7 L7 => ∃ (b2 : Nat) (y z : SlV), Le M6 M7 ∧ Bytes M7 y.a y.n y.c (seedR pl at_ name sec (k + 1)).1 ∧ Bytes M7 z.a z.n z.c (seedR pl at_ name sec (k + 1)).2 ∧ D = [] ∧ L7 = (b2, .cells (List.toArray (seedC y.a y.n y.c z.a z.n z.c)) 49 (0, 0)) :: (E ++ ((b1, .cells (List.toArray (seedC A1 n1 c1 A2 n2 c2)) 49 (0, 0)) :: L)) ∧ F = [(0, .slice (some ⟨g, o, none⟩) n c), (3, .slice TA tl tc), (5, .pointer (some ⟨b1, 0, none⟩)), (8, .slice none 0 0), (9, .int .i64 0), (11, .slice (some ⟨g2, o2, none⟩) n ca), (13, .slice AO no cO), (14, .int .i64 k), (17, .pointer (some ⟨b2, 0, none⟩))]) ?_ (fun Jd16 => ?_)
            ·
              rintro _ _ M7 _ ⟨b2, y, z, hM7, hby, hbz, rfl, rfl, rfl⟩  -- slots [0, 3, 5, 8, 9, 11, 13, 14, 17]
              refine x_seq <| x_draw 12 hmix rfl ?_
              have hd7 := hd6.trans hM7
              have hc3' := fun L => cells_mono hM7 (hc3 L)
              have hc2' := fun L => cells_mono hM7 (hc2 L)
              have hsy := hby.size
              have hsz := hbz.size
              obtain ⟨hy3, hy4⟩ := seedR_may hok hcan at_ hns hss (i := k + 1) (j := k + 1) (by omega) (by omega)
              rw [hsy, hsz] at hy4
              obtain ⟨n', w', p', H', hx'⟩ := okP_facts (okL_get hok (i := k + 1) (by omega)).1
              have hn32 := hx'.o.n32
              obtain ⟨pp1, _, _, _, _⟩ := pub_parts hx' ((seedR_ok hok hcan at_ hns hss (k + 1) (by omega)).1) (seedR pl at_ name sec (k + 1)).2
              have hf : Le M7 M7 := Le.refl _
              refine zp 0 rfl rfl (y_move (v := .slice _ _ _) rfl) <| zp 1 rfl rfl (y_move (v := .int _ _) rfl) <| zp 2 rfl rfl (y_addI rfl rfl (by omega)) <| zp 3 rfl rfl (y_indexAddr rfl rfl (by omega)) <| zy 4 rfl rfl (y_loadAgg rfl rfl (.at_ (hc3' _) (by omega))) <| zy 5 rfl rfl (y_lg rfl rfl) <| ze 6 rfl rfl <| e_call' rfl (RPublic_spec (pl.getD (k + 1) p0) hby hbz) ?_
              rintro _ M8 _ hM8 ⟨rfl, A8, m8, c8, rfl, hb8⟩
              rw [pubV, if_pos hy4, ← pubR] at hb8
              replace hf := hf.trans hM8
              have hs8 := hb8.size
              rw [pubR, pp1] at hs8
              have hE1 : lsigE (pl.getD k p0) n1 n2 q.toNat m8 = 0 := by rw [lsigE, if_neg (fun h => h hy2), if_neg (by omega), if_neg (by omega)]
              refine ⟨⟨hf, Keeps.mem⟩, ?_⟩
              refine zp 7 rfl rfl (y_move (v := .tuple _) rfl) <| zp 8 rfl rfl (y_extract rfl) <| zp 9 rfl rfl (y_extract rfl) <| zp 10 rfl rfl (y_assign (v := .slice _ _ _) rfl) <| zp 11 rfl rfl (y_assign (v := .int _ _) rfl) <| zz <| .then_normal <| .sub (F' := [(0, _), (3, _), (5, _), (8, _), (9, _), (11, _), (13, _), (14, _), (17, _), (19, _)]) (.cons rfl (.cons rfl (.cons rfl (.cons rfl (.cons rfl (.cons rfl (.cons rfl (.cons rfl (.cons rfl (.cons rfl .nil)))))))))) ?_
              refine x_seq ?_
              have hc2'' := fun L => cells_mono hM8 (hc2' L)
              obtain ⟨g3, o3, e3, hcell3⟩ := (hat.mono ((hM6.trans hM7).trans hM8)).addr (by omega)
              obtain ⟨rfl, rfl⟩ : g2 = g3 ∧ o2 = o3 := by simp at e3; omega
              have hf8 : Le M8 M8 := Le.refl _
              refine x_draw 16 hmix rfl <| zp 0 rfl rfl (y_move (v := .slice _ _ _) rfl) <| zp 1 rfl rfl (y_move (v := .int _ _) rfl) <| zp 2 rfl rfl (y_indexAddr rfl rfl (by omega)) <| zy 3 rfl rfl (y_loadAgg rfl rfl (.at_ (hc2'' _) (by omega))) <| zy 4 rfl rfl (y_lg rfl rfl) <| zp 5 rfl rfl (y_move (v := .slice _ _ _) rfl) <| zp 6 rfl rfl (y_move (v := .int _ _) rfl) <| zp 7 rfl rfl (y_indexAddr rfl rfl (by omega)) <| zy 8 rfl rfl (y_load rfl rfl (.at_ (hcell3 _ k _ (u32r_get haq)) (by omega))) ?_
              refine zp 9 rfl rfl (y_move (v := .slice _ _ _) rfl) <| ze 10 rfl rfl <| e_call' rfl (RSign_spec (pl.getD k p0) ((hb1.mono hM7).mono hM8) ((hb2.mono hM7).mono hM8) q hb8) ?_
              rintro _ M9 _ hM9 ⟨rfl, A9, n9, c9, rfl, hb9⟩
              rw [lsigV, if_pos hE1, ← hnx, hsg] at hb9
              have hs9 := hb9.size
              replace hf8 := hf8.trans hM9
              refine ⟨⟨hf8, Keeps.mem⟩, ?_⟩
              refine zp 11 rfl rfl (y_move (v := .tuple _) rfl) <| zp 12 rfl rfl (y_extract rfl) <| zp 13 rfl rfl (y_extract rfl) <| zp 14 rfl rfl (y_assign (v := .slice _ _ _) rfl) <| zp 15 rfl rfl (y_assign (v := .int _ _) rfl) <| zz <| .then_normal <| .sub (F' := [(0, _), (3, _), (5, _), (8, _), (9, _), (11, _), (13, _), (14, _), (17, _), (19, _), (21, _)]) (.cons rfl (.cons rfl (.cons rfl (.cons rfl (.cons rfl (.cons rfl (.cons rfl (.cons rfl (.cons rfl (.cons rfl (.cons rfl .nil))))))))))) ?_
              refine zr <| mvS rfl rfl <| mvS rfl rfl <| .bringE E inferInstance <| tl_e rfl <| e_append (by decide) rfl rfl hE (.row hb9) (all_one_bv _) (by omega) (by omega) <| fun A10 c10 E10 hE10 => mvS rfl rfl <| tl_e rfl <| e_append (by decide) rfl rfl hE10 (.row (hb8.mono hM9)) (all_one_bv _) (by omega) (by omega) <| fun A11 c11 E11 hE11 => ?_
              rw [← List.map_append, ← List.map_append, List.append_assoc, List.append_assoc, ← hlv, ← catR_succ] at hE11
              refine asS rfl rfl <| zq <| .sub (F' := [(0, _), (3, _), (5, _), (8, _), (9, _), (11, _), (13, _), (14, _), (17, _)]) (.cons rfl (.cons rfl (.cons rfl (.cons rfl (.cons rfl (.cons rfl (.cons rfl (.cons rfl (.cons rfl .nil))))))))) <| x_region <| tl_y rfl (y_lg rfl rfl) <| tl_e rfl <| e_st rfl rfl (by rfl) (by rfl) <| tl_nil <| .block_normal <| .then_normal <| x_region <| mvI rfl rfl <| tl_y rfl (y_addI rfl rfl (by omega)) ?_
              refine asI rfl rfl <| .dropTo (E11 ++ ((b1, .cells (List.toArray (seedC y.a y.n y.c z.a z.n z.c)) 49 (0, 0)) :: L)) inferInstance <| tl_nil <| .loop_next (m' := n - (k + 1)) (by omega) (F' := [(0, _), (3, _), (5, _), (8, _), (9, _), (11, _), (13, _), (14, _)]) (.cons rfl (.cons rfl (.cons rfl (.cons rfl (.cons rfl (.cons rfl (.cons rfl (.cons rfl .nil)))))))) ?_
              exact ⟨k + 1, _, A11, c11, E11, _, _, _, _, _, _, rfl, by omega, hM6.trans (hM7.trans (hM8.trans hM9)), by omega, hE11, (hby.mono hM8).mono hM9, (hbz.mono hM8).mono hM9, rfl, rfl, rfl⟩
            ·
              refine x_draw 14 hmix rfl <| zp 0 rfl rfl (y_move (v := .slice _ _ _) rfl) <| zp 1 rfl rfl (y_move (v := .int _ _) rfl) <| zp 2 rfl rfl (y_indexAddr rfl rfl (by omega)) <| zy 3 rfl rfl (y_loadAgg rfl rfl (.at_ (hc2 _) (by omega))) <| zy 4 rfl rfl (y_lg rfl rfl) <| zp 5 rfl rfl (y_move (v := .slice _ _ _) rfl) <| zp 6 rfl rfl (y_move (v := .int _ _) rfl) <| zp 7 rfl rfl (y_indexAddr rfl rfl (by omega)) <| zy 8 rfl rfl (y_load rfl rfl (.at_ (hcell2 _ k _ (u32r_get haq)) (by omega))) ?_
              refine to_two 9 13 (by kernel_rfl) ?_ ?_
              ·
                refine two_e 9 rfl rfl <| e_call' rfl (RBelow_spec (pl.getD k p0) hb1 hb2 q) ?_
                rintro _ M7 _ hM7 ⟨rfl, y, z, rfl, hby, hbz⟩
                rw [belNV, if_pos hbel, hq] at hby
                rw [belSV, if_pos hbel, hq] at hbz
                replace he := he.trans hM7
                refine ⟨⟨he, Keeps.mem⟩, ?_⟩
                refine zp 10 rfl rfl (y_move (v := .tuple _) rfl) <| zp 11 rfl rfl (y_extract rfl) <| zp 12 rfl rfl (y_extract rfl) <| ze 13 rfl rfl <| e_alloc <| fun b2 => ⟨⟨he, Keeps.mem⟩, ?_⟩
                refine zt 14 rfl rfl <| e_st rfl rfl (by rfl) (by rfl) <| zp 15 rfl rfl (y_assign (v := .int _ _) rfl) <| zz <| .then_normal <| .sub (F' := [(0, _), (3, _), (5, _), (8, _), (9, _), (11, _), (13, _), (14, _), (17, _)]) (.cons rfl (.cons rfl (.cons rfl (.cons rfl (.cons rfl (.cons rfl (.cons rfl (.cons rfl (.cons rfl .nil))))))))) <| Jd16 _ _ _ _ ?_
                exact ⟨_, y, z, he, hby, hbz, rfl, rfl, rfl⟩
              ·
                refine two_e 13 rfl rfl <| e_alloc <| fun b3 => ⟨⟨he, Keeps.mem⟩, ?_⟩
                refine ze 9 rfl rfl <| e_call' rfl (RBelow_spec (pl.getD k p0) hb1 hb2 q) ?_
                rintro _ M7 _ hM7 ⟨rfl, y, z, rfl, hby, hbz⟩
                rw [belNV, if_pos hbel, hq] at hby
                rw [belSV, if_pos hbel, hq] at hbz
                replace he := he.trans hM7
                refine ⟨⟨he, Keeps.mem⟩, ?_⟩
                refine zp 10 rfl rfl (y_move (v := .tuple _) rfl) <| zp 11 rfl rfl (y_extract rfl) <| zp 12 rfl rfl (y_extract rfl) <| zt 14 rfl rfl <| e_st rfl rfl (by rfl) (by rfl) <| zp 15 rfl rfl (y_assign (v := .int _ _) rfl) <| zz <| .then_normal <| .sub (F' := [(0, _), (3, _), (5, _), (8, _), (9, _), (11, _), (13, _), (14, _), (17, _)]) (.cons rfl (.cons rfl (.cons rfl (.cons rfl (.cons rfl (.cons rfl (.cons rfl (.cons rfl (.cons rfl .nil))))))))) <| Jd16 _ _ _ _ ?_
                exact ⟨_, y, z, he, hby, hbz, rfl, rfl, rfl⟩
        ·
          exact absurd hk (by omega)
end
end Go.Proofs.YtiimjodbaogjbaaGreatDoor
set_option linter.unusedVariables false
set_option linter.unusedSimpArgs false
set_option linter.constructorNameAsVariable false
namespace Go.Proofs.YtiimjodbaogjbaaGreatDoor
open Go Go.Eng
section
variable {G : World} {M : Mem} {L : Own} {NA SA TA : Option Addr} {nl nc sl_ sc tl tc : Nat} {name sec text : List UInt8}
theorem RLight13_spec {A : Option Addr} {n c : Nat} {l : List PairV} (h : Row M 2 A n c (prow l)) :
    Con Tryz.prog 49 #[.slice A n c] G M L (fun v M' L' => M = M' ∧ L = L' ∧ ∃ b : Bool, v = .bool b ∧ (b = true → n ≤ 100)) noPanic := by
  have hmx := h.max
  have hle := h.le
  have hln : l.length = n := by have := h.len; rw [prow, flat_len pcl] at this; omega
  refine enter (args := [_]) (fn := Tryz.f49) ⟨Tryz.func49, rfl, by kernel_rfl, by kernel_rfl⟩ 26 rfl <| zr <| as0 rfl rfl <| zq <| zr2 <| mvS rfl rfl <| tl_y rfl (y_len rfl) <| tl_y rfl (y_gtr rfl rfl) <| zq <| x_cond rfl (fun hc1 => ?_) (fun hc1 => ?_)
  ·
    refine zr <| as0 rfl rfl <| zq <| .s1 2 rfl <| x_ret (.then_ret (ret1 rfl rfl (Le.refl _) ⟨rfl, rfl, _, rfl, fun h => by cases h⟩))
  ·
    refine x_skip <| .then_normal <| zr2 <| mvS rfl rfl <| tl_e rfl <| e_call' rfl (RMay13_spec h) ?_
    rintro _ _ _ _ ⟨rfl, rfl, rfl⟩
    refine tl_y rfl (y_notd rfl) <| zq <| .s3 0 2 9 rfl rfl rfl <| x_cond rfl (fun hc2 => ?_) (fun hc2 => ?_)
    ·
      refine zr <| as0 rfl rfl <| zq <| x_ret (.then_ret (ret1 rfl rfl (Le.refl _) ⟨rfl, rfl, _, rfl, fun h => by omega⟩))
    ·
      refine x_skip <| .then_normal <| zr2 <| as0 rfl rfl <| zq <| x_block ?_
      refine x_loop (I := fun m' F D M1 L1 => ∃ k : Nat, m' = n - k ∧ k ≤ n ∧ D = [] ∧ M = M1 ∧ L = L1 ∧ F = [(0, .slice A n c), (2, .bool false), (3, .int .i64 k)]) (n) (F0 := [(0, _), (2, _), (3, _)]) ?_ (.cons rfl (.cons rfl (.cons rfl .nil))) ?_  -- slots [0, 2, 3], written [2, 3]
      · exact ⟨0, rfl, by omega, rfl, rfl, rfl, rfl⟩
      rintro m _ _ _ _ ⟨k, rfl, hk, rfl, rfl, rfl, rfl⟩
      refine zr2 <| mvI rfl rfl <| mvS rfl rfl <| tl_y rfl (y_len rfl) <| tl_y rfl (y_lss rfl rfl) <| zq <| x_cond rfl (fun hc3 => ?_) (fun hc3 => ?_)
      ·
        have hkn : k < n := by omega
        obtain ⟨p, hp⟩ : ∃ p, l[k]? = some p := ⟨_, List.getElem?_eq_getElem (by omega)⟩
        obtain ⟨g, o, rfl, hcell⟩ := h.cellsN (by omega)
        have hc2 := fun L => hcell L (k * 2) 2 (by rw [prow, flat_len pcl]; omega)
        simp only [prow, flat_take pcl l k p hp] at hc2
        refine x_skip <| .then_normal <| .s3 0 2 3 rfl rfl rfl <| x_seq <| x_block <| zr <| mvS rfl rfl <| mvI rfl rfl <| tl_y rfl (y_indexAddr rfl rfl (by omega)) <| tl_y rfl (y_loadAgg rfl rfl (.at_ (hc2 _) (by omega))) <| tl_e rfl <| e_call' rfl (RLight_spec p) ?_
        rintro _ _ _ _ ⟨rfl, rfl, rfl⟩
        refine tl_y rfl (y_notd rfl) <| mvB rfl rfl <| tl_cases (s := 22) rfl (fun hk1 => ?_) (fun hk1 => ?_)
        ·
          refine tl_skip rfl <| tl_skip rfl <| tl_y rfl (y_pickT rfl rfl) <| zq <| .s4 0 2 3 25 rfl rfl rfl rfl <| x_true rfl rfl <| zr <| as0 rfl rfl <| zq <| x_ret (.block_ret (.then_ret (.loop_ret (.block_ret (.then_ret (ret1 rfl rfl (Le.refl _) ⟨rfl, rfl, _, rfl, fun h => by cases h⟩))))))
        ·
          refine mvI rfl rfl <| tl_y rfl (y_geq rfl rfl) <| tl_y rfl (y_pickF rfl rfl) <| zq <| .s4 0 2 3 25 rfl rfl rfl rfl <| x_cond rfl (fun hc4 => ?_) (fun hc4 => ?_)
          ·
            refine zr <| as0 rfl rfl <| zq <| x_ret (.block_ret (.then_ret (.loop_ret (.block_ret (.then_ret (ret1 rfl rfl (Le.refl _) ⟨rfl, rfl, _, rfl, fun h => by cases h⟩))))))
          ·
            refine x_skip <| .block_normal <| .then_normal <| x_region <| mvI rfl rfl <| tl_y rfl (y_addI rfl rfl (by omega)) <| asI rfl rfl <| tl_nil <| .loop_next (m' := n - (k + 1)) (by omega) (F' := [(0, _), (2, _), (3, _)]) (.cons rfl (.cons rfl (.cons rfl .nil))) ?_
            exact ⟨k + 1, rfl, by omega, rfl, rfl, rfl, rfl⟩
      ·
        refine x_exit <| .then_exit <| .loop_exit <| .block_exit <| .then_normal <| .s0 <| zr <| as0 rfl rfl <| zq <| x_ret (ret1 rfl rfl (Le.refl _) ⟨rfl, rfl, _, rfl, fun h => by omega⟩)
end
end Go.Proofs.YtiimjodbaogjbaaGreatDoor
set_option linter.unusedVariables false
set_option linter.unusedSimpArgs false
set_option linter.constructorNameAsVariable false
namespace Go.Proofs.YtiimjodbaogjbaaGreatDoor
open Go Go.Eng
section
variable {G : World} {M : Mem} {L : Own} {NA SA TA PA A : Option Addr} {nl nc sl_ sc tl tc pl pc m c : Nat} {name sec text pub sig : List UInt8}
theorem HssSigns_spec (hg : LmG M) {A : Option Addr} {n c : Nat} {pl : List PairV} (h : Row M 2 A n c (prow pl)) (hname : Bytes M NA nl nc name) (hsec : Bytes M SA sl_ sc sec) (x : UInt64) (htext : Bytes M TA tl tc text) :
  Con Tryz.prog 11 #[.slice A n c, .agg (List.toArray (seedC NA nl nc SA sl_ sc)), .agg (List.toArray [.int .u64 (x.toNat : Int), .slice TA tl tc])] G M L (fun v M' L' => v = .bool true) noPanic := by
 refine enter (args := [_, _, _]) (fn := Tryz.f11) ⟨Tryz.func11, rfl, by kernel_rfl, by kernel_rfl⟩ 88 rfl <| zr <| tl_e rfl <| e_box rfl <| fun b1 => tl_e rfl <| e_box rfl <| fun b2 => as0 rfl rfl <| zq <| zr2 <| tl_e rfl <| e_call' rfl (awake13_spec hg.hs) ?_
 rintro _ M1 _ hM1 ⟨rfl, rfl⟩
 have hd := hM1
 refine tl_y rfl (y_not rfl) <| zq <| .s4 0 4 5 16 rfl rfl rfl rfl <| x_false rfl (rfl) <| x_skip <| .then_normal <| zr2 <| mvS rfl rfl <| tl_e rfl <| e_call' rfl (RLight13_spec (h.mono hd)) ?_
 rintro _ _ _ _ ⟨rfl, rfl, lb, rfl, hlb⟩
 refine tl_y rfl (y_not rfl) <| mvB rfl rfl <| tl_casesb (s := 20) rfl (fun hk1 => ?_) (fun hk1 => ?_)
 ·
  refine tl_skip rfl <| tl_skip rfl <| tl_skip rfl <| tl_skip rfl <| tl_y rfl (y_pickT rfl rfl) <| mvB rfl rfl <| tl_skip rfl <| tl_skip rfl <| tl_skip rfl <| tl_skip rfl ?_
  refine tl_y rfl (y_pickT rfl rfl) <| mvB rfl rfl <| tl_skip rfl <| tl_skip rfl <| tl_skip rfl <| tl_skip rfl <| tl_y rfl (y_pickT rfl rfl) <| zq <| .s4 0 4 5 37 rfl rfl rfl rfl <| x_true rfl rfl ?_
  refine zr <| as0 rfl rfl <| zq <| .s1 6 rfl <| x_ret (.then_ret (ret1 rfl rfl hd rfl))
 ·
  refine tl_y rfl (y_fieldAddr rfl) <| tl_y rfl (y_ld rfl rfl) <| tl_y rfl (y_len rfl) <| tl_y rfl (y_gtr rfl rfl) <| tl_y rfl (y_pickF rfl rfl) <| mvB rfl rfl <| tl_cases (s := 26) rfl (fun hk2 => ?_) (fun hk2 => ?_)
  ·
   refine tl_skip rfl <| tl_skip rfl <| tl_skip rfl <| tl_skip rfl <| tl_y rfl (y_pickT rfl rfl) <| mvB rfl rfl <| tl_skip rfl <| tl_skip rfl <| tl_skip rfl <| tl_skip rfl ?_
   refine tl_y rfl (y_pickT rfl rfl) <| zq <| .s4 0 4 5 37 rfl rfl rfl rfl <| x_true rfl rfl <| zr <| as0 rfl rfl <| zq <| .s1 6 rfl <| x_ret (.then_ret (ret1 rfl rfl hd rfl))
  ·
   refine tl_y rfl (y_fieldAddr rfl) <| tl_y rfl (y_ld rfl rfl) <| tl_y rfl (y_len rfl) <| tl_y rfl (y_gtr rfl rfl) <| tl_y rfl (y_pickF rfl rfl) <| mvB rfl rfl <| tl_cases (s := 32) rfl (fun hk3 => ?_) (fun hk3 => ?_)
   ·
    refine tl_skip rfl <| tl_skip rfl <| tl_skip rfl <| tl_skip rfl <| tl_y rfl (y_pickT rfl rfl) <| zq <| .s4 0 4 5 37 rfl rfl rfl rfl <| x_true rfl rfl <| zr <| as0 rfl rfl ?_
    refine zq <| .s1 6 rfl <| x_ret (.then_ret (ret1 rfl rfl hd rfl))
   ·
    refine tl_y rfl (y_fieldAddr rfl) <| tl_y rfl (y_ld rfl rfl) <| tl_y rfl (y_len rfl) <| tl_y rfl (y_gtr rfl rfl) <| tl_y rfl (y_pickF rfl rfl) <| zq <| .s4 0 4 5 37 rfl rfl rfl rfl <| x_cond rfl (fun hc2 => ?_) (fun hc2 => ?_)
    ·
     refine zr <| as0 rfl rfl <| zq <| .s1 6 rfl <| x_ret (.then_ret (ret1 rfl rfl hd rfl))
    ·
     refine x_skip <| .then_normal <| zr <| mvS rfl rfl <| tl_y rfl (y_lg rfl rfl) <| tl_e rfl <| e_call' rfl (Public_hspec (hg.mono hd) (h.mono hd) (hname.mono hd) (hsec.mono hd)) ?_
     rintro _ M3 _ hM3 ⟨rfl, A3, m3, c3, rfl, hA3⟩
     replace hd := hd.trans hM3
     refine mvU rfl rfl <| zx rfl rfl <| zx rfl rfl <| asS rfl rfl <| asI rfl rfl <| zq <| .s5 0 4 5 7 8 rfl rfl rfl rfl rfl <| zr <| mvS rfl rfl <| tl_y rfl (y_lg rfl rfl) ?_
     refine tl_e rfl <| e_call' rfl (RPublic13_spec (h.mono hd) (hname.mono hd) (hsec.mono hd)) ?_
     rintro _ M4 _ hM4 ⟨rfl, A4, m4, c4, rfl, hA4⟩
     replace hd := hd.trans hM4
     replace hA3 := hA3.mono hM4
     refine mvU rfl rfl <| zx rfl rfl <| zx rfl rfl <| asS rfl rfl <| asI rfl rfl <| zq <| .s7 0 4 5 7 8 9 10 rfl rfl rfl rfl rfl rfl rfl <| zr <| mvS rfl rfl <| tl_y rfl (y_lg rfl rfl) ?_
     refine tl_y rfl (y_fieldAddr rfl) <| tl_y rfl (y_ld rfl rfl) <| tl_y rfl (y_fieldAddr rfl) <| tl_y rfl (y_ld rfl rfl) <| tl_e rfl <| e_call' rfl (Sign_hspec (hg.mono hd) (h.mono hd) (hname.mono hd) (hsec.mono hd) x (htext.mono hd)) ?_
     rintro _ M5 _ hM5 ⟨rfl, A5, m5, c5, rfl, hA5⟩
     replace hd := hd.trans hM5
     replace hA3 := hA3.mono hM5
     replace hA4 := hA4.mono hM5
     refine mvU rfl rfl <| zx rfl rfl <| zx rfl rfl <| asS rfl rfl <| asI rfl rfl <| zq <| .sub (F' := [(0, _), (4, _), (5, _), (7, _), (8, _), (9, _), (10, _), (11, _), (12, _)]) (.cons rfl (.cons rfl (.cons rfl (.cons rfl (.cons rfl (.cons rfl (.cons rfl (.cons rfl (.cons rfl .nil))))))))) <| zr <| mvS rfl rfl <| tl_y rfl (y_lg rfl rfl) ?_
     refine tl_y rfl (y_fieldAddr rfl) <| tl_y rfl (y_ld rfl rfl) <| tl_y rfl (y_fieldAddr rfl) <| tl_y rfl (y_ld rfl rfl) <| tl_e rfl <| e_call' rfl (RSign13_spec (h.mono hd) (hname.mono hd) (hsec.mono hd) x (htext.mono hd)) ?_
     rintro _ M6 _ hM6 ⟨rfl, A6, m6, c6, rfl, hA6⟩
     replace hd := hd.trans hM6
     replace hA3 := hA3.mono hM6
     replace hA4 := hA4.mono hM6
     replace hA5 := hA5.mono hM6
     refine mvU rfl rfl <| zx rfl rfl <| zx rfl rfl <| asS rfl rfl <| asI rfl rfl <| zq <| .s8 7 8 9 10 11 12 13 14 rfl rfl rfl rfl rfl rfl rfl rfl <| zr <| mvS rfl rfl <| mvS rfl rfl ?_
     refine tl_e rfl <| e_call' rfl (same_spec hA3 hA4) ?_
     rintro _ _ _ _ ⟨rfl, rfl, rfl⟩
     refine mvB rfl rfl <| tl_set (s := 73) (u := .bool true) rfl (congrArg Value.bool (decide_eq_true rfl)) <| mvI rfl rfl <| mvI rfl rfl <| tl_y rfl (y_eql rfl rfl) <| tl_y rfl (y_pickT rfl rfl) <| mvB rfl rfl <| tl_set (s := 78) (u := .bool true) rfl (congrArg Value.bool (decide_eq_true rfl)) <| mvS rfl rfl <| mvS rfl rfl ?_
     refine tl_e rfl <| e_call' rfl (same_spec hA5 hA6) ?_
     rintro _ _ _ _ ⟨rfl, rfl, rfl⟩
     refine tl_y rfl (y_pickT rfl rfl) <| mvB rfl rfl <| tl_set (s := 83) (u := .bool true) rfl (congrArg Value.bool (decide_eq_true rfl)) <| mvI rfl rfl <| mvI rfl rfl <| tl_y rfl (y_eql rfl rfl) <| tl_y rfl (y_pickT rfl rfl) <| asB rfl rfl <| zq <| .s1 6 rfl ?_
     refine x_ret (ret1 rfl rfl hd (congrArg Value.bool (decide_eq_true rfl)))
end
end Go.Proofs.YtiimjodbaogjbaaGreatDoor
set_option linter.unusedVariables false
set_option linter.unusedSimpArgs false
namespace Go.Eng
open Go.ChangeShapes Go.WideShapes Go.ChangeAt Go.RowKit
def memOf (W : World) : Mem := fun b => W.heap[b]?
theorem st_start (W : World) : St W (memOf W) [] W := ⟨rfl, rfl, rfl, fun b o h => h, fun p hp => (by cases hp), by simp⟩
theorem below_of {W W' : World} {M' : Mem} {L' : Own} (hle : Le (memOf W) M') (h : St W M' L' W') : Below W.heap.size W W' := by
  have hb : ∀ k, k < W.heap.size → W'.heap[k]? = W.heap[k]? := fun k hk => by
    have h1 : W.heap[k]? = some W.heap[k] := Array.getElem?_eq_getElem hk
    rw [h1]
    exact h.ro k _ (hle k _ h1)
  refine ⟨h.os, h.tape, h.output, ?_, hb⟩
  rcases Nat.eq_zero_or_pos W.heap.size with h0 | h0
  · omega
  · have h2 := hb (W.heap.size - 1) (by omega)
    have hlt : W.heap.size - 1 < W.heap.size := by omega
    rw [Array.getElem?_eq_getElem hlt] at h2
    have h3 := (Array.getElem?_eq_some_iff.1 h2).1
    omega
theorem calls_of_con {P : Program} {f : FuncId} {args : Array Value} {W : World} (h : Con P f args W (memOf W) [] (fun v _ _ => v = .bool true) noPanic) : Calls P f args W fun e W' => e = .returned (.bool true) ∧ Below W.heap.size W W' :=
 (h.calls W (st_start W)).mono fun e W' he => by
  cases e with
  | returned v => obtain ⟨M', L', a, b, rfl⟩ := he; exact ⟨rfl, below_of a b⟩
  | panicked c => obtain ⟨M', L', a, b, c⟩ := he; exact c.elim
  | outgrown => exact he.elim
section
variable {H : Type} {enc : TypeId × Value → H} {P : Program} {W : World} {t : TypeId} {cs : List Value}
def Rd (enc : TypeId × Value → H) (P : Program) (W : World) (t : TypeId) (cs : List Value) : Prop := ∃ fuel x, DataW.trod enc P W 0 (fun _ => true) true fuel t cs = some x
theorem TI.cellsOf {d : TypeDesc} {z : Value} {s b : Nat} (h : TI P t d z s b) : P.cellsOf t = s := by
 obtain ⟨i, hi, _, hs, _⟩ := h.parts
 simp [Program.cellsOf, hi, hs]
theorem Rd.int {k : IntKind} {z : Value} {s b : Nat} [ti : TI P t (.int k) z s b] (h : Rd enc P W t cs) : ∃ n, cs = [.int k n] ∧ (Lit.int k n).wf = true := by
 obtain ⟨fuel, x, h⟩ := h
 cases fuel with
 | zero => cases h
 | succ fuel =>
  unfold DataW.trod at h
  simp only [ti.und] at h
  split at h <;> simp_all
theorem Rd.bool {z : Value} {s b : Nat} [ti : TI P t .bool z s b] (h : Rd enc P W t cs) : ∃ n, cs = [.bool n] := by
 obtain ⟨fuel, x, h⟩ := h
 cases fuel with
 | zero => cases h
 | succ fuel =>
  unfold DataW.trod at h
  simp only [ti.und] at h
  split at h <;> simp_all
theorem Rd.string {z : Value} {s b : Nat} [ti : TI P t .string z s b] (h : Rd enc P W t cs) : ∃ n : ByteArray, cs = [.string n] ∧ n.size ≤ maxLen := by
 obtain ⟨fuel, x, h⟩ := h
 cases fuel with
 | zero => cases h
 | succ fuel =>
  unfold DataW.trod at h
  simp only [ti.und] at h
  split at h <;> simp_all
theorem mapM_some {α β : Type} {f : α → Option β} : ∀ {l : List α} {r : List β}, l.mapM f = some r → ∀ a ∈ l, ∃ b, f a = some b
  | [], _, _, a, ha => by cases ha
  | x :: l, r, h, a, ha => by
    rw [List.mapM_cons] at h
    simp only [Option.bind_eq_bind, Option.bind_eq_some_iff] at h
    obtain ⟨b, hb, rs, hrs, _⟩ := h
    rcases List.mem_cons.1 ha with rfl | ha
    · exact ⟨b, hb⟩
    · exact mapM_some hrs a ha
theorem Rd.array {m : Nat} {e : TypeId} {z z' : Value} {s b s' b' : Nat} {d' : TypeDesc} [ti : TI P t (.array m e) z s b] [te : TI P e d' z' s' b'] (h : Rd enc P W t cs) : cs.length = s ∧ ∀ i, i < m → Rd enc P W e ((cs.drop (i * s')).take s') := by
  obtain ⟨fuel, x, h⟩ := h
  cases fuel with
  | zero => cases h
  | succ fuel =>
    unfold DataW.trod at h
    simp only [ti.und, ti.cellsOf, te.cellsOf] at h
    split at h
    · rename_i hl
      obtain ⟨y, hy, _⟩ := Option.map_eq_some_iff.1 h
      refine ⟨hl, fun i hi => ?_⟩
      obtain ⟨b, hb⟩ := mapM_some hy i (List.mem_range.2 hi)
      exact ⟨fuel, b, hb⟩
    · cases h
theorem Rd.struct {fs : Array Field} {z : Value} {s b : Nat} [ti : TI P t (.struct fs) z s b] (h : Rd enc P W t cs) : cs.length = s ∧ ∀ f ∈ fs.toList, Rd enc P W f.type ((cs.drop f.offset).take (P.cellsOf f.type)) := by
  obtain ⟨fuel, x, h⟩ := h
  cases fuel with
  | zero => cases h
  | succ fuel =>
    unfold DataW.trod at h
    simp only [ti.und, ti.cellsOf] at h
    split at h
    · rename_i hl
      obtain ⟨y, hy, _⟩ := Option.map_eq_some_iff.1 h
      refine ⟨hl, fun f hf => ?_⟩
      obtain ⟨b, hb⟩ := mapM_some hy f hf
      exact ⟨fuel, b, hb⟩
    · cases h
theorem Rd.slice {e : TypeId} {z z' : Value} {s b s' b' : Nat} {d' : TypeDesc} [ti : TI P t (.slice e) z s b] [te : TI P e d' z' s' b'] (hs : 0 < s') (h : Rd enc P W t cs) :
    ∃ A len cap vs, cs = [.slice A len cap] ∧ Row (memOf W) s' A len cap vs ∧ ∀ i, i < len → Rd enc P W e ((vs.drop (i * s')).take s') := by
  obtain ⟨fuel, x, h⟩ := h
  rcases Deep.open_slice ti.und h with ⟨rfl, _⟩ | ⟨a, len, cap, m, n, D, Pl, rfl, hb, hl, hm, hmm, _, hx⟩
  · exact ⟨none, 0, 0, [], rfl, Row.nil _ _, fun i hi => by omega⟩
  · rw [te.cellsOf] at hx
    have hcap : cap ≤ 9223372036854775807 := by unfold maxLen at hm; omega
    have hlm : len ≤ m := by rw [hmm]; split <;> omega
    have hx : ∀ i, i < len → ∃ cs', W.cells? 0 (a.add (i * s')) s' = some cs' ∧ DataW.trod enc P W 0 (fun _ => true) true n e cs' = some (D i, Pl i) := fun i hi => hx i (by omega)
    rcases Nat.eq_zero_or_pos len with h0 | h0
    · subst h0
      exact ⟨some a, 0, cap, [], rfl, Row.empty _ _ _ hcap, fun i hi => by omega⟩
    · have hspot : a.spot = none := by
        obtain ⟨cs', h1, _⟩ := hx 0 h0
        obtain ⟨_, hlen, hc⟩ := World.cells?_some h1
        have := hc 0 hs
        have hg : cs'[0]? = some (cs'[0]'(by omega)) := List.getElem?_eq_getElem (by omega)
        rw [hg] at this
        have := World.cell?_spot this
        revert this
        unfold Addr.add
        simp
      obtain ⟨bl, off, sp⟩ := a
      simp only at hspot
      subst hspot
      simp only [add_plain] at hx
      -- the cells
      have hcell : ∀ i, i < len * s' → ∃ v, W.cell? ⟨bl, off + i, none⟩ = some v := fun i hi => by
        obtain ⟨cs', h1, _⟩ := hx (i / s') (Nat.div_lt_of_lt_mul (by rwa [Nat.mul_comm]))
        obtain ⟨_, hlen, hc⟩ := World.cells?_some h1
        have hmod := Nat.mod_lt i hs
        have := hc (i % s') hmod
        rw [add_plain, Nat.add_assoc, Nat.add_comm (i / s' * s'), Nat.mod_add_div' i s', List.getElem?_eq_getElem (by omega)] at this
        exact ⟨_, this⟩
      have hblock : ∃ c T fr, W.heap[bl]? = some (.cells c T fr) := by
        obtain ⟨v, hv⟩ := hcell 0 (Nat.mul_pos h0 hs)
        unfold World.cell? at hv
        split at hv
        · rename_i c T fr hh; exact ⟨c, T, fr, hh⟩
        · cases hv
      obtain ⟨c, T, fr, hh⟩ := hblock
      have hc : ∀ i, i < len * s' → c[off + i]? = some (c.getD (off + i) default) ∧ W.cell? ⟨bl, off + i, none⟩ = some (c.getD (off + i) default) := fun i hi => by
        obtain ⟨v, hv⟩ := hcell i hi
        have hv' := hv
        unfold World.cell? at hv
        simp only [hh, Option.isSome_none, Bool.false_eq_true, if_false] at hv
        have : c.getD (off + i) default = v := by simp [Array.getD_eq_getD_getElem?, hv]
        rw [this]
        exact ⟨hv, hv'⟩
      refine ⟨some ⟨bl, off, none⟩, len, cap, (List.range (len * s')).map fun i => c.getD (off + i) default, rfl, ⟨by simp, hl, hcap, fun _ => ⟨bl, off, c, T, fr, rfl, hh, fun j v hj => ?_⟩⟩, fun i hi => ?_⟩
      · rw [List.getElem?_map] at hj
        obtain ⟨k, hk, rfl⟩ := Option.map_eq_some_iff.1 hj
        have hlt := (List.getElem?_eq_some_iff.1 hk).1
        rw [List.getElem?_range (by simpa using hlt)] at hk
        cases hk
        exact (hc _ (by simpa using hlt)).1
      · obtain ⟨cs', h1, h2⟩ := hx i hi
        have : ((((List.range (len * s')).map fun i => c.getD (off + i) default).drop (i * s')).take s') = cs' := by
          obtain ⟨_, hlen, hcc⟩ := World.cells?_some h1
          have hle : (i + 1) * s' ≤ len * s' := Nat.mul_le_mul_right _ hi
          rw [Nat.add_mul, Nat.one_mul] at hle
          apply List.ext_getElem?
          intro j
          rw [List.getElem?_take]
          split
          · rename_i hj
            rw [List.getElem?_drop, List.getElem?_map, List.getElem?_range (by omega)]
            have h3 := hcc j hj
            rw [add_plain, Nat.add_assoc] at h3
            rw [← h3, (hc (i * s' + j) (by omega)).2]
            rfl
          · rw [List.getElem?_eq_none (by omega)]
        rw [this]
        exact ⟨n, _, h2⟩
theorem one_of {v : Value} {base : Nat} {r : Reach} {d : TypeDesc} {z : Value} {s b : Nat} [ti : TI P t d z s b] (hd : aggD d = false) (h : Value.okWide P W r base t v) {x : Value} (hc : v.cells.toList = [x]) : v = x := by
 cases v with
 | agg c =>
  exfalso
  simp only [Value.okWide, ti.und] at h
  cases d <;> simp_all [aggD, Cell.okWide, Cell.ok]
 | _ => simpa [Value.cells] using hc
theorem agg_of {v : Value} {base : Nat} {r : Reach} {d : TypeDesc} {z : Value} {s b : Nat} [ti : TI P t d z s b] (hd : aggD d = true) (h : Value.okWide P W r base t v) : v = .agg v.cells.toList.toArray := by
 simp only [Value.okWide, ti.und] at h
 cases d <;> simp_all [aggD]
 all_goals (obtain ⟨cs, rfl, _⟩ := h; simp [Value.cells])
theorem u8_of {n : Int} (h : (Lit.int .u8 n).wf = true) : ∃ c : UInt8, n = (c.toNat : Int) := by
 simp [Lit.wf, IntKind.min, IntKind.max, IntKind.signed, IntKind.bits] at h
 exact ⟨UInt8.ofNat n.toNat, by simp [UInt8.toNat_ofNat']; omega⟩
theorem ints_of {k : IntKind} : ∀ (vs : List Value), (∀ i, i < vs.length → ∃ n, (vs.drop i).take 1 = [.int k n] ∧ (Lit.int k n).wf = true) → ∃ ts : List Int, vs = ts.map (.int k) ∧ ∀ t ∈ ts, (Lit.int k t).wf = true
  | [], _ => ⟨[], rfl, fun t h => by cases h⟩
  | v :: vs, h => by
    obtain ⟨n, h1, h2⟩ := h 0 (by simp)
    obtain ⟨ts, rfl, ht⟩ := ints_of vs (fun i hi => by simpa using h (i + 1) (by simpa using hi))
    refine ⟨n :: ts, by simpa using h1, fun t hm => ?_⟩
    rcases List.mem_cons.1 hm with rfl | hm
    · exact h2
    · exact ht t hm
theorem Rd.ints {k : IntKind} {e : TypeId} {z z' : Value} {s b b' : Nat} [ti : TI P t (.slice e) z s b] [te : TI P e (.int k) z' 1 b'] (h : Rd enc P W t cs) :
  ∃ (A : Option Addr) (len cap : Nat) (ts : List Int), cs = [.slice A len cap] ∧ Row (memOf W) 1 A len cap (ts.map (.int k)) ∧ ∀ n ∈ ts, (Lit.int k n).wf = true := by
 obtain ⟨A, len, cap, vs, rfl, hr, hx⟩ := h.slice (by omega)
 have hl := hr.len
 obtain ⟨ts, rfl, ht⟩ := ints_of (k := k) vs (fun i hi => by
  have := (hx i (by omega)).int
  simpa using this)
 exact ⟨A, len, cap, ts, rfl, hr, ht⟩
theorem u8s_of : ∀ (ts : List Int), (∀ t ∈ ts, (Lit.int .u8 t).wf = true) → ∃ bs : List UInt8, ts.map (Value.int .u8) = bs.map bv
 | [], _ => ⟨[], rfl⟩
 | t :: ts, h => by
  obtain ⟨c, rfl⟩ := u8_of (h t List.mem_cons_self)
  obtain ⟨bs, hb⟩ := u8s_of ts (fun x hx => h x (List.mem_cons_of_mem _ hx))
  exact ⟨c :: bs, by rw [List.map_cons, List.map_cons, hb]; rfl⟩
theorem Rd.bytes {e : TypeId} {z z' : Value} {s b b' : Nat} [ti : TI P t (.slice e) z s b] [te : TI P e (.int .u8) z' 1 b'] (h : Rd enc P W t cs) :
  ∃ (A : Option Addr) (len cap : Nat) (bs : List UInt8), cs = [.slice A len cap] ∧ Bytes (memOf W) A len cap bs := by
 obtain ⟨A, len, cap, ts, rfl, hr, ht⟩ := h.ints (k := .u8)
 obtain ⟨bs, hb⟩ := u8s_of ts ht
 exact ⟨A, len, cap, bs, rfl, by rw [Bytes, ← hb]; exact hr⟩
end
end Go.Eng
set_option linter.unusedVariables false
set_option linter.unusedSimpArgs false
namespace Go.Eng
open Go.ChangeShapes Go.WideShapes Go.ChangeAt Go.RowKit
section
variable {P : Program} {W : World}
theorem laidVars_mem : ∀ {laid : List (String × DataW Unit)} {ps : List MemPlace}, DataW.LaidVars P W laid ps → ∀ {n d}, (n, d) ∈ laid → ∃ g t cs fuel p, P.globalNamed n = some g ∧ (P.globals[g]?).map (·.type) = some t ∧ W.var? P n = some cs ∧ DataW.trod (fun _ => ()) P W 0 (fun _ => true) false fuel t cs.toList = some (d, p)
  | [], _, _, n, d, hm => by cases hm
  | (n0, d0) :: r, ps, h, n, d, hm => by
    obtain ⟨g, t, cs, fuel, p, q, h1, h2, h3, h4, h5, _⟩ := h
    rcases List.mem_cons.1 hm with he | hm
    · cases he; exact ⟨g, t, cs, fuel, p, h1, h2, h3, h4⟩
    · exact laidVars_mem h5 hm
theorem var_heap {n : String} {g : Nat} {cs : Array Value} (hg : P.globalNamed n = some g) (h : W.var? P n = some cs) : ∃ T fr, memOf W g = some (.cells cs T fr) := by
  simp only [World.var?, hg, Option.bind_some] at h
  unfold memOf
  split at h
  · rename_i c t fr hb
    cases h
    exact ⟨t, fr, hb⟩
  · cases h
theorem map_lits {k : IntKind} : ∀ {ns : List Int} {cs : List Value}, cs.length = ns.length → (∀ i, i < ns.length → ∃ x, (cs.drop i).take 1 = [Value.int k x] ∧ ns[i]? = some x) → cs = ns.map (.int k)
 | [], [], _, _ => rfl
 | [], _ :: _, h, _ => by simp at h
 | _ :: _, [], h, _ => by simp at h
 | n :: ns, c :: cs, h, hx => by
  obtain ⟨x, h1, h2⟩ := hx 0 (by simp)
  simp at h1 h2
  have h3 := map_lits (k := k) (ns := ns) (cs := cs) (by simpa using h) (fun i hi => by simpa using hx (i + 1) (by simpa using hi))
  rw [h1, h2, h3]
  rfl
theorem trod_ints {t e : TypeId} {m : Nat} {k : IntKind} {z z' : Value} {s b b' fuel : Nat} [ti : TI P t (.array m e) z s b] [te : TI P e (.int k) z' 1 b'] {ns : List Int} {cs : List Value} {p : List MemPlace} {sp : Nat → Bool} {held : Bool} {enc : TypeId × Value → Unit}
  (h : DataW.trod enc P W 0 sp held fuel t cs = some (.agg (ns.map fun x => .lit (.int k x)), p)) (hs : s = m) : cs = ns.map (.int k) := by
 obtain ⟨xs, m', rfl, hx, hl, hn, hel⟩ := DataW.trod_array ti.und h
 rw [ti.cellsOf, hs] at hl
 simp only [Prod.mk.injEq, DataW.agg.injEq] at hx
 have hln : ns.length = m := by rw [← hn]; simpa using congrArg List.length hx.1
 refine map_lits (by omega) (fun i hi => ?_)
 have h1 := hel i (by omega)
 rw [te.cellsOf, Nat.mul_one] at h1
 rw [List.getElem?_eq_getElem (show i < xs.length by omega)] at h1
 obtain ⟨x, e1, e2, _⟩ := DataW.trod_int te.und h1
 refine ⟨x, e1, ?_⟩
 have h2 := congrArg (fun l => l[i]?) hx.1
 simp only [List.getElem?_map] at h2
 rw [List.getElem?_eq_getElem (show i < xs.length by omega), List.getElem?_eq_getElem hi] at h2
 simp only [Option.map_some, Option.some.injEq, e2, DataW.lit.injEq, Lit.int.injEq, true_and] at h2
 rw [List.getElem?_eq_getElem hi, h2]
theorem laid_ints {laid : List (String × DataW Unit)} (h : laidMet P laid W) {n : String} {g : Nat} {t e : TypeId} {m : Nat} {k : IntKind} {z z' : Value} {s b b' : Nat} (ns : List Int) (hm : (n, DataW.agg (ns.map fun x => .lit (.int k x))) ∈ laid) (hg : P.globalNamed n = some g)
  (ht : (P.globals[g]?).map (·.type) = some t) (ti : TI P t (.array m e) z s b) (te : TI P e (.int k) z' 1 b') (hs : s = m) : ∃ T fr, memOf W g = some (.cells (ns.map (.int k)).toArray T fr) := by
 obtain ⟨ps, hv, _⟩ := h
 obtain ⟨g', t', cs, fuel, p, h1, h2, h3, h4⟩ := laidVars_mem hv hm
 obtain rfl := Option.some.inj (hg.symm.trans h1)
 obtain rfl := Option.some.inj (ht.symm.trans h2)
 obtain ⟨T, fr, hh⟩ := var_heap hg h3
 have := trod_ints h4 hs
 refine ⟨T, fr, ?_⟩
 rw [hh, ← this]
end
end Go.Eng
set_option linter.unusedVariables false
namespace Go.Proofs.YtiimjodbaogjbaaGreatDoor
open Go Go.Eng Go.ChangeShapes Go.WideShapes Go.ChangeAt Go.RowKit
theorem own : ownKnob Tryz.prog.godebug = none := by kernel_rfl
theorem laidOut : laidOutB Tryz.prog = true := by kernel_rfl
set_option maxRecDepth 100000 in
theorem shutBool {H : Type} {enc : TypeId × Value → H} {W : World} {base : Nat} {sp : Nat → Bool} {held : Bool} (b : Bool) : DataW.Trod enc Tryz.prog W base sp held 4 (.bool b) (.lit (.bool b)) [] := ⟨1, by simp [DataW.trod, Value.cells, Tryz.underlying4]⟩
end Go.Proofs.YtiimjodbaogjbaaGreatDoor
set_option linter.unusedVariables false
namespace Go.Proofs.YtiimjodbaogjbaaGreatDoor
open Go Go.Eng Go.ChangeShapes Go.WideShapes Go.ChangeAt Go.RowKit
section
variable {W : World}
theorem shaG_of {laid : List (String × DataW Unit)} (h : laidMet Tryz.prog laid W) (h1 : ("tearoff/sha2.k", Rows.laid_tearoff_sha2_k) ∈ laid) (h2 : ("tearoff/sha2.first", Rows.laid_tearoff_sha2_first) ∈ laid) : ShaG (memOf W) := by
  refine ⟨?_, ?_⟩
  · obtain ⟨T, fr, hc⟩ := laid_ints h (kT.map fun x => (x.toNat : Int)) h1 (show Tryz.prog.globalNamed "tearoff/sha2.k" = some 6 by kernel_rfl) (show (Tryz.prog.globals[6]?).map (·.type) = some 244 by kernel_rfl) ti244 ti22 rfl
    refine ⟨_, T, fr, hc, fun j hj => ?_⟩
    rw [List.getElem?_toArray, List.map_map]
    exact get_u32' kT j hj
  · obtain ⟨T, fr, hc⟩ := laid_ints h (H8.init.list.map fun x => (x.toNat : Int)) h2 (show Tryz.prog.globalNamed "tearoff/sha2.first" = some 5 by kernel_rfl) (show (Tryz.prog.globals[5]?).map (·.type) = some 230 by kernel_rfl) ti230 ti22 rfl
    exact ⟨T, fr, hc⟩
end
end Go.Proofs.YtiimjodbaogjbaaGreatDoor
set_option linter.unusedVariables false
set_option maxRecDepth 100000
namespace Go.Proofs.YtiimjodbaogjbaaGreatDoor
open Go Go.Eng Go.ChangeShapes Go.WideShapes Go.ChangeAt Go.RowKit
section
variable {H : Type} {enc : TypeId × Value → H} {W : World}
theorem kecG_of {laid : List (String × DataW Unit)} (h : laidMet Tryz.prog laid W) (h1 : ("tearoff/keccak.rc", Rows.laid_tearoff_keccak_rc) ∈ laid) (h2 : ("tearoff/keccak.turns", Rows.laid_tearoff_keccak_turns) ∈ laid) : KecG (memOf W) := by
  refine ⟨?_, ?_⟩
  · obtain ⟨T, fr, hc⟩ := laid_ints h (kRc.map fun x => (x.toNat : Int)) h1 (show Tryz.prog.globalNamed "tearoff/keccak.rc" = some 8 by kernel_rfl) (show (Tryz.prog.globals[8]?).map (·.type) = some 232 by kernel_rfl) ti232 ti37 rfl
    refine ⟨_, T, fr, hc, fun j hj => ?_⟩
    rw [List.getElem?_toArray, List.map_map]
    exact get_u64' kRc j hj
  · obtain ⟨T, fr, hc⟩ := laid_ints h (kTurns.map fun (x : Nat) => (x : Int)) h2 (show Tryz.prog.globalNamed "tearoff/keccak.turns" = some 7 by kernel_rfl) (show (Tryz.prog.globals[7]?).map (·.type) = some 273 by kernel_rfl) ti273 ti3 rfl
    refine ⟨_, T, fr, hc, fun j hj => ?_⟩
    rw [List.getElem?_toArray, List.map_map, List.getElem?_map, List.getElem?_eq_getElem (show j < kTurns.length from hj), List.getD_eq_getElem?_getD, List.getElem?_eq_getElem (show j < kTurns.length from hj)]
    rfl
theorem trod_pair {t it : TypeId} {z z' : Value} {b b' fuel : Nat} {f0 f1 : Field} {cs : List Value} {a c : Int} {p : List MemPlace} {sp : Nat → Bool} {held : Bool} {enc : TypeId × Value → Unit} [ti : TI Tryz.prog t (.struct #[f0, f1]) z 2 b] [te : TI Tryz.prog it (.int .i64) z' 1 b']
  (e0 : f0.type = it ∧ f0.offset = 0) (e1 : f1.type = it ∧ f1.offset = 1) (h : DataW.trod enc Tryz.prog W 0 sp held fuel t cs = some (.agg [.lit (.int .i64 a), .lit (.int .i64 c)], p)) : cs = [.int .i64 a, .int .i64 c] := by
 obtain ⟨y0, y1, n, hx, hl, h0, h1⟩ := trod_struct2 ti.und h
 rw [ti.cellsOf] at hl
 rw [e0.1, e0.2, te.cellsOf] at h0
 rw [e1.1, e1.2, te.cellsOf] at h1
 obtain ⟨x, g1, g2, _⟩ := DataW.trod_int te.und h0
 obtain ⟨x', g1', g2', _⟩ := DataW.trod_int te.und h1
 simp only [Prod.mk.injEq, DataW.agg.injEq, List.cons.injEq, and_true] at hx
 match cs, hl with
 | [c0, c1], _ =>
  simp at g1 g1'
  rw [g2, g2'] at hx
  simp only [DataW.lit.injEq, Lit.int.injEq, true_and] at hx
  rw [g1, g1', hx.1.1, hx.1.2]
theorem setG_of {laid : List (String × DataW Unit)} (h : laidMet Tryz.prog laid W) (h1 : ("tearoff/sets.sums", Rows.laid_tearoff_sets_sums) ∈ laid) (h2 : ("tearoff/sets.widths", Rows.laid_tearoff_sets_widths) ∈ laid) : SetG (memOf W) := by
  refine ⟨?_, ?_⟩
  · obtain ⟨ps, hv, _⟩ := h
    obtain ⟨g', t', cs, fuel, p, e1, e2, e3, e4⟩ := laidVars_mem hv h1
    obtain rfl := Option.some.inj ((show Tryz.prog.globalNamed "tearoff/sets.sums" = some 3 by kernel_rfl).symm.trans e1)
    obtain rfl := Option.some.inj ((show (Tryz.prog.globals[3]?).map (·.type) = some 228 by kernel_rfl).symm.trans e2)
    obtain ⟨T, fr, hh⟩ := var_heap e1 e3
    obtain ⟨xs, m', hx', hx, hl, hn, hel⟩ := DataW.trod_array (ti228 : TI Tryz.prog 228 _ _ _ _).und e4
    rw [TI.cellsOf (ti228 : TI Tryz.prog 228 _ _ _ _)] at hl
    rw [TI.cellsOf (ti195 : TI Tryz.prog 195 _ _ _ _)] at hel
    unfold Rows.laid_tearoff_sets_sums at hx
    refine ⟨T, fr, ?_⟩
    rw [hh]
    obtain ⟨cl, rfl⟩ : ∃ cl : List Value, cs = cl.toArray := ⟨cs.toList, by simp⟩
    match xs, hn with
    | [x0, x1, x2, x3], _ =>
      simp only [Prod.mk.injEq, DataW.agg.injEq, List.map_cons, List.map_nil, List.cons.injEq, and_true] at hx
      have k0 := hel 0 (by omega)
      have k1 := hel 1 (by omega)
      have k2 := hel 2 (by omega)
      have k3 := hel 3 (by omega)
      match cl, hl with
      | [c0, c1, c2, c3, c4, c5, c6, c7], _ =>
        simp at k0 k1 k2 k3
        obtain ⟨q0, q0'⟩ := x0
        obtain ⟨q1, q1'⟩ := x1
        obtain ⟨q2, q2'⟩ := x2
        obtain ⟨q3, q3'⟩ := x3
        obtain ⟨⟨rfl, rfl, rfl, rfl⟩, _⟩ := hx
        have r0 := trod_pair (te := ti3) ⟨rfl, rfl⟩ ⟨rfl, rfl⟩ k0
        have r1 := trod_pair (te := ti3) ⟨rfl, rfl⟩ ⟨rfl, rfl⟩ k1
        have r2 := trod_pair (te := ti3) ⟨rfl, rfl⟩ ⟨rfl, rfl⟩ k2
        have r3 := trod_pair (te := ti3) ⟨rfl, rfl⟩ ⟨rfl, rfl⟩ k3
        simp only [List.cons.injEq, and_true] at r0 r1 r2 r3
        rw [r0.1, r0.2, r1.1, r1.2, r2.1, r2.2, r3.1, r3.2]
  · obtain ⟨T, fr, hc⟩ := laid_ints h [1, 2, 4, 8] h2 (show Tryz.prog.globalNamed "tearoff/sets.widths" = some 0 by kernel_rfl) (show (Tryz.prog.globals[0]?).map (·.type) = some 198 by kernel_rfl) ti198 ti3 rfl
    exact ⟨T, fr, hc⟩
theorem u32_of {n : Int} (h : (Lit.int .u32 n).wf = true) : ∃ c : UInt32, n = (c.toNat : Int) := by
 have hb : 0 ≤ n ∧ n ≤ 4294967295 := by simp [Lit.wf, IntKind.min, IntKind.max, IntKind.signed, IntKind.bits] at h; omega
 exact ⟨UInt32.ofNat n.toNat, by rw [UInt32.toNat_ofNat', Nat.mod_eq_of_lt (by omega)]; omega⟩
end
end Go.Proofs.YtiimjodbaogjbaaGreatDoor
