/-
Contracts of functions, each proved by a walk through its code.
-/
import Derived.Test.YtiimjodbaogjbaaGreatDoorHss3Etc
import Derived.Test.YtiimjodbaogjbaaGreatDoorRef11Etc
import Derived.Test.YtiimjodbaogjbaaGreatDoorOncePureEtc
import Derived.Test.YtiimjodbaogjbaaGreatDoorEngWEtc
set_option linter.unusedVariables false
set_option linter.unusedSimpArgs false
set_option linter.constructorNameAsVariable false
namespace Go.Proofs.YtiimjodbaogjbaaGreatDoor
open Go Go.Eng
section
variable {G : World} {M : Mem} {L : Own}
theorem Words_spec {A B : Option Addr} {n c m d : Nat} {xs ys : List Nat} (ha : Row M 1 A n c (u32r xs)) (hb : Row M 1 B m d (u32r ys)) (he : xs = ys) :
    Con Tryz.prog 27 #[.slice A n c, .slice B m d] G M L (fun v M' L' => M = M' ∧ L = L' ∧ v = .bool true) noPanic := by
  subst he
  have hmx := ha.max
  have hle := ha.le
  have hnl : xs.length = n := by have := ha.len; simp [u32r] at this; omega
  have hnl2 : xs.length = m := by have := hb.len; simp [u32r] at this; omega
  obtain rfl : n = m := by omega
  refine enter (args := [_, _]) (fn := Tryz.f27) ⟨Tryz.func27, rfl, by kernel_rfl, by kernel_rfl⟩ 26 rfl <| zr <| as0 rfl rfl <| zq <| zr2 <| mvS rfl rfl <| tl_y rfl (y_len rfl) <| mvS rfl rfl <| tl_y rfl (y_len rfl) <| tl_y rfl (y_neq rfl rfl) ?_
  refine zq <| .s4 0 1 4 10 rfl rfl rfl rfl <| x_false rfl (by simp) <| x_skip <| .then_normal <| zr2 <| as0 rfl rfl <| zq <| x_block ?_
  refine x_loop (I := fun m' F D M1 L1 => ∃ k : Nat, m' = n - k ∧ k ≤ n ∧ D = [] ∧ M = M1 ∧ L = L1 ∧ F = [(0, .slice A n c), (1, .slice B n d), (4, .bool false), (5, .int .i64 k)]) (n) (F0 := [(0, _), (1, _), (4, _), (5, _)]) ?_ (.cons rfl (.cons rfl (.cons rfl (.cons rfl .nil)))) ?_  -- slots [0, 1, 4, 5], written [4, 5]
  · exact ⟨0, rfl, by omega, rfl, rfl, rfl, rfl⟩
  rintro m _ _ _ _ ⟨k, rfl, hk, rfl, rfl, rfl, rfl⟩
  refine zr2 <| mvI rfl rfl <| mvS rfl rfl <| tl_y rfl (y_len rfl) <| tl_y rfl (y_lss rfl rfl) <| zq <| x_cond rfl (fun hc2 => ?_) (fun hc2 => ?_)
  ·
    have hkn : k < n := by omega
    obtain ⟨a, hxa⟩ : ∃ a, xs[k]? = some a := ⟨_, List.getElem?_eq_getElem (by omega)⟩
    obtain ⟨g, o, rfl, hcell⟩ := ha.addr (by omega)
    obtain ⟨g2, o2, rfl, hcell2⟩ := hb.addr (by omega)
    refine x_skip <| .then_normal <| .s4 0 1 4 5 rfl rfl rfl rfl <| x_seq <| x_block <| x_seq <| x_draw 9 hmix rfl <| zp 0 rfl rfl (y_move (v := .slice _ _ _) rfl) <| zp 1 rfl rfl (y_move (v := .int _ _) rfl) <| zp 2 rfl rfl (y_indexAddr rfl rfl (by omega)) <| zy 3 rfl rfl (y_load rfl rfl (.at_ (hcell _ k _ (u32r_get hxa)) (by omega))) ?_
    refine zp 4 rfl rfl (y_move (v := .slice _ _ _) rfl) <| zp 5 rfl rfl (y_move (v := .int _ _) rfl) <| zp 6 rfl rfl (y_indexAddr rfl rfl (by omega)) <| zy 7 rfl rfl (y_load rfl rfl (.at_ (hcell2 _ k _ (u32r_get hxa)) (by omega))) <| zp 8 rfl rfl (y_neq rfl rfl) <| zz <| .then_normal <| .s5 0 1 4 5 25 rfl rfl rfl rfl rfl <| x_false rfl (by simp) <| x_skip <| .block_normal <| .then_normal <| x_region ?_
    refine mvI rfl rfl <| tl_y rfl (y_addI rfl rfl (by omega)) <| asI rfl rfl <| tl_nil <| .loop_next (m' := n - (k + 1)) (by omega) (F' := [(0, _), (1, _), (4, _), (5, _)]) (.cons rfl (.cons rfl (.cons rfl (.cons rfl .nil)))) ?_
    exact ⟨k + 1, rfl, by omega, rfl, rfl, rfl, rfl⟩
  ·
    refine x_exit <| .then_exit <| .loop_exit <| .block_exit <| .then_normal <| .s0 <| zr <| as0 rfl rfl <| zq <| x_ret (ret1 rfl rfl (Le.refl _) ⟨rfl, rfl, rfl⟩)
theorem RMay13_spec {A : Option Addr} {n c : Nat} {l : List PairV} (h : Row M 2 A n c (prow l)) :
    Con Tryz.prog 29 #[.slice A n c] G M L (fun v M' L' => M = M' ∧ L = L' ∧ v = .bool (decide (okL l))) noPanic := by
  have hmx := h.max
  have hle := h.le
  have hln : l.length = n := by have := h.len; rw [prow, flat_len pcl] at this; omega
  refine enter (args := [_]) (fn := Tryz.f29) ⟨Tryz.func29, rfl, by kernel_rfl, by kernel_rfl⟩ 68 rfl <| zr <| as0 rfl rfl <| zq <| zr <| as0 rfl rfl <| zq <| zr2 <| mvS rfl rfl <| tl_y rfl (y_len rfl) ?_
  refine tl_y rfl (y_lss rfl rfl) <| mvB rfl rfl <| tl_cases (s := 14) rfl (fun hk1 => ?_) (fun hk1 => ?_)
  ·
    refine tl_skip rfl <| tl_skip rfl <| tl_skip rfl <| tl_y rfl (y_pickT rfl rfl) <| zq <| .s4 0 2 3 18 rfl rfl rfl rfl <| x_true rfl rfl <| zr <| as0 rfl rfl <| zq ?_
    refine x_ret (.then_ret (ret1 rfl rfl (Le.refl _) ⟨rfl, rfl, by rw [decide_eq_false (fun h => by have := h.1; omega)]⟩))
  ·
    refine mvS rfl rfl <| tl_y rfl (y_len rfl) <| tl_y rfl (y_gtr rfl rfl) <| tl_y rfl (y_pickF rfl rfl) <| zq <| .s4 0 2 3 18 rfl rfl rfl rfl <| x_cond rfl (fun hc1 => ?_) (fun hc1 => ?_)
    ·
      refine zr <| as0 rfl rfl <| zq <| x_ret (.then_ret (ret1 rfl rfl (Le.refl _) ⟨rfl, rfl, by rw [decide_eq_false (fun h => by have := h.1; omega)]⟩))
    ·
      refine x_skip <| .then_normal <| zr2 <| as0 rfl rfl <| zq <| x_block ?_
      refine x_loop (I := fun m' F D M1 L1 => ∃ k : Nat, m' = n - k ∧ k ≤ n ∧ (∀ p ∈ l.take k, good l p) ∧ D = [] ∧ M = M1 ∧ L = L1 ∧ F = [(0, .slice A n c), (2, .bool false), (3, .int .i64 (hsum ((l.take k).map tv) : Nat)), (4, .int .i64 k)]) (n) (F0 := [(0, _), (2, _), (3, _), (4, _)]) ?_ (.cons rfl (.cons rfl (.cons rfl (.cons rfl .nil)))) ?_  -- slots [0, 2, 3, 4], written [2, 3, 4]
      · exact ⟨0, rfl, by omega, fun p hp => by simp at hp, rfl, rfl, rfl, rfl⟩
      rintro m _ _ _ _ ⟨k, rfl, hk, hgd, rfl, rfl, rfl, rfl⟩
      have hs8 := hsum_le (fun p hp => (hgd p hp).1)
      have htl : (l.take k).length = k := by rw [List.length_take]; omega
      rw [htl] at hs8
      refine zr2 <| mvI rfl rfl <| mvS rfl rfl <| tl_y rfl (y_len rfl) <| tl_y rfl (y_lss rfl rfl) <| zq <| x_cond rfl (fun hc2 => ?_) (fun hc2 => ?_)
      ·
        have hkn : k < n := by omega
        obtain ⟨p, hp⟩ : ∃ p, l[k]? = some p := ⟨_, List.getElem?_eq_getElem (by omega)⟩
        have hmem : p ∈ l := List.mem_of_getElem? hp
        have hq0 : l[0]? = some (l.getD 0 p0) := by rw [List.getD_eq_getElem?_getD, List.getElem?_eq_getElem (by omega)]; rfl
        generalize hqq : l.getD 0 p0 = q at hq0
        have hmemq : q ∈ l := List.mem_of_getElem? hq0
        have htk : l.take (k + 1) = l.take k ++ [p] := by
          rw [List.take_add_one, hp]; rfl
        obtain ⟨g, o, rfl, hcell⟩ := h.cellsN (by omega)
        have hc5 := fun L => hcell L (k * 2) 2 (by rw [prow, flat_len pcl]; omega)
        simp only [prow, flat_take pcl l k p hp] at hc5
        have hc6 := fun L => hcell L (0 * 2) 2 (by rw [prow, flat_len pcl]; omega)
        simp only [prow, flat_take pcl l 0 q hq0] at hc6
        refine x_skip <| .then_normal <| .s4 0 2 3 4 rfl rfl rfl rfl <| x_seq <| x_block <| zr <| mvS rfl rfl <| mvI rfl rfl <| tl_y rfl (y_indexAddr rfl rfl (by omega)) <| tl_y rfl (y_loadAgg rfl rfl (.at_ (hc5 _) (by omega))) <| tl_e rfl <| e_call' rfl (RSets12_spec p) ?_
        rintro _ _ _ _ ⟨rfl, rfl, rfl⟩
        refine mvU rfl rfl <| zx rfl rfl <| zx rfl rfl <| zx rfl rfl <| tl_e rfl <| e_alloc <| fun b1 => tl_e rfl <| e_alloc <| fun b2 => tl_e rfl <| e_st rfl rfl (by rfl) (by rfl) <| tl_e rfl <| e_st rfl rfl (by rfl) (by rfl) <| asB rfl rfl <| zq ?_
        refine .s6 0 2 3 4 6 7 rfl rfl rfl rfl rfl rfl <| zr <| mvS rfl rfl <| tl_y rfl (y_indexAddr rfl rfl (by omega)) <| tl_y rfl (y_loadAgg rfl rfl (.at_ (hc6 _) (by omega))) <| tl_e rfl <| e_call' rfl (RSets12_spec q) ?_
        rintro _ _ _ _ ⟨rfl, rfl, rfl⟩
        refine mvU rfl rfl <| zx rfl rfl <| zx rfl rfl <| zx rfl rfl <| tl_e rfl <| e_alloc <| fun b3 => tl_e rfl <| e_alloc <| fun b4 => tl_e rfl <| e_st rfl rfl (by rfl) (by rfl) <| tl_e rfl <| e_st rfl rfl (by rfl) (by rfl) <| asB rfl rfl <| zq ?_
        refine .s8 0 2 3 4 6 7 9 10 rfl rfl rfl rfl rfl rfl rfl rfl <| zr2 <| mvB rfl rfl <| tl_y rfl (y_notd rfl) <| mvB rfl rfl <| tl_cases (s := 44) rfl (fun hk2 => ?_) (fun hk2 => ?_)
        ·
          refine tl_skip rfl <| tl_skip rfl <| tl_y rfl (y_pickT rfl rfl) <| mvB rfl rfl <| tl_skip rfl <| tl_skip rfl <| tl_skip rfl <| tl_skip rfl <| tl_skip rfl <| tl_y rfl (y_pickT rfl rfl) ?_
          refine mvB rfl rfl <| tl_skip rfl <| tl_skip rfl <| tl_skip rfl <| tl_skip rfl <| tl_skip rfl <| tl_y rfl (y_pickT rfl rfl) <| zq <| .s6 0 2 3 4 6 61 rfl rfl rfl rfl rfl rfl <| x_true rfl rfl ?_
          refine zr <| as0 rfl rfl <| zq <| x_ret (.then_ret (.block_ret (.then_ret (.loop_ret (.block_ret (.then_ret (.dropTo L inferInstance (ret1 rfl rfl (Le.refl _) ⟨rfl, rfl, by rw [decide_eq_false (fun h => hk2 (h.2.1 p hmem).1)]⟩))))))))
        ·
          refine mvB rfl rfl <| tl_y rfl (y_notd rfl) <| tl_y rfl (y_pickF rfl rfl) <| mvB rfl rfl <| tl_cases (s := 48) rfl (fun hk3 => ?_) (fun hk3 => ?_)
          ·
            refine tl_skip rfl <| tl_skip rfl <| tl_skip rfl <| tl_skip rfl <| tl_skip rfl <| tl_y rfl (y_pickT rfl rfl) <| mvB rfl rfl <| tl_skip rfl <| tl_skip rfl <| tl_skip rfl ?_
            refine tl_skip rfl <| tl_skip rfl <| tl_y rfl (y_pickT rfl rfl) <| zq <| .s6 0 2 3 4 6 61 rfl rfl rfl rfl rfl rfl <| x_true rfl rfl <| zr <| as0 rfl rfl <| zq <| x_ret (.then_ret (.block_ret (.then_ret (.loop_ret (.block_ret (.then_ret (.dropTo L inferInstance (ret1 rfl rfl (Le.refl _) ⟨rfl, rfl, by rw [decide_eq_false (fun h => hk3 (h.2.1 q hmemq).1)]⟩))))))))
          ·
            refine tl_y rfl (y_fieldAddr rfl) <| tl_y rfl (y_ld rfl rfl) <| tl_y rfl (y_fieldAddr rfl) <| tl_y rfl (y_ld rfl rfl) <| tl_y rfl (y_neq rfl rfl) <| tl_y rfl (y_pickF rfl rfl) <| mvB rfl rfl <| tl_cases (s := 55) rfl (fun hk4 => ?_) (fun hk4 => ?_)
            ·
              refine tl_skip rfl <| tl_skip rfl <| tl_skip rfl <| tl_skip rfl <| tl_skip rfl <| tl_y rfl (y_pickT rfl rfl) <| zq <| .s6 0 2 3 4 6 61 rfl rfl rfl rfl rfl rfl <| x_true rfl rfl <| zr ?_
              refine as0 rfl rfl <| zq <| x_ret (.then_ret (.block_ret (.then_ret (.loop_ret (.block_ret (.then_ret (.dropTo L inferInstance (ret1 rfl rfl (Le.refl _) ⟨rfl, rfl, by rw [decide_eq_false (fun h => hk4 (by have := (h.2.1 p hmem).2.1; rw [hqq] at this; exact this))]⟩))))))))
            ·
              refine tl_y rfl (y_fieldAddr rfl) <| tl_y rfl (y_ld rfl rfl) <| tl_y rfl (y_fieldAddr rfl) <| tl_y rfl (y_ld rfl rfl) <| tl_y rfl (y_neq rfl rfl) <| tl_y rfl (y_pickF rfl rfl) <| zq <| .s6 0 2 3 4 6 61 rfl rfl rfl rfl rfl rfl <| x_cond rfl (fun hc3 => ?_) (fun hc3 => ?_)
              ·
                refine zr <| as0 rfl rfl <| zq <| x_ret (.then_ret (.block_ret (.then_ret (.loop_ret (.block_ret (.then_ret (.dropTo L inferInstance (ret1 rfl rfl (Le.refl _) ⟨rfl, rfl, by rw [decide_eq_false (fun h => hc3 (by have := (h.2.1 p hmem).2.2; rw [hqq] at this; exact this))]⟩))))))))
              ·
                have hokp : okP p := Classical.not_not.1 hk2
                obtain ⟨hH, hH1, hH25⟩ := okP_h hokp
                have hsn : hsum ((l.take (k + 1)).map tv) = hsum ((l.take k).map tv) + hN (tv p) := by rw [htk, List.map_append]; exact hsum_snoc _ _
                refine x_skip <| .then_normal <| x_region <| mvI rfl rfl <| tl_y rfl (y_fieldAddr rfl) <| tl_y rfl (y_load (v := .int .i64 ((hN (tv p) : Nat) : Int)) rfl rfl (by rw [← hH]; exact .own inferInstance inferInstance)) <| tl_y rfl (y_addI rfl rfl (by omega)) ?_
                rw [show ((hsum ((l.take k).map tv) : Nat) : Int) + ((hN (tv p) : Nat) : Int) = ((hsum ((l.take (k + 1)).map tv) : Nat) : Int) by rw [hsn]; omega]
                refine asI rfl rfl <| tl_nil <| .block_normal <| .then_normal <| .s4 0 2 3 4 rfl rfl rfl rfl <| x_region <| mvI rfl rfl <| tl_y rfl (y_addI rfl rfl (by omega)) <| asI rfl rfl <| .dropTo L inferInstance <| tl_nil <| .loop_next (m' := n - (k + 1)) (by omega) (F' := [(0, _), (2, _), (3, _), (4, _)]) (.cons rfl (.cons rfl (.cons rfl (.cons rfl .nil)))) ?_
                exact ⟨k + 1, rfl, by omega, fun x hx => by
                  rw [htk] at hx
                  rcases List.mem_append.1 hx with hx | hx
                  · exact hgd x hx
                  · obtain rfl := List.mem_singleton.1 hx
                    exact ⟨hokp, by rw [hqq]; exact Classical.not_not.1 hk4, by rw [hqq]; exact Classical.not_not.1 hc3⟩, rfl, rfl, rfl, rfl⟩
      ·
        obtain rfl : k = n := by omega
        rw [List.take_of_length_le (by omega)] at hgd ⊢
        refine x_exit <| .then_exit <| .loop_exit <| .block_exit <| .then_normal <| .s1 3 rfl <| zr <| mvI rfl rfl <| tl_y rfl (y_leq rfl rfl) <| asB rfl rfl <| zq <| x_ret (ret1 rfl rfl (Le.refl _) ⟨rfl, rfl, by
          congr 1
          rw [decide_eq_decide]
          exact ⟨fun h => ⟨⟨by omega, by omega⟩, hgd, by omega⟩, fun h => by have := h.2.2; omega⟩⟩)
end
end Go.Proofs.YtiimjodbaogjbaaGreatDoor
set_option linter.unusedVariables false
set_option linter.unusedSimpArgs false
set_option linter.constructorNameAsVariable false
namespace Go.Proofs.YtiimjodbaogjbaaGreatDoor
open Go Go.Eng
def l13 : List PairV := [⟨7, 4026531845⟩, ⟨7, 4026531846⟩]
theorem f13 : okL l13 ∧ totN l13 = 8 ∧ plE l13 5 = 0 ∧ plV l13 5 = [1, 1] ∧ plE l13 8 = 9 ∧ ¬ okL [] := by
 decide +kernel
theorem okL_one {p : PairV} (h : okP p) : okL [p] := by
 have := (okP_h h).2.2
 refine ⟨⟨by simp, by simp⟩, fun q hq => ?_, by simp [hsum]; omega⟩
 obtain rfl := List.mem_singleton.1 hq
 exact ⟨h, rfl, rfl⟩
theorem totN_one {p : PairV} (h : okP p) : totN [p] = pw2 (hN (tv p)) := by
 rw [totN, if_pos (okL_one h)]; simp [hsum]
theorem atN_lt {ts : List TreeV} {i : Nat} {t : TreeV} (h : ts[i]? = some t) (x : Nat) : atN ts x i < pw2 (hN t) := by
 have hg : ts.getD i tree0 = t := by rw [List.getD_eq_getElem?_getD, h]; rfl
 rw [atN, hg]
 exact Nat.mod_lt _ (pw2_pos _)
section
variable {G : World} {M : Mem} {L : Own}
theorem awake13_spec (hg : HsG M) : Con Tryz.prog 24 #[] G M L (fun v M' L' => L' = L ∧ v = .bool true) noPanic := by
 obtain ⟨hok, htot, e5, v5, e8, hnil⟩ := f13
 refine enter (args := []) (fn := Tryz.f24) ⟨Tryz.func24, rfl, by kernel_rfl, by kernel_rfl⟩ 54 rfl <| zr <| as0 rfl rfl <| zq <| zr <| tl_y rfl (y_build rfl) <| tl_y rfl (y_build rfl) <| tl_e rfl <| e_buildSlice rfl (by decide) <| fun b1 => .pub b1 inferInstance <| fun M1 hM1 hb1 => ?_
 have hrow : Row M1 2 (some ⟨b1, 0, none⟩) 2 2 (prow l13) := Row.whole (vs := prow l13) hb1 rfl (by omega)
 have hm := hM1
 refine asS rfl rfl <| zq <| .s1 1 rfl <| zr <| mvS rfl rfl <| tl_e rfl <| e_call' rfl (Places_spec (hg.mono hm) hrow 5) ?_
 rintro _ M2 _ hM2 ⟨rfl, A2, n2, c2, rfl, hr2⟩
 rw [show (5 : UInt64).toNat = 5 from rfl, v5] at hr2
 rw [show (5 : UInt64).toNat = 5 from rfl, e5]
 replace hm := hm.trans hM2
 refine mvU rfl rfl <| zx rfl rfl <| zx rfl rfl <| asS rfl rfl <| asI rfl rfl <| zq <| .s3 1 2 3 rfl rfl rfl <| zr <| mvS rfl rfl <| tl_e rfl <| e_call' rfl (Places_spec (hg.mono hm) (hrow.mono hM2) 8) ?_
 rintro _ M3 _ hM3 ⟨rfl, A3, n3, c3, rfl, hr3⟩
 rw [show (8 : UInt64).toNat = 8 from rfl, e8]
 replace hm := hm.trans hM3
 refine mvU rfl rfl <| zx rfl rfl <| zx rfl rfl <| asS rfl rfl <| asI rfl rfl <| zq <| .s4 1 2 3 5 rfl rfl rfl rfl <| zr <| tl_e rfl <| e_buildSlice rfl (by decide) <| fun b2 => .pub b2 inferInstance <| fun M4 hM4 hb2 => ?_
 replace hm := hm.trans hM4
 refine tl_e rfl <| e_call' rfl (Read_short (by omega)) ?_
 rintro _ M5 _ hM5 ⟨rfl, rfl⟩
 replace hm := hm.trans hM5
 have hd5 := hM2.trans (hM3.trans (hM4.trans hM5))
 refine mvU rfl rfl <| zx rfl rfl <| zx rfl rfl <| asS rfl rfl <| asI rfl rfl <| zq <| .s5 1 2 3 5 7 rfl rfl rfl rfl rfl <| zr <| mvS rfl rfl <| tl_e rfl <| e_call' rfl (hMay_spec (hg.mono hm) (hrow.mono hd5)) ?_
 rintro _ M6 _ hM6 ⟨rfl, rfl⟩
 replace hm := hm.trans hM6
 refine mvB rfl rfl <| tl_set (s := 28) (u := .bool true) rfl (congrArg Value.bool (decide_eq_true hok)) <| mvS rfl rfl <| tl_e rfl <| e_call' rfl (Total_spec (hg.mono hm) (hrow.mono (hd5.trans hM6))) ?_
 rintro _ M7 _ hM7 ⟨rfl, rfl⟩
 rw [htot]
 replace hm := hm.trans hM7
 refine tl_y rfl (y_eql rfl rfl) <| tl_y rfl (y_pickT rfl rfl) <| mvB rfl rfl <| tl_set (s := 33) (u := .bool true) rfl (rfl) <| mvI rfl rfl <| tl_y rfl (y_eql rfl rfl) <| tl_y rfl (y_pickT rfl rfl) <| mvB rfl rfl <| tl_set (s := 37) (u := .bool true) rfl (rfl) <| mvS rfl rfl ?_
 refine tl_e rfl <| e_buildSlice rfl (by decide) <| fun b3 => .pub b3 inferInstance <| fun M8 hM8 hb3 => ?_
 replace hm := hm.trans hM8
 refine tl_e rfl <| e_call' rfl (Words_spec (hr2.mono (hM3.trans (hM4.trans (hM5.trans (hM6.trans (hM7.trans hM8)))))) (Row.whole (vs := u32r [1, 1]) hb3 rfl (by omega)) rfl) ?_
 rintro _ _ _ _ ⟨rfl, rfl, rfl⟩
 refine tl_y rfl (y_pickT rfl rfl) <| mvB rfl rfl <| tl_set (s := 42) (u := .bool true) rfl (rfl) <| mvI rfl rfl <| tl_y rfl (y_eql rfl rfl) <| tl_y rfl (y_pickT rfl rfl) <| mvB rfl rfl <| tl_set (s := 46) (u := .bool true) rfl (rfl) <| mvI rfl rfl <| tl_y rfl (y_eql rfl rfl) ?_
 refine tl_y rfl (y_pickT rfl rfl) <| mvB rfl rfl <| tl_set (s := 50) (u := .bool true) rfl (rfl) <| tl_e rfl <| e_call' rfl (hMay_spec (l := []) (hg.mono hm) (Row.nil _ _)) ?_
 rintro _ M9 _ hM9 ⟨rfl, rfl⟩
 refine tl_y rfl (y_notd rfl) <| tl_y rfl (y_pickT rfl rfl) <| asB rfl rfl <| zq <| .s1 0 rfl <| x_ret (ret1 rfl rfl (hm.trans hM9) ⟨rfl, congrArg Value.bool (decide_eq_true hnil)⟩)
end
end Go.Proofs.YtiimjodbaogjbaaGreatDoor
set_option linter.unusedVariables false
set_option linter.unusedSimpArgs false
namespace Go.Proofs.YtiimjodbaogjbaaGreatDoor
open Go Go.Eng
def belE (x : PairV) (nl sl : Nat) : Int := if ¬ okP x then 4 else if ¬ okY (otsV x.o) nl sl then 1 else 0
def belN (x : PairV) (name sec : List UInt8) (q : Nat) : List UInt8 := (hidB (otsV x.o) name sec q 65535).take 16
def belS (x : PairV) (name sec : List UInt8) (q : Nat) : List UInt8 := hidB (otsV x.o) name sec q 65534
theorem bel_len {x : PairV} {n w p H : Nat} (hx : PF x n w p H) (name sec : List UInt8) (q : Nat) : (belN x name sec q).length = 16 ∧ (belS x name sec q).length = n := by
 have h1 := hidB_len hx.o name sec q 65535
 have h2 := hx.o.n32
 exact ⟨by rw [belN, List.length_take, h1]; omega, hidB_len hx.o name sec q 65534⟩
def seedR (l : List PairV) (at_ : List Nat) (name sec : List UInt8) : Nat → List UInt8 × List UInt8
 | 0 => (name, sec)
 | i + 1 => (belN (l.getD i p0) (seedR l at_ name sec i).1 (seedR l at_ name sec i).2 (at_.getD i 0), belS (l.getD i p0) (seedR l at_ name sec i).1 (seedR l at_ name sec i).2 (at_.getD i 0))
def canB (l : List PairV) (nl sl : Nat) : Prop := ∀ p ∈ l, (tv p).h ≤ 10 ∧ okY (otsV p.o) nl sl
instance {l : List PairV} {nl sl : Nat} : Decidable (canB l nl sl) := inferInstanceAs (Decidable (∀ p ∈ l, _))
def canE (l : List PairV) (nl sl : Nat) : Int := if ¬ okL l then 4 else if ¬ canB l nl sl then 1 else 0
theorem canE_zero {l : List PairV} {nl sl : Nat} (h : canE l nl sl = 0) : okL l ∧ canB l nl sl := by
  unfold canE at h
  split at h
  · cases h
  · rename_i h1
    split at h
    · cases h
    · rename_i h2
      exact ⟨Classical.not_not.1 h1, Classical.not_not.1 h2⟩
theorem canE_ok {l : List PairV} {nl sl : Nat} (h1 : okL l) (h2 : canB l nl sl) : canE l nl sl = 0 := by rw [canE, if_neg (fun h => h h1), if_neg (fun h => h h2)]
theorem okL_get {l : List PairV} (h : okL l) {i : Nat} (hi : i < l.length) : okP (l.getD i p0) ∧ l.getD i p0 ∈ l ∧ l[i]? = some (l.getD i p0) ∧ (otsV (l.getD i p0).o).n = (tv (l.getD 0 p0)).n := by
 have e : l[i]? = some (l.getD i p0) := by rw [List.getD_eq_getElem?_getD, List.getElem?_eq_getElem hi]; rfl
 have hm := List.mem_of_getElem? e
 have hg := h.2.1 _ hm
 exact ⟨hg.1, hm, e, hg.1.2.2.2.trans hg.2.2⟩
theorem seedR_ok {l : List PairV} {nl sl : Nat} (hok : okL l) (hc : canB l nl sl) (at_ : List Nat) {name sec : List UInt8} (hn : name.length = nl) (hs : sec.length = sl) : ∀ i, i ≤ l.length → (seedR l at_ name sec i).1.length = 16 ∧ ((seedR l at_ name sec i).2.length : Int) = (tv (l.getD 0 p0)).n
 | 0, _ => by
  obtain ⟨h1, h2, h3, h4⟩ := okL_get hok (i := 0) (by have := hok.1.1; omega)
  obtain ⟨h5, h6⟩ := hc _ h2
  exact ⟨by rw [seedR, hn]; exact h6.2.1, by rw [seedR, hs, ← h4]; exact h6.2.2⟩
 | i + 1, hi => by
  obtain ⟨h1, h2, h3, h4⟩ := okL_get hok (i := i) (by omega)
  obtain ⟨n, w, p, H, hx⟩ := okP_facts h1
  obtain ⟨k1, k2⟩ := bel_len hx (seedR l at_ name sec i).1 (seedR l at_ name sec i).2 (at_.getD i 0)
  refine ⟨k1, ?_⟩
  rw [seedR, k2, ← h4, hx.o.hn]
theorem seedR_may {l : List PairV} {nl sl : Nat} (hok : okL l) (hc : canB l nl sl) (at_ : List Nat) {name sec : List UInt8} (hn : name.length = nl) (hs : sec.length = sl) {i j : Nat} (hi : i ≤ l.length) (hj : j < l.length) :
  okY (otsV (l.getD j p0).o) (seedR l at_ name sec i).1.length (seedR l at_ name sec i).2.length ∧ mayC (l.getD j p0) (seedR l at_ name sec i).1.length (seedR l at_ name sec i).2.length = 0 := by
 obtain ⟨h1, h2, h3, h4⟩ := okL_get hok hj
 obtain ⟨k1, k2⟩ := seedR_ok hok hc at_ hn hs i hi
 have hy : okY (otsV (l.getD j p0).o) (seedR l at_ name sec i).1.length (seedR l at_ name sec i).2.length := ⟨(otsV_code h1.1).2, k1, by rw [k2, h4]⟩
 exact ⟨hy, mayC_ok h1 (hc _ h2).1 hy⟩
def pubR (l : List PairV) (at_ : List Nat) (name sec : List UInt8) (i : Nat) : List UInt8 := pubB (l.getD i p0) (seedR l at_ name sec i).1 (seedR l at_ name sec i).2
def nextR (l : List PairV) (at_ : List Nat) (name sec text : List UInt8) (i : Nat) : List UInt8 := if i + 1 < l.length then pubR l at_ name sec (i + 1) else text
def sgR (l : List PairV) (at_ : List Nat) (name sec text : List UInt8) (i : Nat) : List UInt8 := lsigB (l.getD i p0) (seedR l at_ name sec i).1 (seedR l at_ name sec i).2 (at_.getD i 0) (nextR l at_ name sec text i)
def levR (l : List PairV) (at_ : List Nat) (name sec text : List UInt8) (i : Nat) : List UInt8 := sgR l at_ name sec text i ++ (if i + 1 < l.length then pubR l at_ name sec (i + 1) else [])
def hsigB (l : List PairV) (at_ : List Nat) (name sec text : List UInt8) : List UInt8 := putB (l.length - 1) 4 ++ catR (levR l at_ name sec text) l.length
def hpubB (l : List PairV) (name sec : List UInt8) : List UInt8 := putB l.length 4 ++ pubB (l.getD 0 p0) name sec
def hpubV (l : List PairV) (nl sl : Nat) (name sec : List UInt8) : List UInt8 := if canE l nl sl = 0 then hpubB l name sec else []
def hsigE (l : List PairV) (nl sl x tl : Nat) : Int := if canE l nl sl ≠ 0 then canE l nl sl else if 65536 < tl then 1 else plE l x
def hsigV (l : List PairV) (nl sl x tl : Nat) (name sec text : List UInt8) : List UInt8 := if hsigE l nl sl x tl = 0 then hsigB l (atsN (l.map tv) x) name sec text else []
structure PartB where
 key : List UInt8
 sig : List UInt8
 next : List UInt8
def keyE (bs : List UInt8) : Int := if bs.length < 8 then 2 else if ¬ okP (pairC bs) then 4 else if bs.length < pubN (pairC bs) then 2 else 0
def keyT (bs : List UInt8) : List UInt8 := bs.take (pubN (pairC bs))
def keyD (bs : List UInt8) : List UInt8 := bs.drop (pubN (pairC bs))
def sgT (k b : List UInt8) : List UInt8 := b.take (sigN (pairC k))
def sgD (k b : List UInt8) : List UInt8 := b.drop (sigN (pairC k))
def parse : Nat → List UInt8 → List UInt8 → Int × List PartB
 | 0, k, b => if b.length < sigN (pairC k) then (2, []) else if b.length ≠ sigN (pairC k) then (5, []) else (0, [⟨k, sgT k b, []⟩])
 | m + 1, k, b => if b.length < sigN (pairC k) then (2, []) else if keyE (sgD k b) ≠ 0 then (keyE (sgD k b), []) else
   if (parse m (keyT (sgD k b)) (keyD (sgD k b))).1 ≠ 0 then ((parse m (keyT (sgD k b)) (keyD (sgD k b))).1, []) else
   (0, ⟨k, sgT k b, keyT (sgD k b)⟩ :: (parse m (keyT (sgD k b)) (keyD (sgD k b))).2)
def readP (pub sig : List UInt8) : Int × List PartB :=
 if pub.length < 4 then (2, []) else if keyE (pub.drop 4) ≠ 0 then (keyE (pub.drop 4), []) else if (pub.drop 4).length ≠ pubN (pairC (pub.drop 4)) then (5, []) else
 if getB (pub.take 4) < 1 ∨ 8 < getB (pub.take 4) then (3, []) else if sig.length < 4 then (2, []) else if getB (sig.take 4) ≠ getB (pub.take 4) - 1 then (3, []) else
 parse (getB (pub.take 4) - 1) (pub.drop 4) (sig.drop 4)
def partF (text : List UInt8) (x : PartB) : Prop := fitK x.key (if x.next = [] then text.length else x.next.length) (if x.next = [] then text else x.next) x.sig
instance {text : List UInt8} {x : PartB} : Decidable (partF text x) := inferInstanceAs (Decidable (fitK _ _ _ _))
end Go.Proofs.YtiimjodbaogjbaaGreatDoor
set_option linter.unusedVariables false
set_option linter.unusedSimpArgs false
set_option linter.constructorNameAsVariable false
namespace Go.Proofs.YtiimjodbaogjbaaGreatDoor
open Go Go.Eng
structure LmG (M : Mem) : Prop where
 ch : ChG M
 tr : SetT M
theorem LmG.mono {M M' : Mem} (h : LmG M) (hle : Le M M') : LmG M' := ⟨h.ch.mono hle, h.tr.mono hle⟩
theorem LmG.hs {M : Mem} (h : LmG M) : HsG M := ⟨h.ch.set, h.tr⟩
theorem LmG.mr {M : Mem} (h : LmG M) : MrG M := ⟨h.ch.sha, h.ch.kec, h.tr⟩
section
variable {G : World} {M : Mem} {L : Own}
theorem caughtB1_ret {b c : Nat} {x : Int} {cs : List Value} : ConD Tryz.prog 140 #[.pointer (some ⟨b, 0, none⟩), .pointer (some ⟨c, 0, none⟩)] .returning G M ((c, .cells (List.toArray [.int .i64 x]) 38 (0, 0)) :: (b, .cells cs.toArray 35 (0, 0)) :: L) (fun u' M' L' => u' = .returning ∧ M' = M ∧ L' = (c, .cells (List.toArray [.int .i64 x]) 38 (0, 0)) :: (b, .cells cs.toArray 35 (0, 0)) :: L) := by
 refine enterRec (args := [_, _]) (fn := Tryz.f140) ⟨Tryz.func140, rfl, by kernel_rfl, by kernel_rfl⟩ 15 rfl rfl <| x_block <| zr <| tl_y rfl (y_eqNilIface rfl rfl) <| zq <| x_true rfl (rfl) <| x_region <| as0 rfl rfl <| tl_nil (.block_normal (.rec_normal (Le.refl _) ⟨rfl, rfl, rfl⟩))
theorem caughtB1_wrong {b c : Nat} {x e : Int} : ConD Tryz.prog 140 #[.pointer (some ⟨b, 0, none⟩), .pointer (some ⟨c, 0, none⟩)] (.panicking (lwrong e)) G M ((c, .cells (List.toArray [.int .i64 x]) 38 (0, 0)) :: (b, .cells (List.toArray [.slice none 0 0]) 35 (0, 0)) :: L)
  (fun u' M' L' => u' = .panicking [{ v := lwrongv e, recovered := true }] ∧ M' = M ∧ L' = (c, .cells (List.toArray [.int .i64 e]) 38 (0, 0)) :: (b, .cells (List.toArray [.slice none 0 0]) 35 (0, 0)) :: L) := by
 refine enterRec (args := [_, _]) (fn := Tryz.f140) ⟨Tryz.func140, rfl, by kernel_rfl, by kernel_rfl⟩ 15 rfl rfl <| x_block <| zr <| tl_y rfl (y_eqIfaceNil rfl rfl) <| zq <| x_false rfl (rfl) <| zr <| tl_y rfl (y_assertOk rfl (by intro _ h; cases h)) <| zx rfl rfl <| zx rfl rfl ?_
 refine zq <| x_true rfl (rfl) <| zr <| tl_e rfl <| e_alloc <| fun b7 => tl_e rfl <| e_st rfl rfl (by rfl) (by rfl) <| zq <| .s3 0 1 3 rfl rfl rfl <| zr <| as0 rfl rfl <| zq ?_
 refine x_draw0 4 ((b7, .cells (List.toArray [.int .i64 e]) 160 (0, 0)) :: []) Keeps.mem hmix rfl <| zp 0 rfl rfl (y_move (v := .slice _ _ _) rfl) <| zp 1 rfl rfl (y_fieldAddr rfl) <| zy 2 rfl rfl (y_ld rfl rfl) <| ze 3 rfl rfl <| e_st rfl rfl (by rfl) (by rfl) <| ⟨⟨(by first | exact Le.refl _ | assumption), Keeps.mem⟩, ?_⟩
 refine zt 4 rfl rfl <| e_st rfl rfl (by rfl) (by rfl) <| zz (.block_normal (.dropTo ((c, .cells (List.toArray [.int .i64 e]) 38 (0, 0)) :: (b, .cells (List.toArray [.slice none 0 0]) 35 (0, 0)) :: L) inferInstance (.rec_normal (Le.refl _) ⟨rfl, rfl, rfl⟩)))
theorem caughtB_spec {wf : FuncId} {first cap : List Value} {K : Option Addr → Nat → Nat → Mem → Prop} {Kp : Int → Prop}
  (hw : ∀ p q, Con Tryz.prog wf (first ++ [] ++ cap).toArray G M (p :: q :: L) (fun v M' L' => L' = p :: q :: L ∧ ∃ A n c, v = .slice A n c ∧ K A n c M') (fun ch M' L' => L' = p :: q :: L ∧ ∃ e, Kp e ∧ ch = lwrong e)) :
  Con Tryz.prog 81 #[.func (.func wf) first.toArray cap.toArray] G M L (fun v M' L' => L' = L ∧ ((∃ A n c, v = .tuple #[.slice A n c, .int .i64 0] ∧ K A n c M') ∨ (∃ e, v = .tuple #[.slice none 0 0, .int .i64 e] ∧ Kp e))) noPanic := by
 refine enterD (args := [_]) (fn := Tryz.f81) ⟨Tryz.func81, rfl, by kernel_rfl, by kernel_rfl⟩ 7 rfl <| zr <| tl_e rfl <| e_alloc <| fun b1 => tl_e rfl <| e_alloc <| fun b2 => zq <| zr <| tl_y rfl (y_makeFunc rfl rfl) <| tl_e rfl <| e_defer rfl rfl rfl <| zq <| zr ?_
 refine mvF rfl rfl <| tl_e rfl (e_callv rfl rfl (hw _ _) (by
  rintro _ M1 _ hM1 ⟨rfl, e, hr, rfl⟩
  refine .retD (cap := [_, _]) (args := []) caughtB1_wrong ?_
  rintro _ M2 _ hM2 ⟨rfl, rfl, rfl⟩
  exact .inl ⟨rfl, _, L, rv2 rfl (rc_cell (by rfl) rfl (.own inferInstance inferInstance)) (rc_cell (by rfl) rfl (.own inferInstance inferInstance)), inferInstance, hM1, rfl, .inr ⟨e, rfl, hr⟩⟩) ?_)
 rintro _ M1 _ hM1 ⟨rfl, A, n, c, rfl, hk⟩
 refine tl_e rfl <| e_st rfl rfl (by rfl) (by rfl) <| tl_e rfl <| e_st rfl rfl (by rfl) (by rfl) <| zq <| .s2 2 3 rfl rfl <| x_ret <| .retD (cap := [_, _]) (args := []) (caughtB1_ret (cs := [.slice A n c])) ?_
 rintro _ M2 _ hM2 ⟨rfl, rfl, rfl⟩
 exact .inl ⟨rfl, _, L, rv2 rfl (rc_cell (by rfl) rfl (.own inferInstance inferInstance)) (rc_cell (by rfl) rfl (.own inferInstance inferInstance)), inferInstance, hM1, rfl, .inl ⟨A, n, c, rfl, hk⟩⟩
theorem lcode_spec (c : UInt32) :
  Con Tryz.prog 85 #[.int .u32 (c.toNat : Int)] G M L (fun v M' L' => L = L' ∧ ∃ A k, v = .slice A 4 k ∧ Bytes M' A 4 k (putB c.toNat 4)) noPanic := by
 have hc := c.toNat_lt
 refine enter (args := [_]) (fn := Tryz.f85) ⟨Tryz.func85, rfl, by kernel_rfl, by kernel_rfl⟩ 6 rfl <| zr <| as0 rfl rfl <| zq <| zr <| mvI rfl rfl <| tl_y rfl (y_convN64 rfl (by omega)) <| tl_e rfl <| e_call' rfl (PutV_spec c.toNat 4 (by omega) (by omega)) ?_
 rintro _ M1 _ hM1 ⟨rfl, A, k, rfl, hA⟩
 refine asS rfl rfl <| zq <| .s1 2 rfl <| x_ret (ret1 rfl rfl hM1 ⟨rfl, A, k, rfl, hA⟩)
theorem made_spec (hg : LmG M) (x : PairV) {NA SA : Option Addr} {nl nc sl sc : Nat} :
  Con Tryz.prog 83 #[.agg (List.toArray x.cells), .agg (List.toArray (seedC NA nl nc SA sl sc))] G M L (fun v M' L' => L' = L ∧ mayC x nl sl = 0 ∧ v = .agg (List.toArray (pcells (otsV x.o) (treeV x.t)))) (fun ch M' L' => L' = L ∧ mayC x nl sl ≠ 0 ∧ ch = lwrong (mayC x nl sl)) := by
 refine enter (args := [_, _]) (fn := Tryz.f83) ⟨Tryz.func83, rfl, by kernel_rfl, by kernel_rfl⟩ 20 rfl <| zr <| tl_e rfl <| e_box rfl <| fun b1 => tl_e rfl <| e_box rfl <| fun b2 => tl_e rfl <| e_alloc <| fun b3 => zq <| zr <| tl_y rfl (y_lg rfl rfl) <| tl_e rfl (e_call rfl (of_spec hg.hs x) (by
  rintro _ M1 _ hM1 ⟨rfl, hno, rfl⟩
  have e : mayC x nl sl = 4 := by rw [mayC, if_pos hno]
  exact TP.dropTo L inferInstance (.retA rfl hM1 ⟨rfl, by rw [e]; decide, by rw [e]⟩)) ?_)
 rintro _ M1 _ hM1 ⟨rfl, hok, rfl⟩
 have hm := hM1
 refine tl_e rfl <| e_alloc <| fun b4 => tl_e rfl <| e_st rfl rfl (by rfl) (by rfl) <| zq <| .s3 3 4 5 rfl rfl rfl <| zr <| tl_y rfl (y_fieldAddr rfl) <| tl_y rfl (y_fieldAddr rfl) <| tl_y rfl (y_ld rfl rfl) <| tl_y rfl (y_leq rfl rfl) <| mvB rfl rfl ?_
 refine tl_cases (s := 12) rfl (fun hk1 => ?_) (fun hk1 => ?_)
 ·
  refine tl_y rfl (y_fieldAddr rfl) <| tl_y rfl (y_lg rfl rfl) <| tl_y rfl (y_lg rfl rfl) <| tl_e rfl <| e_call' rfl (oMay_spec (hg.mono hm).ch.set (otsV x.o)) ?_
  rintro _ M2 _ hM2 ⟨rfl, rfl⟩
  replace hm := hm.trans hM2
  refine tl_y rfl (y_pickT rfl rfl) <| tl_e rfl (e_call rfl (lmust_spec _ _) (by
   rintro _ _ _ _ ⟨rfl, rfl, ht, rfl⟩
   have e : mayC x nl sl = 1 := by rw [mayC, if_neg (fun h => h hok), if_pos (.inr (by simpa using ht))]
   exact TP.dropTo L inferInstance (.retA rfl hm ⟨rfl, by rw [e]; decide, by rw [e]⟩)) ?_)
  rintro _ _ _ _ ⟨rfl, rfl, ht⟩
  refine zq <| .s2 4 5 rfl rfl <| zr <| tl_y rfl (y_lg rfl rfl) <| tl_e rfl <| e_st rfl rfl (by rfl) (by rfl) <| zq <| x_ret (retRV (L' := L) (rv1 rfl (rc_cellAgg (by rfl) rfl (.own inferInstance inferInstance))) inferInstance hm ⟨rfl, mayC_ok hok (by simpa using hk1) (by simpa using ht), rfl⟩)
 ·
  refine tl_skip rfl <| tl_skip rfl <| tl_skip rfl <| tl_skip rfl <| tl_y rfl (y_pickF rfl rfl) <| tl_e rfl (e_call rfl (lmust_spec _ _) (by
   rintro _ _ _ _ ⟨rfl, rfl, ht, rfl⟩
   have e : mayC x nl sl = 1 := by rw [mayC, if_neg (fun h => h hok), if_pos (.inl (by omega))]
   exact TP.dropTo L inferInstance (.retA rfl hm ⟨rfl, by rw [e]; decide, by rw [e]⟩)) ?_)
  rintro _ _ _ _ ⟨rfl, rfl, ht⟩
  refine zq <| .s2 4 5 rfl rfl <| zr <| tl_y rfl (y_lg rfl rfl) <| tl_e rfl <| e_st rfl rfl (by rfl) (by rfl) <| zq <| x_ret (absurd ht (by simp))
end
end Go.Proofs.YtiimjodbaogjbaaGreatDoor
set_option linter.unusedVariables false
set_option linter.unusedSimpArgs false
set_option linter.constructorNameAsVariable false
namespace Go.Proofs.YtiimjodbaogjbaaGreatDoor
open Go Go.Eng
section
variable {G : World} {M : Mem} {L : Own} {NA SA TA : Option Addr} {nl nc sl sc tl tc : Nat} {name sec text : List UInt8}
theorem range_snoc {α : Type} (rows : Nat → α) (k : Nat) : (List.range (k + 1)).map rows = (List.range k).map rows ++ [rows k] := by rw [List.range_succ, List.map_append]; rfl
theorem each_lspec {n : Nat} (hn : n ≤ 33554432) {fid : FuncId} {cap : List Value} {rows : Nat → List UInt8} (hl : ∀ i, (rows i).length ≤ 32)
    (hdo : ∀ (z : UInt32) (i : Nat) (M1 : Mem) (X : Own), z.toNat = i → i < n → Le M M1 → (∀ e ∈ L, e ∈ X) → Con Tryz.prog fid (([] : List Value) ++ [Value.int .u32 (i : Int)] ++ cap).toArray G M1 X (fun v M' L' => X = L' ∧ ∃ A m c, v = .slice A m c ∧ Bytes M' A m c (rows i)) noPanic) :
    Con Tryz.prog 144 #[.int .u64 (n : Int), .func (.func fid) (List.toArray []) cap.toArray] G M L (fun v M' L' => L = L' ∧ ∃ A c vs, v = .slice A n c ∧ Row M' 1 A n c vs ∧ BRows M' vs ((List.range n).map rows)) noPanic := by
  refine enter (args := [_, _]) (fn := Tryz.f144) ⟨Tryz.func144, rfl, by kernel_rfl, by kernel_rfl⟩ 22 rfl <| zr <| as0 rfl rfl <| zq <| zr <| mvI rfl rfl <| tl_e rfl <| e_make1 rfl rfl (by omega) (by omega) (by omega) (by omega) <| fun b1 => asS rfl rfl <| zq <| zr2 ?_
  refine mvI rfl rfl <| mv0 rfl rfl <| zq <| .s4 1 5 9 10 rfl rfl rfl rfl <| x_block ?_
  refine x_loop (I := fun m' F D M1 L1 => ∃ (i : Nat) (A : Option Addr) (c : Nat) (E : Own) (vs : List Value), m' = n - i ∧ i ≤ n ∧ Le M M1 ∧ OwnRow 35 1 A i c vs E ∧ BRows M1 vs ((List.range i).map rows) ∧ D = [] ∧ L1 = E ++ L ∧ F = [(1, .func (.func fid) (List.toArray []) cap.toArray), (5, .slice A i c), (9, .int .u64 (n : Int)), (10, .int .u64 (i : Int))]) (n) (F0 := [(1, _), (5, _), (9, _), (10, _)]) ?_ (.cons rfl (.cons rfl (.cons rfl (.cons rfl .nil)))) ?_  -- slots [1, 5, 9, 10], written [5, 10]
  · exact ⟨0, _, _, _, [], rfl, by omega, Le.refl _, OwnRow.made0 (n := n) (by simp) (by omega), .nil, rfl, rfl, rfl⟩
  rintro m _ _ M1 _ ⟨i, A, c, E, vs, rfl, hi, hM1, hE, hB, rfl, rfl, rfl⟩
  refine zr <| tl_y rfl (y_lss rfl rfl) <| zq <| x_seq <| x_cond rfl (fun hc1 => ?_) (fun hc1 => ?_)
  ·
    have hip : i < n := by omega
    obtain ⟨z, hz⟩ : ∃ z : UInt32, z.toNat = i := ⟨UInt32.ofNat i, by rw [UInt32.toNat_ofNat', Nat.mod_eq_of_lt (by omega)]⟩
    refine x_skip <| .then_normal <| x_seq <| x_block <| zr <| mvI rfl rfl <| asI rfl rfl <| zq <| x_region <| mvS rfl rfl <| mvF rfl rfl ?_
    refine mvI rfl rfl <| tl_y rfl (y_convN32 rfl (by omega)) <| tl_e rfl <| e_callv rfl rfl (hdo z i M1 _ hz hip hM1 Keeps.mem) (fun _ _ _ _ h => h.elim) ?_
    rintro _ M2 _ hM2 ⟨rfl, A2, m2, c2, rfl, hA2⟩
    refine tl_e rfl <| e_buildSlice rfl (by decide) <| fun b2 => .pub b2 inferInstance <| fun M3 hM3 hb3 => tl_e rfl <| e_append (by decide) rfl rfl hE (.row (Row.whole (s := 1) hb3 rfl (by omega))) rfl (by omega) (by omega) <| fun A7 c7 E7 hE7 => asS rfl rfl <| tl_nil <| .block_normal <| .then_normal <| .s4 1 5 9 10 rfl rfl rfl rfl <| x_region <| tl_y rfl (y_addN64 rfl rfl (by omega)) <| mvI rfl rfl <| tl_nil <| .loop_next (m' := n - (i + 1)) (by omega) (F' := [(1, _), (5, _), (9, _), (10, _)]) (.cons rfl (.cons rfl (.cons rfl (.cons rfl .nil)))) ?_
    exact ⟨i + 1, A7, c7, E7, _, rfl, by omega, hM1.trans (hM2.trans hM3), hE7, by rw [range_snoc]; exact (hB.mono (hM2.trans hM3)).snoc (hA2.mono hM3), rfl, rfl, rfl⟩
  ·
    obtain rfl : i = n := by omega
    refine .pubRow hE <| fun M4 hM4 hrow => x_exit <| .then_exit <| .loop_exit <| .block_exit <| .then_normal <| .s1 5 rfl <| zr <| mvS rfl rfl <| asS rfl rfl <| zq <| x_ret (ret1 rfl rfl (hM1.trans hM4) ⟨rfl, _, _, _, rfl, hrow, hB.mono hM4⟩)
theorem lkeys1_spec (hg : LmG M) (x : PairV) (hy : okY (otsV x.o) nl sl) (hname : Bytes M NA nl nc name) (hsec : Bytes M SA sl sc sec) (q : UInt32) {bx bs : Nat}
  [i1 : Has L bx (.cells (List.toArray (pcells (otsV x.o) (treeV x.t))) 86 (0, 0))] [i2 : Has L bs (.cells (List.toArray (seedC NA nl nc SA sl sc)) 49 (0, 0))] :
  Con Tryz.prog 145 #[.int .u32 (q.toNat : Int), .pointer (some ⟨bx, 0, none⟩), .pointer (some ⟨bs, 0, none⟩)] G M L (fun v M' L' => L = L' ∧ ∃ A m c, v = .slice A m c ∧ Bytes M' A m c (keyB (otsV x.o) name sec q.toNat)) noPanic := by
 refine enter (args := [_, _, _]) (fn := Tryz.f145) ⟨Tryz.func145, rfl, by kernel_rfl, by kernel_rfl⟩ 10 rfl <| zr <| as0 rfl rfl <| zq <| zr <| tl_y rfl (y_fieldAddr rfl) <| tl_y rfl (y_lg rfl rfl) <| tl_y rfl (y_lg rfl rfl) <| mvI rfl rfl <| tl_e rfl <| e_call' rfl (oKey_spec hg.ch (otsV x.o) hname hsec q) ?_
 rintro _ M1 _ hM1 ⟨rfl, A, m, c, rfl, hA⟩
 rw [if_pos hy] at hA
 refine asS rfl rfl <| zq <| .s1 4 rfl <| x_ret (ret1 rfl rfl hM1 ⟨rfl, _, _, _, rfl, hA⟩)
theorem lkeys_spec (hg : LmG M) {x : PairV} {n w p H : Nat} (hx : PF x n w p H) (hy : okY (otsV x.o) nl sl) (hname : Bytes M NA nl nc name) (hsec : Bytes M SA sl sc sec) :
  Con Tryz.prog 87 #[.agg (List.toArray (pcells (otsV x.o) (treeV x.t))), .agg (List.toArray (seedC NA nl nc SA sl sc))] G M L (fun v M' L' => L = L' ∧ ∃ A c vs, v = .slice A (pw2 H) c ∧ Row M' 1 A (pw2 H) c vs ∧ BRows M' vs (keysX x name sec)) noPanic := by
 have hpw := pw2_25 hx.h2
 refine enter (args := [_, _]) (fn := Tryz.f87) ⟨Tryz.func87, rfl, by kernel_rfl, by kernel_rfl⟩ 10 rfl <| zr <| tl_e rfl <| e_box rfl <| fun b1 => tl_e rfl <| e_box rfl <| fun b2 => as0 rfl rfl <| zq <| zr <| tl_y rfl (y_fieldAddr rfl) <| tl_y rfl (y_lg rfl rfl) <| tl_e rfl <| e_call' rfl (Leaves_spec (treeV x.t)) ?_
 rintro _ _ _ _ ⟨rfl, rfl, rfl⟩
 rw [hx.lv]
 refine tl_y rfl (y_makeFunc rfl rfl) <| tl_e rfl (e_call' rfl (each_lspec (rows := fun q => keyB (otsV x.o) name sec q) hpw (fun i => keyB_le _ _ _ _) (fun z i M2 X hz hi hM2 hX => by
  subst hz
  haveI i1 : Has X b1 (.cells (List.toArray (pcells (otsV x.o) (treeV x.t))) 86 (0, 0)) := ⟨hX _ (Has.mem)⟩
  haveI i2 : Has X b2 (.cells (List.toArray (seedC NA nl nc SA sl sc)) 49 (0, 0)) := ⟨hX _ (Has.mem)⟩
  exact lkeys1_spec (hg.mono hM2) x hy (hname.mono hM2) (hsec.mono hM2) z)) ?_)
 rintro _ M2 _ hM2 ⟨rfl, A2, c2, vs, rfl, hrow, hB⟩
 refine asS rfl rfl <| zq <| .s1 4 rfl <| x_ret (.dropTo L inferInstance (ret1 rfl rfl hM2 ⟨rfl, _, _, _, rfl, hrow, by rw [keysX, hx.lv]; exact hB⟩))
theorem Public1_lspec (hg : LmG M) (x : PairV) (hname : Bytes M NA nl nc name) (hsec : Bytes M SA sl sc sec) {bp bs : Nat}
  [i1 : Has L bp (.cells (List.toArray x.cells) 24 (0, 0))] [i2 : Has L bs (.cells (List.toArray (seedC NA nl nc SA sl sc)) 49 (0, 0))] :
  Con Tryz.prog 82 #[.pointer (some ⟨bp, 0, none⟩), .pointer (some ⟨bs, 0, none⟩)] G M L (fun v M' L' => L' = L ∧ ∃ A m c, v = .slice A m c ∧ mayC x nl sl = 0 ∧ Bytes M' A m c (pubB x name sec)) (fun ch M' L' => L' = L ∧ ∃ e, (mayC x nl sl ≠ 0 ∧ e = mayC x nl sl) ∧ ch = lwrong e) := by
 refine enter (args := [_, _]) (fn := Tryz.f82) ⟨Tryz.func82, rfl, by kernel_rfl, by kernel_rfl⟩ 25 rfl <| zr <| as0 rfl rfl <| zq <| zr <| tl_y rfl (y_lg rfl rfl) <| tl_y rfl (y_lg rfl rfl) <| tl_e rfl (e_call rfl (made_spec hg x) (by
  rintro _ M1 _ hM1 ⟨rfl, hno, rfl⟩
  exact .retA rfl hM1 ⟨rfl, _, ⟨hno, rfl⟩, rfl⟩) ?_)
 rintro _ M1 L hM1 ⟨rfl, hmay, rfl⟩
 obtain ⟨hok, hH10, hy⟩ := mayC_zero hmay
 obtain ⟨n, w, p, H, hx⟩ := okP_facts hok
 have hn32 := hx.o.n32
 have hnl := hy.2.1
 have hnn := hname.size
 have hpw := pw2_25 hx.h2
 refine tl_e rfl <| e_alloc <| fun b1 => tl_e rfl <| e_st rfl rfl (by rfl) (by rfl) <| zq <| .s3 0 1 3 rfl rfl rfl <| x_seq ?_
 have he : Le M1 M1 := Le.refl _
 have hd : Le M M1 := hM1
 refine x_draw 19 hmix rfl <| zp 0 rfl rfl (y_fieldAddr rfl) <| zy 1 rfl rfl (y_ld rfl rfl) <| zp 3 rfl rfl (y_fieldAddr rfl) <| zy 4 rfl rfl (y_ld rfl rfl) <| zp 6 rfl rfl (y_fieldAddr rfl) <| zy 7 rfl rfl (y_ld rfl rfl) <| zp 8 rfl rfl (y_fieldAddr rfl) <| zy 9 rfl rfl (y_lg rfl rfl) <| zp 10 rfl rfl (y_fieldAddr rfl) ?_
 refine zy 11 rfl rfl (y_ld rfl rfl) <| zy 12 rfl rfl (y_lg rfl rfl) <| zy 13 rfl rfl (y_lg rfl rfl) <| ze 2 rfl rfl <| e_call' rfl (lcode_spec x.t) ?_
 rintro _ M2 _ hM2 ⟨rfl, A2, c2, rfl, hA2⟩
 replace hd := hd.trans hM2
 replace he := he.trans hM2
 try replace hA3 := hA3.mono hM2
 try replace hA5 := hA5.mono hM2
 try replace hrow := hrow.mono hM2
 try replace hB := hB.mono hM2
 refine ⟨⟨he, Keeps.mem⟩, ?_⟩
 refine ze 5 rfl rfl <| e_call' rfl (lcode_spec x.o) ?_
 rintro _ M3 _ hM3 ⟨rfl, A3, c3, rfl, hA3⟩
 replace hd := hd.trans hM3
 replace he := he.trans hM3
 try replace hA2 := hA2.mono hM3
 try replace hA5 := hA5.mono hM3
 try replace hrow := hrow.mono hM3
 try replace hB := hB.mono hM3
 refine ⟨⟨he, Keeps.mem⟩, ?_⟩
 refine ze 14 rfl rfl <| e_call' rfl (lkeys_spec (hg.mono hd) hx hy (hname.mono hd) (hsec.mono hd)) ?_
 rintro _ M4 _ hM4 ⟨rfl, A4, c4, kvs, rfl, hrow, hB⟩
 replace hd := hd.trans hM4
 replace he := he.trans hM4
 try replace hA2 := hA2.mono hM4
 try replace hA3 := hA3.mono hM4
 refine ⟨⟨he, Keeps.mem⟩, ?_⟩
 refine ze 15 rfl rfl <| e_call' rfl (Root_spec (hg.mono hd).mr (treeV x.t) (hname.mono hd) hrow hB (keysB_le _ _ _ _)) ?_
 rintro _ M5 _ hM5 ⟨rfl, A5, m5, c5, rfl, hA5⟩
 rw [if_pos ⟨by rw [hnl]; exact hx.s, hH10, hx.lv.symm⟩] at hA5
 replace hd := hd.trans hM5
 replace he := he.trans hM5
 try replace hA2 := hA2.mono hM5
 try replace hA3 := hA3.mono hM5
 refine ⟨⟨he, Keeps.mem⟩, ?_⟩
 refine ze 16 rfl rfl <| e_buildSlice rfl (by decide) <| fun b7 => ⟨⟨he, Keeps.mem⟩, ?_⟩
 refine .pub b7 inferInstance <| fun M6 hM6 hb7 => ?_
 have hd6 := hd.trans hM6
 have he6 := he.trans hM6
 have hfl : [putB x.t.toNat 4, putB x.o.toNat 4, name, rootB (treeV x.t) name (keysX x name sec)].flatten = pubB x name sec := by simp [pubB]
 have hm5 := hA5.size
 have hrl : (rootB (treeV x.t) name (keysX x name sec)).length ≤ 32 := (lvl_short _ _ _ _).get 0
 have hfll : (pubB x name sec).length ≤ 100 := by
  rw [pubB, List.length_append, List.length_append, List.length_append, putB_length, putB_length]; omega
 refine ze 17 rfl rfl <| e_call' rfl (Cat_spec (Row.whole hb7 rfl (by omega)) (.cons (hA2.mono hM6) (.cons (hA3.mono hM6) (.cons (hname.mono hd6) (.cons (hA5.mono hM6) .nil)))) (by rw [hfl]; omega)) ?_
 rintro _ M7 _ hM7 ⟨rfl, A7, c7, rfl, hA7⟩
 rw [hfl] at hA7
 rw [hfl]
 replace hd6 := hd6.trans hM7
 replace he6 := he6.trans hM7
 refine ⟨⟨he6, Keeps.mem⟩, ?_⟩
 refine zp 18 rfl rfl (y_assign (v := .slice _ _ _) rfl) <| zz <| .then_normal <| .s1 2 rfl <| x_ret (.dropTo L inferInstance (ret1 rfl rfl hd6 ⟨rfl, _, _, _, rfl, hmay, hA7⟩))
theorem Public_lspec (hg : LmG M) (x : PairV) (hname : Bytes M NA nl nc name) (hsec : Bytes M SA sl sc sec) :
    Con Tryz.prog 35 #[.agg (List.toArray x.cells), .agg (List.toArray (seedC NA nl nc SA sl sc))] G M L (fun v M' L' => L' = L ∧ ∃ A m c, v = .tuple #[.slice A m c, .int .i64 (mayC x nl sl)] ∧ Bytes M' A m c (pubV x nl sl name sec)) noPanic := by
  refine enter (args := [_, _]) (fn := Tryz.f35) ⟨Tryz.func35, rfl, by kernel_rfl, by kernel_rfl⟩ 10 rfl <| zr <| tl_e rfl <| e_box rfl <| fun b1 => tl_e rfl <| e_box rfl <| fun b2 => as0 rfl rfl <| as0 rfl rfl <| zq <| .s2 2 3 rfl rfl <| zr <| tl_y rfl (y_makeFunc rfl rfl) ?_
  refine tl_e rfl <| e_call' rfl (caughtB_spec (K := fun A m c M' => mayC x nl sl = 0 ∧ Bytes M' A m c (pubB x name sec)) (Kp := fun e => mayC x nl sl ≠ 0 ∧ e = mayC x nl sl) (first := []) (cap := [.pointer (some ⟨b1, 0, none⟩), .pointer (some ⟨b2, 0, none⟩)]) (fun p' q' => Public1_lspec hg x hname hsec)) ?_
  rintro v M1 _ hM1 ⟨rfl, hv⟩
  obtain ⟨A2, m2, c2, rfl, hA⟩ : ∃ A m c, v = .tuple #[.slice A m c, .int .i64 (mayC x nl sl)] ∧ Bytes M1 A m c (pubV x nl sl name sec) := by
    rcases hv with ⟨A, m, c, rfl, h0, hb⟩ | ⟨e, rfl, hno, rfl⟩
    · exact ⟨A, m, c, by rw [h0], by rw [pubV, if_pos h0]; exact hb⟩
    · exact ⟨none, 0, 0, rfl, by rw [pubV, if_neg hno]; exact Row.nil _ _⟩
  refine zx rfl rfl <| zx rfl rfl <| asS rfl rfl <| asI rfl rfl <| zq <| .s2 4 5 rfl rfl <| x_ret (.dropTo L inferInstance (ret2 rfl rfl rfl hM1 ⟨rfl, _, _, _, rfl, hA⟩))
end
end Go.Proofs.YtiimjodbaogjbaaGreatDoor
set_option linter.unusedVariables false
set_option linter.unusedSimpArgs false
set_option linter.constructorNameAsVariable false
namespace Go.Proofs.YtiimjodbaogjbaaGreatDoor
open Go Go.Eng
section
variable {G : World} {M : Mem} {L : Own} {NA SA TA : Option Addr} {nl nc sl sc tl tc : Nat} {name sec text : List UInt8}
theorem lsigE_may {x : PairV} {nl sl q tl : Nat} (h : mayC x nl sl ≠ 0) : lsigE x nl sl q tl = mayC x nl sl := by rw [lsigE, if_pos h]
theorem way_le {x : PairV} (name sec : List UInt8) (q k : Nat) : (wayB (treeV x.t) name (keysX x name sec) q k).flatten.length ≤ k * 32 := by
 rw [way_flat]
 exact catR_le (fun i => (lvl_short _ _ _ _).get _) k
theorem Sign1_lspec (hg : LmG M) (x : PairV) (hname : Bytes M NA nl nc name) (hsec : Bytes M SA sl sc sec) (q : UInt32) (htext : Bytes M TA tl tc text) {bp bs bq bt : Nat}
  [i1 : Has L bp (.cells (List.toArray x.cells) 24 (0, 0))] [i2 : Has L bs (.cells (List.toArray (seedC NA nl nc SA sl sc)) 49 (0, 0))] [i3 : Has L bq (.cells (List.toArray [.int .u32 (q.toNat : Int)]) 22 (0, 0))] [i4 : Has L bt (.cells (List.toArray [.slice TA tl tc]) 35 (0, 0))] :
  Con Tryz.prog 92 #[.pointer (some ⟨bp, 0, none⟩), .pointer (some ⟨bs, 0, none⟩), .pointer (some ⟨bt, 0, none⟩), .pointer (some ⟨bq, 0, none⟩)] G M L (fun v M' L' => L' = L ∧ ∃ A m c, v = .slice A m c ∧ lsigE x nl sl q.toNat tl = 0 ∧ Bytes M' A m c (lsigB x name sec q.toNat text)) (fun ch M' L' => L' = L ∧ ∃ e, (lsigE x nl sl q.toNat tl ≠ 0 ∧ e = lsigE x nl sl q.toNat tl) ∧ ch = lwrong e) := by
 have hql := q.toNat_lt
 refine enter (args := [_, _, _, _]) (fn := Tryz.f92) ⟨Tryz.func92, rfl, by kernel_rfl, by kernel_rfl⟩ 45 rfl <| zr <| as0 rfl rfl <| zq <| zr <| tl_y rfl (y_lg rfl rfl) <| tl_y rfl (y_lg rfl rfl) <| tl_e rfl (e_call rfl (made_spec hg x) (by
  rintro _ M1 _ hM1 ⟨rfl, hno, rfl⟩
  exact .retA rfl hM1 ⟨rfl, _, ⟨by rw [lsigE_may hno]; exact hno, rfl⟩, by rw [lsigE_may hno]⟩) ?_)
 rintro _ M1 L hM1 ⟨rfl, hmay, rfl⟩
 obtain ⟨hok, hH10, hy⟩ := mayC_zero hmay
 obtain ⟨n, w, p, H, hx⟩ := okP_facts hok
 obtain ⟨z1, z2, z3, z4, z5⟩ := hx.sizes
 have hn32 := hx.o.n32
 have hnl := hy.2.1
 have hnn := hname.size
 have hpw := pw2_25 hx.h2
 have hHh := hx.th
 have hd : Le M M1 := hM1
 refine tl_e rfl <| e_alloc <| fun b1 => tl_e rfl <| e_st rfl rfl (by rfl) (by rfl) <| zq <| .s5 0 1 2 3 5 rfl rfl rfl rfl rfl <| zr <| tl_y rfl (y_ld rfl rfl) <| tl_y rfl (y_len rfl) <| tl_y rfl (y_leq rfl rfl) <| tl_e rfl (e_call rfl (lmust_spec _ _) (by
  rintro _ _ _ _ ⟨rfl, rfl, ht, rfl⟩
  have e : lsigE x nl sl q.toNat tl = 1 := by rw [lsigE, if_neg (fun h => h hmay), if_pos (by simp at ht; omega)]
  exact TP.dropTo L inferInstance (.retA rfl hd ⟨rfl, _, ⟨by rw [e]; decide, rfl⟩, by rw [e]⟩)) ?_)
 rintro _ _ _ _ ⟨rfl, rfl, ht⟩
 have htl : tl ≤ 65536 := by simp at ht; omega
 refine zq <| .s5 0 1 2 3 5 rfl rfl rfl rfl rfl <| x_seq <| x_draw 7 hmix rfl <| zy 0 rfl rfl (y_ld rfl rfl) <| zp 1 rfl rfl (y_convN64 rfl (by omega)) <| zp 2 rfl rfl (y_fieldAddr rfl) <| zy 3 rfl rfl (y_lg rfl rfl) <| ze 4 rfl rfl <| e_call' rfl (Leaves_spec (treeV x.t)) ?_
 rintro _ _ _ _ ⟨rfl, rfl, rfl⟩
 rw [hx.lv]
 refine ⟨⟨(by first | exact Le.refl _ | assumption), Keeps.mem⟩, ?_⟩
 refine zp 5 rfl rfl (y_lss rfl rfl) <| to_e 6 rfl (by kernel_rfl) rfl (e_call rfl (lmust_spec _ _) (by
  rintro _ _ _ _ ⟨rfl, rfl, ht, rfl⟩
  have e : lsigE x nl sl q.toNat tl = 9 := by rw [lsigE, if_neg (fun h => h hmay), if_neg (by omega), hx.lv, if_pos (by simp at ht; omega)]
  exact TP.dropTo L inferInstance (.retA rfl hd ⟨rfl, _, ⟨by rw [e]; decide, rfl⟩, by rw [e]⟩)) ?_)
 rintro _ _ _ _ ⟨rfl, rfl, ht⟩
 have hq : q.toNat < pw2 H := by simp at ht; omega
 have hE0 : lsigE x nl sl q.toNat tl = 0 := by rw [lsigE, if_neg (fun h => h hmay), if_neg (by omega), hx.lv, if_neg (by omega)]
 refine ⟨⟨(by first | exact Le.refl _ | assumption), Keeps.mem⟩, ?_⟩
 refine zz <| .then_normal <| .s5 0 1 2 3 5 rfl rfl rfl rfl rfl <| x_seq ?_
 have he : Le M1 M1 := Le.refl _
 refine x_draw 10 hmix rfl <| zp 0 rfl rfl (y_fieldAddr rfl) <| zy 1 rfl rfl (y_lg rfl rfl) <| zp 2 rfl rfl (y_fieldAddr rfl) <| zy 3 rfl rfl (y_ld rfl rfl) <| zy 4 rfl rfl (y_lg rfl rfl) <| zy 5 rfl rfl (y_lg rfl rfl) <| zy 7 rfl rfl (y_ld rfl rfl) <| ze 6 rfl rfl <| e_call' rfl (lkeys_spec (hg.mono hd) hx hy (hname.mono hd) (hsec.mono hd)) ?_
 rintro _ M4 _ hM4 ⟨rfl, A4, c4, kvs, rfl, hrow, hB⟩
 replace hd := hd.trans hM4
 replace he := he.trans hM4
 refine ⟨⟨he, Keeps.mem⟩, ?_⟩
 refine ze 8 rfl rfl <| e_call' rfl (Way_spec (hg.mono hd).mr (treeV x.t) (hname.mono hd) hrow hB (keysB_le _ _ _ _) q) ?_
 rintro _ M5 _ hM5 ⟨rfl, AW, mW, cW, wvs, rfl, hwr, hwB⟩
 rw [if_pos ⟨⟨by rw [hnl]; exact hx.s, hH10, hx.lv.symm⟩, hq⟩] at hwB
 replace hd := hd.trans hM5
 replace he := he.trans hM5
 refine ⟨⟨he, Keeps.mem⟩, ?_⟩
 refine zp 9 rfl rfl (y_assign (v := .slice _ _ _) rfl) <| zz <| .then_normal <| .s6 0 1 2 3 5 6 rfl rfl rfl rfl rfl rfl <| x_seq ?_
 have he : Le M5 M5 := Le.refl _
 obtain ⟨sgl, _, _, _⟩ := sig_parts hx.o (name := name) (by omega) sec q.toNat text
 have hwfl := way_le (x := x) name sec q.toNat (treeV x.t).h.toNat
 have hHN : (treeV x.t).h.toNat ≤ 25 := by rw [hHh]; exact hx.h2
 refine x_draw 16 hmix rfl <| zy 0 rfl rfl (y_ld rfl rfl) <| zp 2 rfl rfl (y_fieldAddr rfl) <| zy 3 rfl rfl (y_lg rfl rfl) <| zy 4 rfl rfl (y_lg rfl rfl) <| zy 5 rfl rfl (y_ld rfl rfl) <| zy 6 rfl rfl (y_ld rfl rfl) <| zp 8 rfl rfl (y_fieldAddr rfl) <| zy 9 rfl rfl (y_ld rfl rfl) <| zp 11 rfl rfl (y_move (v := .slice _ _ _) rfl) ?_
 refine ze 1 rfl rfl <| e_call' rfl (lcode_spec q) ?_
 rintro _ M6 _ hM6 ⟨rfl, AQ, cQ, rfl, hAQ⟩
 replace hd := hd.trans hM6
 replace he := he.trans hM6
 replace hwr := hwr.mono hM6
 replace hwB := hwB.mono hM6
 try replace hAS := hAS.mono hM6
 try replace hAT := hAT.mono hM6
 try replace hAF := hAF.mono hM6
 refine ⟨⟨he, Keeps.mem⟩, ?_⟩
 refine ze 7 rfl rfl <| e_call' rfl (oSign_spec (hg.mono hd).ch (otsV x.o) (hname.mono hd) (hsec.mono hd) q (htext.mono hd)) ?_
 rintro _ M7 _ hM7 ⟨rfl, AS, mS, cS, rfl, hAS⟩
 rw [if_pos ⟨hy, htl⟩] at hAS
 replace hd := hd.trans hM7
 replace he := he.trans hM7
 replace hwr := hwr.mono hM7
 replace hwB := hwB.mono hM7
 try replace hAQ := hAQ.mono hM7
 try replace hAT := hAT.mono hM7
 try replace hAF := hAF.mono hM7
 refine ⟨⟨he, Keeps.mem⟩, ?_⟩
 refine ze 10 rfl rfl <| e_call' rfl (lcode_spec x.t) ?_
 rintro _ M8 _ hM8 ⟨rfl, AT, cT, rfl, hAT⟩
 replace hd := hd.trans hM8
 replace he := he.trans hM8
 replace hwr := hwr.mono hM8
 replace hwB := hwB.mono hM8
 try replace hAQ := hAQ.mono hM8
 try replace hAS := hAS.mono hM8
 try replace hAF := hAF.mono hM8
 refine ⟨⟨he, Keeps.mem⟩, ?_⟩
 refine ze 12 rfl rfl <| e_call' rfl (Cat_spec hwr hwB (by omega)) ?_
 rintro _ M9 _ hM9 ⟨rfl, AF, cF, rfl, hAF⟩
 replace hd := hd.trans hM9
 replace he := he.trans hM9
 replace hwr := hwr.mono hM9
 replace hwB := hwB.mono hM9
 try replace hAQ := hAQ.mono hM9
 try replace hAS := hAS.mono hM9
 try replace hAT := hAT.mono hM9
 refine ⟨⟨he, Keeps.mem⟩, ?_⟩
 refine ze 13 rfl rfl <| e_buildSlice rfl (by decide) <| fun b7 => ⟨⟨he, Keeps.mem⟩, ?_⟩
 refine .pub b7 inferInstance <| fun M10 hM10 hb7 => ?_
 have hd6 := hd.trans hM10
 have he6 := he.trans hM10
 have hfl : [putB q.toNat 4, sigB (otsV x.o) name sec q.toNat text, putB x.t.toNat 4, (wayB (treeV x.t) name (keysX x name sec) q.toNat (treeV x.t).h.toNat).flatten].flatten = lsigB x name sec q.toNat text := by simp [lsigB]
 have hfll : (lsigB x name sec q.toNat text).length ≤ 20000 := by
  rw [lsigB, List.length_append, List.length_append, List.length_append, putB_length, putB_length, sgl]; omega
 refine ze 14 rfl rfl <| e_call' rfl (Cat_spec (Row.whole hb7 rfl (by omega)) (.cons (hAQ.mono hM10) (.cons (hAS.mono hM10) (.cons (hAT.mono hM10) (.cons (hAF.mono hM10) .nil)))) (by rw [hfl]; omega)) ?_
 rintro _ M11 _ hM11 ⟨rfl, A7, c7, rfl, hA7⟩
 rw [hfl] at hA7
 rw [hfl]
 replace hd6 := hd6.trans hM11
 replace he6 := he6.trans hM11
 refine ⟨⟨he6, Keeps.mem⟩, ?_⟩
 refine zp 15 rfl rfl (y_assign (v := .slice _ _ _) rfl) <| zz <| .then_normal <| .s1 4 rfl <| x_ret (.dropTo L inferInstance (ret1 rfl rfl hd6 ⟨rfl, _, _, _, rfl, hE0, hA7⟩))
theorem Sign_lspec (hg : LmG M) (x : PairV) (hname : Bytes M NA nl nc name) (hsec : Bytes M SA sl sc sec) (q : UInt32) (htext : Bytes M TA tl tc text) :
    Con Tryz.prog 37 #[.agg (List.toArray x.cells), .agg (List.toArray (seedC NA nl nc SA sl sc)), .int .u32 (q.toNat : Int), .slice TA tl tc] G M L (fun v M' L' => L' = L ∧ ∃ A m c, v = .tuple #[.slice A m c, .int .i64 (lsigE x nl sl q.toNat tl)] ∧ Bytes M' A m c (lsigV x nl sl name sec q.toNat tl text)) noPanic := by
  refine enter (args := [_, _, _, _]) (fn := Tryz.f37) ⟨Tryz.func37, rfl, by kernel_rfl, by kernel_rfl⟩ 14 rfl <| zr <| tl_e rfl <| e_box rfl <| fun b1 => tl_e rfl <| e_box rfl <| fun b2 => tl_e rfl <| e_box rfl <| fun b3 => tl_e rfl <| e_box rfl <| fun b4 => as0 rfl rfl <| as0 rfl rfl <| zq <| .s4 4 5 6 7 rfl rfl rfl rfl ?_
  refine zr <| tl_y rfl (y_makeFunc rfl rfl) <| tl_e rfl <| e_call' rfl (caughtB_spec (K := fun A m c M' => lsigE x nl sl q.toNat tl = 0 ∧ Bytes M' A m c (lsigB x name sec q.toNat text)) (Kp := fun e => lsigE x nl sl q.toNat tl ≠ 0 ∧ e = lsigE x nl sl q.toNat tl) (first := []) (cap := [.pointer (some ⟨b1, 0, none⟩), .pointer (some ⟨b2, 0, none⟩), .pointer (some ⟨b4, 0, none⟩), .pointer (some ⟨b3, 0, none⟩)]) (fun p' q' => Sign1_lspec hg x hname hsec q htext)) ?_
  rintro v M1 _ hM1 ⟨rfl, hv⟩
  obtain ⟨A2, m2, c2, rfl, hA⟩ : ∃ A m c, v = .tuple #[.slice A m c, .int .i64 (lsigE x nl sl q.toNat tl)] ∧ Bytes M1 A m c (lsigV x nl sl name sec q.toNat tl text) := by
    rcases hv with ⟨A, m, c, rfl, h0, hb⟩ | ⟨e, rfl, hno, rfl⟩
    · exact ⟨A, m, c, by rw [h0], by rw [lsigV, if_pos h0]; exact hb⟩
    · exact ⟨none, 0, 0, rfl, by rw [lsigV, if_neg hno]; exact Row.nil _ _⟩
  refine zx rfl rfl <| zx rfl rfl <| asS rfl rfl <| asI rfl rfl <| zq <| .s2 8 9 rfl rfl <| x_ret (.dropTo L inferInstance (ret2 rfl rfl rfl hM1 ⟨rfl, _, _, _, rfl, hA⟩))
end
end Go.Proofs.YtiimjodbaogjbaaGreatDoor
set_option linter.unusedVariables false
set_option linter.unusedSimpArgs false
set_option linter.constructorNameAsVariable false
namespace Go.Proofs.YtiimjodbaogjbaaGreatDoor
open Go Go.Eng
structure SlV where
 a : Option Addr
 n : Nat
 c : Nat
abbrev SlV.v (x : SlV) : Value := .slice x.a x.n x.c
section
variable {G : World} {M : Mem} {L : Own}
end
end Go.Proofs.YtiimjodbaogjbaaGreatDoor
