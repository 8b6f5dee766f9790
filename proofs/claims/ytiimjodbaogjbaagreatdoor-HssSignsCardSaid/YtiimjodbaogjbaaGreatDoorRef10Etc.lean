/-
Contracts of functions, each proved by a walk through its code.
-/
import Derived.Test.YtiimjodbaogjbaaGreatDoorOncePureEtc
import Derived.Test.YtiimjodbaogjbaaGreatDoorRef9Etc
import Derived.Test.YtiimjodbaogjbaaGreatDoorRef4Etc
import Derived.Test.YtiimjodbaogjbaaGreatDoorChain4Etc
import Derived.Test.YtiimjodbaogjbaaGreatDoorOctEtc
import Derived.Test.YtiimjodbaogjbaaGreatDoorEngWEtc
set_option linter.unusedVariables false
set_option linter.unusedSimpArgs false
set_option linter.constructorNameAsVariable false
namespace Go.Proofs.YtiimjodbaogjbaaGreatDoor
open Go Go.Eng
section
variable {G : World} {M : Mem} {L : Own} {NA SA : Option Addr} {nl nc sl sc : Nat} {name sec : List UInt8}
theorem RoMay_spec (o : OtsV) :
    Con Tryz.prog 43 #[.agg (List.toArray o.cells), .agg (List.toArray (seedC NA nl nc SA sl sc))] G M L (fun v M' L' => M = M' ∧ L = L' ∧ v = .bool (decide (okY o nl sl))) noPanic := by
  refine enter (args := [_, _]) (fn := Tryz.f43) ⟨Tryz.func43, rfl, by kernel_rfl, by kernel_rfl⟩ 34 rfl <| zr <| tl_e rfl <| e_box rfl <| fun b1 => tl_e rfl <| e_box rfl <| fun b2 => as0 rfl rfl <| zq <| zr <| tl_y rfl (y_fieldAddr rfl) <| tl_y rfl (y_ld rfl rfl) <| tl_e rfl <| e_call' rfl (ROts_spec o.code) ?_
  rintro _ _ _ _ ⟨rfl, rfl, rfl⟩
  refine mvU rfl rfl <| zx rfl rfl <| zx rfl rfl <| tl_e rfl <| e_alloc <| fun b3 => tl_e rfl <| e_st rfl rfl (by rfl) (by rfl) <| asI rfl rfl <| zq <| .s4 2 3 5 6 rfl rfl rfl rfl <| x_join (I := fun F D M2 L2 => ∃ b : Bool, (b = true ↔ okY o nl sl) ∧ D = [] ∧ M = M2 ∧ DropTo L2 L ∧ F = [(4, .bool b)]) ?_ (fun Jq2 => ?_)
  ·
    rintro _ _ _ L2 ⟨b, hb, rfl, rfl, hdr, rfl⟩  -- slots [4]
    refine x_ret (.dropTo L hdr (ret1 rfl rfl (Le.refl _) ⟨rfl, rfl, by rw [bool_iff hb]⟩))
  ·
    refine x_region <| mvI rfl rfl <| tl_y rfl (y_eql rfl rfl) <| mvB rfl rfl <| tl_cases (s := 15) rfl (fun hk1 => ?_) (fun hk1 => ?_)
    ·
      refine tl_y rfl (y_lg rfl rfl) <| tl_y rfl (y_lg rfl rfl) <| tl_y rfl (y_eqlS rfl rfl eqs27) <| tl_y rfl (y_pickT rfl rfl) <| mvB rfl rfl <| tl_cases (s := 20) rfl (fun hk2 => ?_) (fun hk2 => ?_)
      ·
        refine tl_y rfl (y_fieldAddr rfl) <| tl_y rfl (y_ld rfl rfl) <| tl_y rfl (y_len rfl) <| tl_y rfl (y_eql rfl rfl) <| tl_y rfl (y_pickT rfl rfl) <| mvB rfl rfl <| tl_cases (s := 26) rfl (fun hk3 => ?_) (fun hk3 => ?_)
        ·
          refine tl_y rfl (y_fieldAddr rfl) <| tl_y rfl (y_ld rfl rfl) <| tl_y rfl (y_len rfl) <| tl_y rfl (y_fieldAddr rfl) <| tl_y rfl (y_ld rfl rfl) <| tl_y rfl (y_eql rfl rfl) <| tl_y rfl (y_pickT rfl rfl) <| asB rfl rfl <| zq <| .sub (F' := [(4, _)]) (.cons rfl .nil) <| Jq2 _ _ _ _ ?_
          exact ⟨_, by
            constructor
            · intro ht
              first | (cases ht; done) | (simp at ht; exact ⟨⟨hk1, ots_eq hk2⟩, by omega, by omega⟩)
            · rintro ⟨⟨a1, a2⟩, a3, a4⟩
              first | exact absurd a1 hk1 | exact absurd (eq_ots a2) hk2 | (simp; omega) | omega, rfl, rfl, inferInstance, rfl⟩
        ·
          refine tl_skip rfl <| tl_skip rfl <| tl_skip rfl <| tl_skip rfl <| tl_skip rfl <| tl_skip rfl <| tl_y rfl (y_pickF rfl rfl) <| asB rfl rfl <| zq <| .sub (F' := [(4, _)]) (.cons rfl .nil) <| Jq2 _ _ _ _ ?_
          exact ⟨_, by
            constructor
            · intro ht
              first | (cases ht; done) | (simp at ht; exact ⟨⟨hk1, ots_eq hk2⟩, by omega, by omega⟩)
            · rintro ⟨⟨a1, a2⟩, a3, a4⟩
              first | exact absurd a1 hk1 | exact absurd (eq_ots a2) hk2 | (simp; omega) | omega, rfl, rfl, inferInstance, rfl⟩
      ·
        refine tl_skip rfl <| tl_skip rfl <| tl_skip rfl <| tl_skip rfl <| tl_y rfl (y_pickF rfl rfl) <| mvB rfl rfl <| tl_skip rfl <| tl_skip rfl <| tl_skip rfl <| tl_skip rfl ?_
        refine tl_skip rfl <| tl_skip rfl <| tl_y rfl (y_pickF rfl rfl) <| asB rfl rfl <| zq <| .sub (F' := [(4, _)]) (.cons rfl .nil) <| Jq2 _ _ _ _ ?_
        exact ⟨_, by
          constructor
          · intro ht
            first | (cases ht; done) | (simp at ht; exact ⟨⟨hk1, ots_eq hk2⟩, by omega, by omega⟩)
          · rintro ⟨⟨a1, a2⟩, a3, a4⟩
            first | exact absurd a1 hk1 | exact absurd (eq_ots a2) hk2 | (simp; omega) | omega, rfl, rfl, inferInstance, rfl⟩
    ·
      refine tl_skip rfl <| tl_skip rfl <| tl_skip rfl <| tl_y rfl (y_pickF rfl rfl) <| mvB rfl rfl <| tl_skip rfl <| tl_skip rfl <| tl_skip rfl <| tl_skip rfl <| tl_y rfl (y_pickF rfl rfl) ?_
      refine mvB rfl rfl <| tl_skip rfl <| tl_skip rfl <| tl_skip rfl <| tl_skip rfl <| tl_skip rfl <| tl_skip rfl <| tl_y rfl (y_pickF rfl rfl) <| asB rfl rfl <| zq <| .sub (F' := [(4, _)]) (.cons rfl .nil) <| Jq2 _ _ _ _ ?_
      exact ⟨_, by
        constructor
        · intro ht
          first | (cases ht; done) | (simp at ht; exact ⟨⟨hk1, ots_eq hk2⟩, by omega, by omega⟩)
        · rintro ⟨⟨a1, a2⟩, a3, a4⟩
          first | exact absurd a1 hk1 | exact absurd (eq_ots a2) hk2 | (simp; omega) | omega, rfl, rfl, inferInstance, rfl⟩
theorem RoLight_spec (o : OtsV) :
  Con Tryz.prog 40 #[.agg (List.toArray o.cells)] G M L (fun v M' L' => M = M' ∧ L = L' ∧ v = .bool (decide (o.w ≤ 4 ∧ o.p ≤ 140))) noPanic := by
 refine enter (args := [_]) (fn := Tryz.f40) ⟨Tryz.func40, rfl, by kernel_rfl, by kernel_rfl⟩ 11 rfl <| zr <| tl_e rfl <| e_box rfl <| fun b1 => as0 rfl rfl <| zq <| zr <| tl_y rfl (y_fieldAddr rfl) <| tl_y rfl (y_ld rfl rfl) <| tl_y rfl (y_leq rfl rfl) <| mvB rfl rfl ?_
 refine tl_cases (s := 6) rfl (fun hk1 => ?_) (fun hk1 => ?_)
 ·
  refine tl_y rfl (y_fieldAddr rfl) <| tl_y rfl (y_ld rfl rfl) <| tl_y rfl (y_leq rfl rfl) <| tl_y rfl (y_pickT rfl rfl) <| asB rfl rfl <| zq <| .s1 2 rfl <| x_ret (.dropTo L inferInstance (ret1 rfl rfl (Le.refl _) ⟨rfl, rfl, by congr 1; rw [decide_eq_decide]; exact ⟨fun h => ⟨hk1, h⟩, fun h => h.2⟩⟩))
 ·
  refine tl_skip rfl <| tl_skip rfl <| tl_skip rfl <| tl_y rfl (y_pickF rfl rfl) <| asB rfl rfl <| zq <| .s1 2 rfl <| x_ret (.dropTo L inferInstance (ret1 rfl rfl (Le.refl _) ⟨rfl, rfl, by rw [decide_eq_false (fun h => hk1 h.1)]⟩))
theorem Rotop_spec (o : OtsV) {n w p : Nat} (ho : OF o n w p) :
    Con Tryz.prog 161 #[.agg (List.toArray o.cells)] G M L (fun v M' L' => M = M' ∧ L = L' ∧ v = .int .i64 (topN o)) noPanic := by
  have hw2 := ho.w2
  have hw8 : w ≤ 8 := by rcases ho.isw with rfl | rfl | rfl | rfl <;> omega
  refine enter (args := [_]) (fn := Tryz.f161) ⟨Tryz.func161, rfl, by kernel_rfl, by kernel_rfl⟩ 15 rfl <| zr <| tl_e rfl <| e_box rfl <| fun b1 => as0 rfl rfl <| zq <| zr <| as0 rfl rfl <| zq <| zr2 <| as0 rfl rfl ?_
  refine zq <| x_block ?_
  refine x_loop (I := fun m' F D M1 L1 => ∃ k : Nat, m' = w - k ∧ k ≤ w ∧ D = [] ∧ M = M1 ∧ (b1, .cells (List.toArray o.cells) 27 (0, 0)) :: L = L1 ∧ F = [(1, .pointer (some ⟨b1, 0, none⟩)), (3, .int .i64 ((pw2 k : Nat) : Int)), (4, .int .i64 (k : Int))]) (w) (F0 := [(1, _), (3, _), (4, _)]) ?_ (.cons rfl (.cons rfl (.cons rfl .nil))) ?_  -- slots [1, 3, 4], written [3, 4]
  · exact ⟨0, rfl, by omega, rfl, rfl, rfl, rfl⟩
  rintro m _ _ _ _ ⟨k, rfl, hk, rfl, rfl, rfl, rfl⟩
  refine zr2 <| mvI rfl rfl <| tl_y rfl (y_fieldAddr rfl) <| tl_y rfl (y_load (v := .int .i64 (w : Int)) rfl rfl (by rw [← ho.hw]; exact .own inferInstance inferInstance)) <| tl_y rfl (y_lss rfl rfl) <| zq <| x_cond rfl (fun hc1 => ?_) (fun hc1 => ?_)
  ·
    have hkw : k < w := by omega
    have hp := pw2_le (j := k) (k := w) (by omega)
    refine x_skip <| .then_normal <| .s3 1 3 4 rfl rfl rfl <| x_seq <| x_block <| x_region <| mvI rfl rfl <| tl_y rfl (y_mulI rfl rfl (by omega)) ?_
    rw [pw2_succ]
    refine asI rfl rfl <| tl_nil <| .block_normal <| .then_normal <| x_region <| mvI rfl rfl <| tl_y rfl (y_addI rfl rfl (by omega)) <| asI rfl rfl <| tl_nil <| .loop_next (m' := w - (k + 1)) (by omega) (F' := [(1, _), (3, _), (4, _)]) (.cons rfl (.cons rfl (.cons rfl .nil))) ?_
    exact ⟨k + 1, rfl, by omega, rfl, rfl, rfl, rfl⟩
  ·
    obtain rfl : k = w := by omega
    refine x_exit <| .then_exit <| .loop_exit <| .block_exit <| .then_normal <| .s1 3 rfl <| zr <| mvI rfl rfl <| tl_y rfl (y_subI rfl rfl (by omega)) <| asI rfl rfl <| zq <| x_ret (.dropTo L inferInstance (ret1 rfl rfl (Le.refl _) ⟨rfl, rfl, by rw [topN, ho.hw, Int.toNat_natCast]⟩))
theorem RoSecret_spec (o : OtsV) (hname : Bytes M NA nl nc name) (hsec : Bytes M SA sl sc sec) (q : UInt32) (d : Nat) (hd : d ≤ 65535) :
  Con Tryz.prog 80 #[.agg (List.toArray o.cells), .agg (List.toArray (seedC NA nl nc SA sl sc)), .int .u32 (q.toNat : Int), .int .u16 (d : Int)] G M L (fun v M' L' => L = L' ∧ ∃ A m c, v = .slice A m c ∧ Bytes M' A m c (if okY o nl sl then hidB o name sec q.toNat d else [])) noPanic := by
 have hn1 := hname.size
 have hn2 := hsec.size
 have hq := q.toNat_lt
 refine enter (args := [_, _, _, _]) (fn := Tryz.f80) ⟨Tryz.func80, rfl, by kernel_rfl, by kernel_rfl⟩ 33 rfl <| zr <| tl_e rfl <| e_box rfl <| fun b1 => tl_e rfl <| e_box rfl <| fun b2 => as0 rfl rfl <| zq <| zr2 <| tl_y rfl (y_lg rfl rfl) <| tl_y rfl (y_lg rfl rfl) <| tl_e rfl <| e_call' rfl (RoMay_spec o) ?_
 rintro _ _ _ _ ⟨rfl, rfl, rfl⟩
 refine tl_y rfl (y_notd rfl) <| zq <| .s5 2 3 4 5 13 rfl rfl rfl rfl rfl <| x_cond rfl (fun hc1 => ?_) (fun hc1 => ?_)
 ·
  refine zr <| as0 rfl rfl <| zq <| .s1 8 rfl <| x_ret (.then_ret (.dropTo L inferInstance (ret1 rfl rfl (Le.refl _) ⟨rfl, _, _, _, rfl, by rw [if_neg hc1]; exact Row.nil _ _⟩)))
 ·
  have hok : okY o nl sl := Classical.not_not.1 hc1
  obtain ⟨n, w, p, ho⟩ := okO_facts hok.1
  have hn32 := ho.n32
  have hn := ho.hn
  have hsl := hok.2.2
  have hnl := hok.2.1
  refine x_skip <| .then_normal <| x_seq ?_
  have he : Le M M := Le.refl _
  refine x_draw 14 hmix rfl <| zp 0 rfl rfl (y_fieldAddr rfl) <| zy 1 rfl rfl (y_ld rfl rfl) <| zp 2 rfl rfl (y_move (v := .int _ _) rfl) <| zp 3 rfl rfl (y_convN64 rfl (by omega)) <| zp 5 rfl rfl (y_move (v := .int _ _) rfl) <| zp 6 rfl rfl (y_convN64 rfl (by omega)) <| zp 9 rfl rfl (y_fieldAddr rfl) <| zy 10 rfl rfl (y_ld rfl rfl) <| to_two 4 8 (by kernel_rfl) ?_ ?_
  ·
   refine two_e 4 rfl rfl <| e_call' rfl (RPutV_spec q.toNat 4 (by omega) (by omega)) ?_
   rintro _ M2 _ hM2 ⟨rfl, A2, c2, rfl, hA2⟩
   replace he := he.trans hM2
   refine ⟨⟨(by first | exact Le.refl _ | assumption), Keeps.mem⟩, ?_⟩
   refine to_two 7 8 (by kernel_rfl) ?_ ?_
   ·
    refine two_e 7 rfl rfl <| e_call' rfl (RPutV_spec d 2 (by omega) (by omega)) ?_
    rintro _ M3 _ hM3 ⟨rfl, A3, c3, rfl, hA3⟩
    replace he := he.trans hM3
    refine ⟨⟨(by first | exact Le.refl _ | assumption), Keeps.mem⟩, ?_⟩
    refine ze 8 rfl rfl <| e_buildSlice rfl (by decide) <| fun b7 => ⟨⟨he, Keeps.mem⟩, ?_⟩
    refine .pub b7 inferInstance <| fun M4 hM4 hb7 => ?_
    replace he := he.trans hM4
    refine ze 11 rfl rfl <| e_buildSlice rfl (by decide) <| fun b8 => ⟨⟨he, Keeps.mem⟩, ?_⟩
    refine .pub b8 inferInstance <| fun M5 hM5 hb8 => ?_
    replace he := he.trans hM5
    have hA4 : Bytes M4 (some ⟨b7, 0, none⟩) 1 1 [255] := Row.whole hb7 rfl (by omega)
    have hA2' : Bytes M5 A2 4 c2 (putB q.toNat 4) := hA2.mono (by first | exact hM3.trans (hM4.trans hM5) | exact hM4.trans (hM3.trans hM5) | exact hM3.trans hM5)
    have hA3' : Bytes M5 A3 2 c3 (putB d 2) := hA3.mono (by first | exact hM4.trans hM5 | exact hM5 | exact hM2.trans (hM4.trans hM5) | exact hM2.trans hM5)
    have hA4' : Bytes M5 (some ⟨b7, 0, none⟩) 1 1 [255] := hA4.mono (by first | exact hM5 | exact hM3.trans hM5 | exact hM2.trans (hM3.trans hM5))
    have hfl : [name, putB q.toNat 4, putB d 2, [255], sec].flatten = name ++ (putB q.toNat 4 ++ (putB d 2 ++ (255 :: sec))) := by simp
    have hfll : (name ++ (putB q.toNat 4 ++ (putB d 2 ++ (255 :: sec)))).length = nl + 7 + sl := by rw [List.length_append, List.length_append, List.length_append, putB_length, putB_length, List.length_cons]; omega
    refine ze 12 rfl rfl <| e_call' rfl (RCat_own (Row.whole hb8 rfl (by omega)) (.cons (hname.mono he) (.cons hA2' (.cons hA3' (.cons hA4' (.cons (hsec.mono he) .nil))))) (by rw [hfl, hfll]; omega)) ?_
    rintro _ _ _ _ ⟨rfl, A6, c6, E6, rfl, hE6, rfl⟩
    rw [hfl, hfll] at hE6
    rw [hfl, hfll]
    refine ⟨⟨he, Keeps.mem⟩, ?_⟩
    refine .pubRow hE6 <| fun M6 hM6 hA6 => ?_
    replace he := he.trans hM6
    refine zp 13 rfl rfl (y_assign (v := .slice _ _ _) rfl) <| zz <| .then_normal <| .s2 4 9 rfl rfl <| zr <| tl_y rfl (y_fieldAddr rfl) <| tl_y rfl (y_ld rfl rfl) <| tl_y rfl (y_fieldAddr rfl) <| tl_y rfl (y_ld rfl rfl) <| mvS rfl rfl <| tl_e rfl <| e_call' rfl (RSum_spec o.kind o.n (Row.in_ hA6) (by omega)) ?_
    rintro _ M7 _ hM7 ⟨rfl, A7, m7, c7, rfl, hA7⟩
    replace he := he.trans hM7
    refine asS rfl rfl <| zq <| .s1 8 rfl <| x_ret (.dropTo L inferInstance (ret1 rfl rfl he ⟨rfl, _, _, _, rfl, by rw [if_pos hok]; exact hA7⟩))
   ·
    refine two_e 8 rfl rfl <| e_buildSlice rfl (by decide) <| fun b7 => ⟨⟨he, Keeps.mem⟩, ?_⟩
    refine .pub b7 inferInstance <| fun M4 hM4 hb7 => ?_
    replace he := he.trans hM4
    refine ze 7 rfl rfl <| e_call' rfl (RPutV_spec d 2 (by omega) (by omega)) ?_
    rintro _ M3 _ hM3 ⟨rfl, A3, c3, rfl, hA3⟩
    replace he := he.trans hM3
    refine ⟨⟨(by first | exact Le.refl _ | assumption), Keeps.mem⟩, ?_⟩
    refine ze 11 rfl rfl <| e_buildSlice rfl (by decide) <| fun b8 => ⟨⟨he, Keeps.mem⟩, ?_⟩
    refine .pub b8 inferInstance <| fun M5 hM5 hb8 => ?_
    replace he := he.trans hM5
    have hA4 : Bytes M4 (some ⟨b7, 0, none⟩) 1 1 [255] := Row.whole hb7 rfl (by omega)
    have hA2' : Bytes M5 A2 4 c2 (putB q.toNat 4) := hA2.mono (by first | exact hM3.trans (hM4.trans hM5) | exact hM4.trans (hM3.trans hM5) | exact hM3.trans hM5)
    have hA3' : Bytes M5 A3 2 c3 (putB d 2) := hA3.mono (by first | exact hM4.trans hM5 | exact hM5 | exact hM2.trans (hM4.trans hM5) | exact hM2.trans hM5)
    have hA4' : Bytes M5 (some ⟨b7, 0, none⟩) 1 1 [255] := hA4.mono (by first | exact hM5 | exact hM3.trans hM5 | exact hM2.trans (hM3.trans hM5))
    have hfl : [name, putB q.toNat 4, putB d 2, [255], sec].flatten = name ++ (putB q.toNat 4 ++ (putB d 2 ++ (255 :: sec))) := by simp
    have hfll : (name ++ (putB q.toNat 4 ++ (putB d 2 ++ (255 :: sec)))).length = nl + 7 + sl := by rw [List.length_append, List.length_append, List.length_append, putB_length, putB_length, List.length_cons]; omega
    refine ze 12 rfl rfl <| e_call' rfl (RCat_own (Row.whole hb8 rfl (by omega)) (.cons (hname.mono he) (.cons hA2' (.cons hA3' (.cons hA4' (.cons (hsec.mono he) .nil))))) (by rw [hfl, hfll]; omega)) ?_
    rintro _ _ _ _ ⟨rfl, A6, c6, E6, rfl, hE6, rfl⟩
    rw [hfl, hfll] at hE6
    rw [hfl, hfll]
    refine ⟨⟨he, Keeps.mem⟩, ?_⟩
    refine .pubRow hE6 <| fun M6 hM6 hA6 => ?_
    replace he := he.trans hM6
    refine zp 13 rfl rfl (y_assign (v := .slice _ _ _) rfl) <| zz <| .then_normal <| .s2 4 9 rfl rfl <| zr <| tl_y rfl (y_fieldAddr rfl) <| tl_y rfl (y_ld rfl rfl) <| tl_y rfl (y_fieldAddr rfl) <| tl_y rfl (y_ld rfl rfl) <| mvS rfl rfl <| tl_e rfl <| e_call' rfl (RSum_spec o.kind o.n (Row.in_ hA6) (by omega)) ?_
    rintro _ M7 _ hM7 ⟨rfl, A7, m7, c7, rfl, hA7⟩
    replace he := he.trans hM7
    refine asS rfl rfl <| zq <| .s1 8 rfl <| x_ret (.dropTo L inferInstance (ret1 rfl rfl he ⟨rfl, _, _, _, rfl, by rw [if_pos hok]; exact hA7⟩))
  ·
   refine two_e 8 rfl rfl <| e_buildSlice rfl (by decide) <| fun b7 => ⟨⟨he, Keeps.mem⟩, ?_⟩
   refine .pub b7 inferInstance <| fun M4 hM4 hb7 => ?_
   replace he := he.trans hM4
   refine ze 4 rfl rfl <| e_call' rfl (RPutV_spec q.toNat 4 (by omega) (by omega)) ?_
   rintro _ M2 _ hM2 ⟨rfl, A2, c2, rfl, hA2⟩
   replace he := he.trans hM2
   refine ⟨⟨(by first | exact Le.refl _ | assumption), Keeps.mem⟩, ?_⟩
   refine ze 7 rfl rfl <| e_call' rfl (RPutV_spec d 2 (by omega) (by omega)) ?_
   rintro _ M3 _ hM3 ⟨rfl, A3, c3, rfl, hA3⟩
   replace he := he.trans hM3
   refine ⟨⟨(by first | exact Le.refl _ | assumption), Keeps.mem⟩, ?_⟩
   refine ze 11 rfl rfl <| e_buildSlice rfl (by decide) <| fun b8 => ⟨⟨he, Keeps.mem⟩, ?_⟩
   refine .pub b8 inferInstance <| fun M5 hM5 hb8 => ?_
   replace he := he.trans hM5
   have hA4 : Bytes M4 (some ⟨b7, 0, none⟩) 1 1 [255] := Row.whole hb7 rfl (by omega)
   have hA2' : Bytes M5 A2 4 c2 (putB q.toNat 4) := hA2.mono (by first | exact hM3.trans (hM4.trans hM5) | exact hM4.trans (hM3.trans hM5) | exact hM3.trans hM5)
   have hA3' : Bytes M5 A3 2 c3 (putB d 2) := hA3.mono (by first | exact hM4.trans hM5 | exact hM5 | exact hM2.trans (hM4.trans hM5) | exact hM2.trans hM5)
   have hA4' : Bytes M5 (some ⟨b7, 0, none⟩) 1 1 [255] := hA4.mono (by first | exact hM5 | exact hM3.trans hM5 | exact hM2.trans (hM3.trans hM5))
   have hfl : [name, putB q.toNat 4, putB d 2, [255], sec].flatten = name ++ (putB q.toNat 4 ++ (putB d 2 ++ (255 :: sec))) := by simp
   have hfll : (name ++ (putB q.toNat 4 ++ (putB d 2 ++ (255 :: sec)))).length = nl + 7 + sl := by rw [List.length_append, List.length_append, List.length_append, putB_length, putB_length, List.length_cons]; omega
   refine ze 12 rfl rfl <| e_call' rfl (RCat_own (Row.whole hb8 rfl (by omega)) (.cons (hname.mono he) (.cons hA2' (.cons hA3' (.cons hA4' (.cons (hsec.mono he) .nil))))) (by rw [hfl, hfll]; omega)) ?_
   rintro _ _ _ _ ⟨rfl, A6, c6, E6, rfl, hE6, rfl⟩
   rw [hfl, hfll] at hE6
   rw [hfl, hfll]
   refine ⟨⟨he, Keeps.mem⟩, ?_⟩
   refine .pubRow hE6 <| fun M6 hM6 hA6 => ?_
   replace he := he.trans hM6
   refine zp 13 rfl rfl (y_assign (v := .slice _ _ _) rfl) <| zz <| .then_normal <| .s2 4 9 rfl rfl <| zr <| tl_y rfl (y_fieldAddr rfl) <| tl_y rfl (y_ld rfl rfl) <| tl_y rfl (y_fieldAddr rfl) <| tl_y rfl (y_ld rfl rfl) <| mvS rfl rfl <| tl_e rfl <| e_call' rfl (RSum_spec o.kind o.n (Row.in_ hA6) (by omega)) ?_
   rintro _ M7 _ hM7 ⟨rfl, A7, m7, c7, rfl, hA7⟩
   replace he := he.trans hM7
   refine asS rfl rfl <| zq <| .s1 8 rfl <| x_ret (.dropTo L inferInstance (ret1 rfl rfl he ⟨rfl, _, _, _, rfl, by rw [if_pos hok]; exact hA7⟩))
theorem RoKey_spec (o : OtsV) (hname : Bytes M NA nl nc name) (hsec : Bytes M SA sl sc sec) (q : UInt32) :
    Con Tryz.prog 149 #[.agg (List.toArray o.cells), .agg (List.toArray (seedC NA nl nc SA sl sc)), .int .u32 (q.toNat : Int)] G M L (fun v M' L' => L = L' ∧ ∃ A m c, v = .slice A m c ∧ Bytes M' A m c (if okY o nl sl then keyB o name sec q.toNat else [])) noPanic := by
  refine enter (args := [_, _, _]) (fn := Tryz.f149) ⟨Tryz.func149, rfl, by kernel_rfl, by kernel_rfl⟩ 44 rfl <| zr <| tl_e rfl <| e_box rfl <| fun b1 => tl_e rfl <| e_box rfl <| fun b2 => as0 rfl rfl <| zq <| zr2 <| tl_y rfl (y_lg rfl rfl) <| tl_y rfl (y_lg rfl rfl) <| tl_e rfl <| e_call' rfl (RoMay_spec o) ?_
  rintro _ _ _ _ ⟨rfl, rfl, rfl⟩
  refine tl_y rfl (y_notd rfl) <| zq <| .s4 2 3 4 12 rfl rfl rfl rfl <| x_cond rfl (fun hc1 => ?_) (fun hc1 => ?_)
  ·
    refine zr <| as0 rfl rfl <| zq <| .s1 6 rfl <| x_ret (.then_ret (.dropTo L inferInstance (ret1 rfl rfl (Le.refl _) ⟨rfl, _, _, _, rfl, by rw [if_neg hc1]; exact Row.nil _ _⟩)))
  ·
    have hok : okY o nl sl := Classical.not_not.1 hc1
    obtain ⟨n, w, p, ho⟩ := okO_facts hok.1
    have hn32 := ho.n32
    have hn := ho.hn
    have hsl := hok.2.2
    have hnl := hok.2.1
    have hp2 := ho.p2
    refine x_skip <| .then_normal <| zr <| as0 rfl rfl <| zq <| zr2 <| as0 rfl rfl <| zq <| x_block ?_
    refine x_loop (I := fun m' F D M1 L1 => ∃ (i : Nat) (A : Option Addr) (m c : Nat) (E : Own), m' = p - i ∧ i ≤ p ∧ Le M M1 ∧ m = (catR (keyR o name sec q.toNat) i).length ∧ OwnRow 5 1 A m c ((catR (keyR o name sec q.toNat) i).map bv) E ∧ D = [] ∧ L1 = E ++ ((b2, .cells (List.toArray (seedC NA nl nc SA sl sc)) 49 (0, 0)) :: (b1, .cells (List.toArray o.cells) 27 (0, 0)) :: L) ∧ F = [(2, .int .u32 (q.toNat : Int)), (3, .pointer (some ⟨b1, 0, none⟩)), (4, .pointer (some ⟨b2, 0, none⟩)), (7, .slice A m c), (8, .int .i64 (i : Int))]) (p) (F0 := [(2, _), (3, _), (4, _), (7, _), (8, _)]) ?_ (.cons rfl (.cons rfl (.cons rfl (.cons rfl (.cons rfl .nil))))) ?_  -- slots [2, 3, 4, 7, 8], written [7, 8]
    · exact ⟨0, none, 0, 0, [], rfl, by omega, Le.refl _, rfl, .nil, rfl, rfl, rfl⟩
    rintro m _ _ M1 _ ⟨i, A, m, c, E, rfl, hi, hM1, hm, hE, rfl, rfl, rfl⟩
    have hle := catR_le (keyR_le o name sec q.toNat) i
    have hli := keyR_le o name sec q.toNat i
    refine zr2 <| mvI rfl rfl <| tl_y rfl (y_fieldAddr rfl) <| tl_y rfl (y_load (v := .int .i64 (p : Int)) rfl rfl (by rw [← ho.hp]; exact .own inferInstance inferInstance)) <| tl_y rfl (y_lss rfl rfl) <| zq <| x_cond rfl (fun hc2 => ?_) (fun hc2 => ?_)
    ·
      refine x_skip <| .then_normal <| .s5 2 3 4 7 8 rfl rfl rfl rfl rfl <| x_seq <| x_block ?_
      have he : Le M1 M1 := Le.refl _
      have hip : i < p := by omega
      refine x_draw0 17 ([(b2, .cells (List.toArray (seedC NA nl nc SA sl sc)) 49 (0, 0)), (b1, .cells (List.toArray o.cells) 27 (0, 0))]) Keeps.mem hmix rfl <| zp 0 rfl rfl (y_move (v := .slice _ _ _) rfl) <| zy 1 rfl rfl (y_lg rfl rfl) <| zp 2 rfl rfl (y_fieldAddr rfl) <| zy 3 rfl rfl (y_ld rfl rfl) <| zp 4 rfl rfl (y_move (v := .int _ _) rfl) <| zp 5 rfl rfl (y_move (v := .int _ _) rfl) <| zy 6 rfl rfl (y_lg rfl rfl) <| zy 8 rfl rfl (y_lg rfl rfl) ?_
      refine zy 9 rfl rfl (y_lg rfl rfl) <| zp 10 rfl rfl (y_move (v := .int _ _) rfl) <| zp 11 rfl rfl (y_move (v := .int _ _) rfl) <| zp 12 rfl rfl (y_convE (b := (i : Int)) rfl (by rw [wrapU16]; omega)) <| ze 7 rfl rfl <| e_call' rfl (Rotop_spec o ho) ?_
      rintro _ _ _ _ ⟨rfl, rfl, rfl⟩
      refine ⟨⟨(by first | exact Le.refl _ | assumption), Keeps.mem⟩, ?_⟩
      refine ze 13 rfl rfl <| e_call' rfl (RoSecret_spec o (hname.mono hM1) (hsec.mono hM1) q i (by omega)) ?_
      rintro _ M2 _ hM2 ⟨rfl, A2, m2, c2, rfl, hA2⟩
      rw [if_pos hok] at hA2
      replace he := he.trans hM2
      refine ⟨⟨(by first | exact Le.refl _ | assumption), Keeps.mem⟩, ?_⟩
      refine ze 14 rfl rfl <| e_call' rfl (RUp_spec9 sha_length o (hname.mono (hM1.trans he)) hA2 q i 0 (topN o)) ?_
      rintro _ M3 _ hM3 ⟨rfl, A3, m3, c3, rfl, hA3⟩
      replace he := he.trans hM3
      have hm3 : (keyR o name sec q.toNat i).length = m3 := hA3.size
      refine ⟨⟨(by first | exact Le.refl _ | assumption), Keeps.mem⟩, ?_⟩
      refine ze 15 rfl rfl <| e_append (by decide) rfl rfl hE (.row hA3) (all_one_bv _) (by omega) (by omega) <| fun A7 c7 E7 hE7 => ?_
      rw [← List.map_append, show catR (keyR o name sec q.toNat) i ++ cUp o name q.toNat (i : Int) 0 (topN o) (hidB o name sec q.toNat i) = catR (keyR o name sec q.toNat) (i + 1) from (catR_succ _ _).symm] at hE7
      refine ⟨⟨(by first | exact Le.refl _ | assumption), Keeps.mem⟩, ?_⟩
      refine zp 16 rfl rfl (y_assign (v := .slice _ _ _) rfl) <| zz <| .block_normal <| .then_normal <| .s5 2 3 4 7 8 rfl rfl rfl rfl rfl <| x_region <| mvI rfl rfl <| tl_y rfl (y_addI rfl rfl (by omega)) <| asI rfl rfl <| tl_nil <| .loop_next (m' := p - (i + 1)) (by omega) (F' := [(2, _), (3, _), (4, _), (7, _), (8, _)]) (.cons rfl (.cons rfl (.cons rfl (.cons rfl (.cons rfl .nil))))) ?_
      exact ⟨i + 1, A7, m + m3, c7, E7, rfl, by omega, hM1.trans he, by rw [catR_succ, List.length_append]; omega, hE7, rfl, rfl, rfl⟩
    ·
      obtain rfl : i = p := by omega
      refine .pubRow hE <| fun M4 hM4 hrow => ?_
      have hd := hM1.trans hM4
      refine x_exit <| .then_exit <| .loop_exit <| .block_exit <| .then_normal <| .s4 2 3 4 7 rfl rfl rfl rfl <| zr <| tl_y rfl (y_fieldAddr rfl) <| tl_y rfl (y_ld rfl rfl) <| tl_y rfl (y_fieldAddr rfl) <| tl_y rfl (y_ld rfl rfl) <| tl_y rfl (y_fieldAddr rfl) <| tl_y rfl (y_ld rfl rfl) <| mvI rfl rfl ?_
      refine mvS rfl rfl <| tl_e rfl <| e_call' rfl (RPart_spec o.kind o.n (hname.mono hd) q 32896 (by omega) hrow (by omega)) ?_
      rintro _ M5 _ hM5 ⟨rfl, A5, m5, c5, rfl, hA5⟩
      refine asS rfl rfl <| zq <| .s1 6 rfl <| x_ret (.dropTo L inferInstance (ret1 rfl rfl (hd.trans hM5) ⟨rfl, _, _, _, rfl, by rw [if_pos hok, keyB, ho.hp, Int.toNat_natCast]; exact hA5⟩))
end
end Go.Proofs.YtiimjodbaogjbaaGreatDoor
set_option linter.unusedVariables false
set_option linter.unusedSimpArgs false
set_option linter.constructorNameAsVariable false
namespace Go.Proofs.YtiimjodbaogjbaaGreatDoor
open Go Go.Eng
theorem at_div {w m i : Nat} (h : isW w) (hi : i < w) : (w * m + i) / 8 = m / dpb w ∧ (w * m + i) % 8 = w * (m % dpb w) + i ∧ w * (m % dpb w) + w ≤ 8 := by
  rcases h with rfl | rfl | rfl | rfl
  · show (1 * m + i) / 8 = m / 8 ∧ (1 * m + i) % 8 = 1 * (m % 8) + i ∧ 1 * (m % 8) + 1 ≤ 8
    omega
  · show (2 * m + i) / 8 = m / 4 ∧ (2 * m + i) % 8 = 2 * (m % 4) + i ∧ 2 * (m % 4) + 2 ≤ 8
    omega
  · show (4 * m + i) / 8 = m / 2 ∧ (4 * m + i) % 8 = 4 * (m % 2) + i ∧ 4 * (m % 2) + 4 ≤ 8
    omega
  · show (8 * m + i) / 8 = m / 1 ∧ (8 * m + i) % 8 = 8 * (m % 1) + i ∧ 8 * (m % 1) + 8 ≤ 8
    omega
theorem intsL_at7 {xs : List Nat} {i : Nat} (h : i < xs.length) : (intsL xs)[i]? = some (.int .i64 ((xs.getD i 0 : Nat) : Int)) := by
 rw [intsL, List.getElem?_map, List.getD_eq_getElem?_getD, List.getElem?_eq_getElem h]; rfl
theorem digAt_bits {w : Nat} (h : isW w) (bs : List UInt8) (m : Nat) : (bs.getD (m / dpb w) 0).toNat / 2 ^ (8 - w * (m % dpb w) - w) % 2 ^ w = digAt w bs m := by
 rw [digAt]
 exact dig_bits h _ _ (Nat.mod_lt _ (by have := (dpb_pos h).1; omega))
section
variable {G : World} {M : Mem} {L : Own}
theorem ROf_spec {A : Option Addr} {n c w : Nat} (hw : isW w) {bs : List UInt8} (hb : Bytes M A n c bs) (hn : n ≤ 1000000000) :
    Con Tryz.prog 223 #[.slice A n c, .int .i64 (w : Int)] G M L (fun v M' L' => ∃ A' c' E, v = .slice A' (n * dpb w) c' ∧ OwnRow 3 1 A' (n * dpb w) c' (intsL (digs w bs (n * dpb w))) E ∧ L' = E ++ L) noPanic := by
  obtain ⟨hd1, hd8⟩ := dpb_pos hw
  have hnd := dpb_le hw n hn
  have hbl := hb.size
  have hw8 : 1 ≤ w ∧ w ≤ 8 := by rcases hw with rfl | rfl | rfl | rfl <;> omega
  have h2w : 2 ≤ 2 ^ w ∧ 2 ^ w ≤ 256 := pw2_w hw
  have hmm : ∀ m, m < n * dpb w ↔ w * m < 8 * n := by
    intro m
    rw [← hd8, Nat.mul_assoc, Nat.mul_comm (dpb w) n]
    exact (Nat.mul_lt_mul_left (by omega)).symm
  refine enter (args := [_, _]) (fn := Tryz.f223) ⟨Tryz.func223, rfl, by kernel_rfl, by kernel_rfl⟩ 51 rfl <| zr <| as0 rfl rfl <| zq <| zr <| as0 rfl rfl <| zq <| zr2 <| mvI rfl rfl <| tl_e rfl <| e_call' rfl (RdMay_spec hw) ?_
  rintro _ _ _ _ ⟨rfl, rfl, rfl⟩
  refine tl_y rfl (y_not rfl) <| zq <| x_false rfl (rfl) <| x_skip <| .then_normal <| .s3 0 1 5 rfl rfl rfl <| zr2 <| as0 rfl rfl <| zq <| x_block ?_
  refine x_loop (I := fun m' F D M1 L1 => ∃ (m : Nat) (A1 : Option Addr) (c1 : Nat) (E : Own), m' = n * dpb w - m ∧ m ≤ n * dpb w ∧ Le M M1 ∧ OwnRow 3 1 A1 m c1 (intsL (digs w bs m)) E ∧ D = [] ∧ L1 = E ++ L ∧ F = [(0, .slice A n c), (1, .int .i64 (w : Int)), (5, .slice A1 m c1), (6, .int .i64 ((w * m : Nat) : Int))]) (n * dpb w) (F0 := [(0, _), (1, _), (5, _), (6, _)]) ?_ (.cons rfl (.cons rfl (.cons rfl (.cons rfl .nil)))) ?_  -- slots [0, 1, 5, 6], written [5, 6]
  · exact ⟨0, none, 0, [], rfl, by omega, Le.refl _, .nil, rfl, rfl, rfl⟩
  rintro m _ _ M1 _ ⟨m, A1, c1, E, rfl, hm, hM1, hE, rfl, rfl, rfl⟩
  have hmi := hmm m
  have hwm := Nat.mul_le_mul_left w hm
  rw [← Nat.mul_assoc, Nat.mul_comm w n, Nat.mul_assoc, hd8] at hwm
  refine zr2 <| mvI rfl rfl <| mvS rfl rfl <| tl_y rfl (y_len rfl) <| tl_y rfl (y_mulI rfl rfl (by omega)) ?_
  rw [show (8 : Int) * (n : Int) = ((8 * n : Nat) : Int) by push_cast; rfl]
  refine tl_y rfl (y_lss rfl rfl) <| zq <| .s5 0 1 5 6 17 rfl rfl rfl rfl rfl <| x_cond rfl (fun hc2 => ?_) (fun hc2 => ?_)
  ·
    have hml : m < n * dpb w := by omega
    have hmd : m / dpb w < n := (Nat.div_lt_iff_lt_mul (by omega)).2 hml
    obtain ⟨g, o, rfl, hcell⟩ := (hb.mono hM1).byte (by omega)
    obtain ⟨cc, hcc⟩ : ∃ cc, cc = bs.getD (m / dpb w) 0 := ⟨_, rfl⟩
    obtain ⟨s, hs⟩ : ∃ s, s = w * (m % dpb w) := ⟨_, rfl⟩
    have hc8 := cc.toNat_lt
    refine x_skip <| .then_normal <| x_seq <| x_block <| zr <| as0 rfl rfl <| zq <| zr2 <| as0 rfl rfl <| zq <| x_block ?_
    refine x_loop (I := fun m' F D M2 L2 => ∃ i : Nat, m' = w - i ∧ i ≤ w ∧ D = [] ∧ M1 = M2 ∧ E ++ L = L2 ∧ F = [(0, .slice (some ⟨g, o, none⟩) n c), (1, .int .i64 (w : Int)), (5, .slice A1 m c1), (6, .int .i64 ((w * m : Nat) : Int)), (7, .int .i64 ((cc.toNat / 2 ^ (8 - s - i) % 2 ^ i : Nat) : Int)), (8, .int .i64 (i : Int))]) (w) (F0 := [(0, _), (1, _), (5, _), (6, _), (7, _), (8, _)]) ?_ (.cons rfl (.cons rfl (.cons rfl (.cons rfl (.cons rfl (.cons rfl .nil)))))) ?_  -- slots [0, 1, 5, 6, 7, 8], written [7, 8]
    · exact ⟨0, rfl, by omega, rfl, rfl, rfl, by rw [Nat.pow_zero, Nat.mod_one]; rfl⟩
    rintro m _ _ _ _ ⟨i, rfl, hi, rfl, rfl, rfl, rfl⟩
    refine zr2 <| mvI rfl rfl <| mvI rfl rfl <| tl_y rfl (y_lss rfl rfl) <| zq <| x_cond rfl (fun hc3 => ?_) (fun hc3 => ?_)
    ·
      have hiw : i < w := by omega
      obtain ⟨ha1, ha2, ha3⟩ := at_div (m := m) hw hiw
      rw [← hs] at ha2 ha3
      have hbst := bits_step cc.toNat s i (by omega)
      have hlt : cc.toNat / 2 ^ (8 - s - i) % 2 ^ i < 2 ^ i := Nat.mod_lt _ (Nat.two_pow_pos i)
      have hpi : 2 ^ i ≤ 2 ^ w := Nat.pow_le_pow_right (by omega) hi
      have hshr : (shr8 cc (7 - (s + i))).toNat = cc.toNat / 2 ^ (7 - (s + i)) := by
        rw [shr8, UInt8.toNat_ofNat', Nat.mod_eq_of_lt (Nat.lt_of_le_of_lt (Nat.div_le_self _ _) hc8)]
      refine x_skip <| .then_normal <| x_seq <| x_block <| zr <| mvS rfl rfl <| mvI rfl rfl <| mvI rfl rfl <| tl_y rfl (y_addI rfl rfl (by omega)) <| tl_y rfl (y_quoI rfl rfl (by omega)) ?_
      rw [show (((w * m : Nat) : Int) + (i : Int)) / 8 = ((m / dpb w : Nat) : Int) by rw [← ha1]; omega]
      refine tl_y rfl (y_indexAddrK (m / dpb w) rfl rfl (by omega)) <| tl_y rfl (y_load rfl rfl (.at_ (hcell _ (m / dpb w) (by omega)) (by omega))) ?_
      rw [← hcc]
      refine mvI rfl rfl <| mvI rfl rfl <| tl_y rfl (y_addI rfl rfl (by omega)) <| tl_y rfl (y_remI rfl rfl (by omega)) ?_
      rw [show (((w * m : Nat) : Int) + (i : Int)) % 8 = ((s + i : Nat) : Int) by rw [← ha2]; omega]
      refine tl_y rfl (y_subI rfl rfl (by omega)) ?_
      rw [show (7 : Int) - ((s + i : Nat) : Int) = ((7 - (s + i) : Nat) : Int) by omega]
      refine tl_y rfl (y_convN64 rfl (by omega)) <| tl_y rfl (y_shr8 (a := cc) (s := 7 - (s + i)) rfl rfl) ?_
      rw [show u8v (shr8 cc (7 - (s + i))) = .int .u8 ((cc.toNat / 2 ^ (7 - (s + i)) : Nat) : Int) from congrArg (fun (x : Nat) => Value.int .u8 (x : Int)) hshr]
      refine tl_y rfl (y_convE (b := ((cc.toNat / 2 ^ (7 - (s + i)) : Nat) : Int)) rfl (IntWalk.i64_in _ (by have := Nat.div_le_self cc.toNat (2 ^ (7 - (s + i))); omega))) <| tl_y rfl (y_remI rfl rfl (by omega)) ?_
      rw [show ((cc.toNat / 2 ^ (7 - (s + i)) : Nat) : Int) % 2 = ((cc.toNat / 2 ^ (7 - (s + i)) % 2 : Nat) : Int) by omega]
      refine asI rfl rfl <| zq <| .s7 0 1 5 6 7 8 9 rfl rfl rfl rfl rfl rfl rfl <| x_region <| mvI rfl rfl <| tl_y rfl (y_mulI rfl rfl (by omega)) <| mvI rfl rfl <| tl_y rfl (y_addI rfl rfl (by omega)) ?_
      rw [show (2 : Int) * ((cc.toNat / 2 ^ (8 - s - i) % 2 ^ i : Nat) : Int) + ((cc.toNat / 2 ^ (7 - (s + i)) % 2 : Nat) : Int) = ((cc.toNat / 2 ^ (8 - s - (i + 1)) % 2 ^ (i + 1) : Nat) : Int) by rw [← hbst]; push_cast; rfl]
      refine asI rfl rfl <| tl_nil <| .block_normal <| .then_normal <| .s6 0 1 5 6 7 8 rfl rfl rfl rfl rfl rfl <| x_region <| mvI rfl rfl <| tl_y rfl (y_addI rfl rfl (by omega)) <| asI rfl rfl <| tl_nil <| .loop_next (m' := w - (i + 1)) (by omega) (F' := [(0, _), (1, _), (5, _), (6, _), (7, _), (8, _)]) (.cons rfl (.cons rfl (.cons rfl (.cons rfl (.cons rfl (.cons rfl .nil)))))) ?_
      exact ⟨i + 1, rfl, by omega, rfl, rfl, rfl, rfl⟩
    ·
      obtain rfl : w = i := by omega
      have hdg := digAt_bits hw bs m
      rw [← hcc, ← hs] at hdg
      rw [hdg]
      refine x_exit <| .then_exit <| .loop_exit <| .block_exit <| .then_normal <| .s5 0 1 5 6 7 rfl rfl rfl rfl rfl <| x_region <| mvS rfl rfl <| mvI rfl rfl <| tl_e rfl <| e_buildSlice rfl (by decide) <| fun b7 => .pub b7 inferInstance <| fun M5 hM5 hb7 => tl_e rfl <| e_append (by decide) rfl rfl hE (.row (Row.whole (s := 1) hb7 rfl (by omega))) rfl (by omega) (by omega) <| fun A9 c9 E9 hE9 => ?_
      rw [show intsL (digs w bs m) ++ [Value.int .i64 ((digAt w bs m : Nat) : Int)] = intsL (digs w bs (m + 1)) by rw [digs_succ, intsL, intsL, List.map_append]; rfl] at hE9
      refine asS rfl rfl <| tl_nil <| .block_normal <| .then_normal <| .s4 0 1 5 6 rfl rfl rfl rfl <| x_region <| mvI rfl rfl <| mvI rfl rfl <| tl_y rfl (y_addI rfl rfl (by omega)) ?_
      rw [show ((w * m : Nat) : Int) + (w : Int) = ((w * (m + 1) : Nat) : Int) by rw [Nat.mul_succ]; omega]
      refine asI rfl rfl <| tl_nil <| .loop_next (m' := n * dpb w - (m + 1)) (by omega) (F' := [(0, _), (1, _), (5, _), (6, _)]) (.cons rfl (.cons rfl (.cons rfl (.cons rfl .nil)))) ?_
      exact ⟨m + 1, A9, c9, E9, rfl, by omega, hM1.trans hM5, hE9, rfl, rfl, rfl⟩
  ·
    obtain rfl : m = n * dpb w := by omega
    refine x_exit <| .then_exit <| .loop_exit <| .block_exit <| .then_normal <| .s1 5 rfl <| zr <| mvS rfl rfl <| asS rfl rfl <| zq <| x_ret (ret1 rfl rfl hM1 ⟨A1, c1, E, rfl, hE, rfl⟩)
theorem RLack_spec {A : Option Addr} {n c w : Nat} (hw : isW w) {bs : List UInt8} (hb : Bytes M A n c bs) (hn : n ≤ 1000000000) :
    Con Tryz.prog 222 #[.slice A n c, .int .i64 (w : Int)] G M L (fun v M' L' => L = L' ∧ v = .int .i64 ((lackN w bs (n * dpb w) : Nat) : Int)) noPanic := by
  obtain ⟨hd1, hd8⟩ := dpb_pos hw
  have hnd := dpb_le hw n hn
  have h2w : 2 ≤ pw2 w ∧ pw2 w ≤ 256 := pw2_w hw
  have hw8 : 1 ≤ w ∧ w ≤ 8 := by rcases hw with rfl | rfl | rfl | rfl <;> omega
  refine enter (args := [_, _]) (fn := Tryz.f222) ⟨Tryz.func222, rfl, by kernel_rfl, by kernel_rfl⟩ 40 rfl <| zr <| as0 rfl rfl <| zq <| zr <| mvS rfl rfl <| mvI rfl rfl <| tl_e rfl <| e_call' rfl (ROf_spec hw hb hn) ?_
  rintro _ M1 _ hM1 ⟨A1, c1, E1, rfl, hE1, rfl⟩
  refine .pubRow hE1 <| fun M2 hM2 hr => ?_
  have hd := hM1.trans hM2
  refine asS rfl rfl <| zq <| .s2 1 5 rfl rfl <| zr <| as0 rfl rfl <| zq <| zr2 <| as0 rfl rfl <| zq <| x_block ?_
  refine x_loop (I := fun m' F D M3 L3 => ∃ k : Nat, m' = w - k ∧ k ≤ w ∧ D = [] ∧ M2 = M3 ∧ L = L3 ∧ F = [(1, .int .i64 (w : Int)), (5, .slice A1 (n * dpb w) c1), (6, .int .i64 ((pw2 k : Nat) : Int)), (7, .int .i64 (k : Int))]) (w) (F0 := [(1, _), (5, _), (6, _), (7, _)]) ?_ (.cons rfl (.cons rfl (.cons rfl (.cons rfl .nil)))) ?_  -- slots [1, 5, 6, 7], written [6, 7]
  · exact ⟨0, rfl, by omega, rfl, rfl, rfl, rfl⟩
  rintro m _ _ _ _ ⟨k, rfl, hk, rfl, rfl, rfl, rfl⟩
  refine x_seq <| x_join (I := fun F D M3 L3 => ∃ b : Bool, (b = true ↔ k < w) ∧ D = [] ∧ M2 = M3 ∧ L = L3 ∧ F = [(1, .int .i64 (w : Int)), (5, .slice A1 (n * dpb w) c1), (6, .int .i64 ((pw2 k : Nat) : Int)), (7, .int .i64 (k : Int)), (19, .bool b)]) ?_ (fun Jq4 => ?_)
  ·
    rintro _ _ _ _ ⟨bb, hbb, rfl, rfl, rfl, rfl⟩  -- slots [1, 5, 6, 7, 19]
    refine x_condb rfl (fun hc1 => ?_) (fun hc1 => ?_)
    ·
      have hkw := hbb.1 hc1
      have hp := pw2_le (j := k) (k := w) (by omega)
      refine x_skip <| .then_normal <| x_seq <| x_block <| x_region <| mvI rfl rfl <| tl_y rfl (y_mulI rfl rfl (by omega)) ?_
      rw [pw2_succ]
      refine asI rfl rfl <| tl_nil <| .block_normal <| .then_normal <| x_region <| mvI rfl rfl <| tl_y rfl (y_addI rfl rfl (by omega)) <| asI rfl rfl <| tl_nil <| .loop_next (m' := w - (k + 1)) (by omega) (F' := [(1, _), (5, _), (6, _), (7, _)]) (.cons rfl (.cons rfl (.cons rfl (.cons rfl .nil)))) ?_
      exact ⟨k + 1, rfl, by omega, rfl, rfl, rfl, rfl⟩
    ·
      obtain rfl : w = k := by
        have : ¬ k < w := fun h => by rw [hbb.2 h] at hc1; cases hc1
        omega
      refine x_exit <| .then_exit <| .loop_exit <| .block_exit <| .then_normal <| zr <| as0 rfl rfl <| zq <| zr2 <| as0 rfl rfl <| zq <| x_block ?_
      refine x_loop (I := fun m' F D M3 L3 => ∃ m : Nat, m' = n * dpb w - m ∧ m ≤ n * dpb w ∧ D = [] ∧ M2 = M3 ∧ L = L3 ∧ F = [(5, .slice A1 (n * dpb w) c1), (6, .int .i64 ((pw2 w : Nat) : Int)), (8, .int .i64 ((lackN w bs m : Nat) : Int)), (9, .int .i64 (m : Int))]) (n * dpb w) (F0 := [(5, _), (6, _), (8, _), (9, _)]) ?_ (.cons rfl (.cons rfl (.cons rfl (.cons rfl .nil)))) ?_  -- slots [5, 6, 8, 9], written [8, 9]
      · exact ⟨0, rfl, by omega, rfl, rfl, rfl, by rw [show lackN w bs 0 = 0 by simp [lackN, digs]]; rfl⟩
      rintro m _ _ _ _ ⟨m, rfl, hm, rfl, rfl, rfl, rfl⟩
      refine zr2 <| mvI rfl rfl <| mvS rfl rfl <| tl_y rfl (y_len rfl) <| tl_y rfl (y_lss rfl rfl) <| zq <| x_cond rfl (fun hc2 => ?_) (fun hc2 => ?_)
      ·
        have hml : m < n * dpb w := by omega
        obtain ⟨g, o, rfl, hcell⟩ := hr.addr (by omega)
        have hlk := lackN_le w bs m
        have hlk2 : m * (2 ^ w - 1) ≤ 8000000000 * 255 := Nat.mul_le_mul (by omega) (by have : 2 ^ w = pw2 w := rfl; omega)
        have hdl : digAt w bs m < pw2 w := digAt_lt w bs m
        have hls : lackN w bs (m + 1) = lackN w bs m + (pw2 w - 1 - digAt w bs m) := lackN_succ w bs m
        have hdv : (digs w bs (n * dpb w)).getD m 0 = digAt w bs m := by
          rw [List.getD_eq_getElem?_getD, digs, List.getElem?_map, List.getElem?_range hml]; rfl
        have hat := intsL_at7 (xs := digs w bs (n * dpb w)) (i := m) (by rw [digs_len]; exact hml)
        rw [hdv] at hat
        refine x_skip <| .then_normal <| .s4 5 6 8 9 rfl rfl rfl rfl <| x_seq <| x_block <| x_region <| mvI rfl rfl <| mvI rfl rfl <| tl_y rfl (y_addI rfl rfl (by omega)) <| tl_y rfl (y_subI rfl rfl (by omega)) <| mvS rfl rfl ?_
        refine mvI rfl rfl <| tl_y rfl (y_indexAddrK m rfl rfl (by omega)) <| tl_y rfl (y_load rfl rfl (.at_ (hcell _ m _ hat) (by omega))) <| tl_y rfl (y_subI rfl rfl (by omega)) ?_
        rw [show ((lackN w bs m : Nat) : Int) + ((pw2 w : Nat) : Int) - 1 - ((digAt w bs m : Nat) : Int) = ((lackN w bs (m + 1) : Nat) : Int) by omega]
        refine asI rfl rfl <| tl_nil <| .block_normal <| .then_normal <| .s4 5 6 8 9 rfl rfl rfl rfl <| x_region <| mvI rfl rfl <| tl_y rfl (y_addI rfl rfl (by omega)) <| asI rfl rfl <| tl_nil <| .loop_next (m' := n * dpb w - (m + 1)) (by omega) (F' := [(5, _), (6, _), (8, _), (9, _)]) (.cons rfl (.cons rfl (.cons rfl (.cons rfl .nil)))) ?_
        exact ⟨m + 1, rfl, by omega, rfl, rfl, rfl, rfl⟩
      ·
        obtain rfl : m = n * dpb w := by omega
        refine x_exit <| .then_exit <| .loop_exit <| .block_exit <| .then_normal <| .s1 8 rfl <| zr <| mvI rfl rfl <| asI rfl rfl <| zq <| x_ret (ret1 rfl rfl hd ⟨rfl, rfl⟩)
  ·
    refine x_region <| mvI rfl rfl <| mvI rfl rfl <| tl_y rfl (y_lss rfl rfl) <| mvB rfl rfl <| tl_cases (s := 16) rfl (fun hk1 => ?_) (fun hk1 => ?_)
    ·
      refine mvI rfl rfl <| tl_e rfl <| e_call' rfl (RdMay_spec hw) ?_
      rintro _ _ _ _ ⟨rfl, rfl, rfl⟩
      refine tl_y rfl (y_pickT rfl rfl) <| zq <| .sub (F' := [(1, _), (5, _), (6, _), (7, _), (19, _)]) (.cons rfl (.cons rfl (.cons rfl (.cons rfl (.cons rfl .nil))))) <| Jq4 _ _ _ _ ?_
      exact ⟨_, by
        constructor
        · intro ht
          first | (cases ht; done) | omega
        · intro h
          first | rfl | omega, rfl, rfl, rfl, rfl⟩
    ·
      refine tl_skip rfl <| tl_skip rfl <| tl_y rfl (y_pickF rfl rfl) <| zq <| .sub (F' := [(1, _), (5, _), (6, _), (7, _), (19, _)]) (.cons rfl (.cons rfl (.cons rfl (.cons rfl (.cons rfl .nil))))) <| Jq4 _ _ _ _ ?_
      exact ⟨_, by
        constructor
        · intro ht
          first | (cases ht; done) | omega
        · intro h
          first | rfl | omega, rfl, rfl, rfl, rfl⟩
theorem RAll7_spec {A : Option Addr} {n c w : Nat} (hN : isN n) (hw : isW w) {bs : List UInt8} (hb : Bytes M A n c bs) :
    Con Tryz.prog 198 #[.slice A n c, .int .i64 (w : Int)] G M L (fun v M' L' => L = L' ∧ ∃ A' c', v = .slice A' (shU n w + shV n w) c' ∧ Row M' 1 A' (shU n w + shV n w) c' (intsL (allD n w bs))) noPanic := by
  obtain ⟨h1, h2, h3, h4, h5, h6, h7, h8, h9, h10⟩ := shape_fact hN hw
  obtain ⟨k1, k2, k3, k4⟩ := lack_fits hN hw
  have hnb : n ≤ 32 := by rcases hN with rfl | rfl <;> omega
  have hlx := lackX_lt hN hw bs
  have hll := lackN_le w bs (n * dpb w)
  have hs16 : shS n w ≤ 16 := Nat.sub_le _ _
  refine enter (args := [_, _]) (fn := Tryz.f198) ⟨Tryz.func198, rfl, by kernel_rfl, by kernel_rfl⟩ 47 rfl <| zr <| as0 rfl rfl <| zq <| zr <| mvS rfl rfl <| tl_y rfl (y_len rfl) <| mvI rfl rfl <| tl_e rfl <| e_call' rfl (RShape_spec hN hw) ?_
  rintro _ _ _ _ ⟨rfl, rfl, rfl⟩
  refine mvU rfl rfl <| zx rfl rfl <| zx rfl rfl <| zx rfl rfl <| asI rfl rfl <| asI rfl rfl <| asI rfl rfl <| zq <| .s5 0 1 5 6 7 rfl rfl rfl rfl rfl <| zr2 ?_
  refine mvI rfl rfl <| tl_y rfl (y_eql rfl rfl) <| zq <| x_false rfl (decide_eq_false (by omega)) <| x_skip <| .then_normal <| zr <| mvS rfl rfl <| mvI rfl rfl <| tl_e rfl <| e_call' rfl (RLack_spec hw hb (by omega)) ?_
  rintro _ M2 _ hM2 ⟨rfl, rfl⟩
  refine asI rfl rfl <| zq <| .s5 0 1 6 7 8 rfl rfl rfl rfl rfl <| zr2 <| as0 rfl rfl <| zq <| x_block ?_
  refine x_loop (I := fun m' F D M3 L3 => ∃ k : Nat, m' = shS n w - k ∧ k ≤ shS n w ∧ D = [] ∧ M2 = M3 ∧ L = L3 ∧ F = [(0, .slice A n c), (1, .int .i64 (w : Int)), (6, .int .i64 (shV n w : Nat)), (7, .int .i64 (shS n w : Nat)), (8, .int .i64 ((lackN w bs (n * dpb w) * pw2 k : Nat) : Int)), (9, .int .i64 (k : Int))]) (shS n w) (F0 := [(0, _), (1, _), (6, _), (7, _), (8, _), (9, _)]) ?_ (.cons rfl (.cons rfl (.cons rfl (.cons rfl (.cons rfl (.cons rfl .nil)))))) ?_  -- slots [0, 1, 6, 7, 8, 9], written [8, 9]
  · exact ⟨0, rfl, by omega, rfl, rfl, rfl, by rw [show pw2 0 = 1 from rfl, Nat.mul_one]; rfl⟩
  rintro m _ _ _ _ ⟨k, rfl, hk, rfl, rfl, rfl, rfl⟩
  refine zr2 <| mvI rfl rfl <| mvI rfl rfl <| tl_y rfl (y_lss rfl rfl) <| zq <| x_cond rfl (fun hc2 => ?_) (fun hc2 => ?_)
  ·
    have hkl : k < shS n w := by omega
    have hpk := pw2_le (j := k + 1) (k := shS n w) (by omega)
    have hps : pw2 (k + 1) = 2 * pw2 k := by rw [pw2, pw2, Nat.pow_succ, Nat.mul_comm]
    have hxx : lackN w bs (n * dpb w) * pw2 (k + 1) ≤ lackX n w bs := Nat.mul_le_mul_left _ hpk
    have hx2 : 2 * (lackN w bs (n * dpb w) * pw2 k) = lackN w bs (n * dpb w) * pw2 (k + 1) := by rw [hps, Nat.mul_left_comm]
    refine x_skip <| .then_normal <| x_seq <| x_block <| x_region <| mvI rfl rfl <| tl_y rfl (y_mulI rfl rfl (by omega)) ?_
    rw [show (2 : Int) * ((lackN w bs (n * dpb w) * pw2 k : Nat) : Int) = ((lackN w bs (n * dpb w) * pw2 (k + 1) : Nat) : Int) by rw [← hx2]; push_cast; rfl]
    refine asI rfl rfl <| tl_nil <| .block_normal <| .then_normal <| .s6 0 1 6 7 8 9 rfl rfl rfl rfl rfl rfl <| x_region <| mvI rfl rfl <| tl_y rfl (y_addI rfl rfl (by omega)) <| asI rfl rfl <| tl_nil <| .loop_next (m' := shS n w - (k + 1)) (by omega) (F' := [(0, _), (1, _), (6, _), (7, _), (8, _), (9, _)]) (.cons rfl (.cons rfl (.cons rfl (.cons rfl (.cons rfl (.cons rfl .nil)))))) ?_
    exact ⟨k + 1, rfl, by omega, rfl, rfl, rfl, rfl⟩
  ·
    obtain rfl : k = shS n w := by omega
    rw [show lackN w bs (n * dpb w) * pw2 (shS n w) = lackX n w bs from rfl]
    have hq1 : ((UInt8.ofNat (lackX n w bs / 256)).toNat : Int) = ((lackX n w bs : Nat) : Int) / 256 := by rw [UInt8.toNat_ofNat', Nat.mod_eq_of_lt (by omega)]; omega
    have hq2 : ((UInt8.ofNat (lackX n w bs % 256)).toNat : Int) = ((lackX n w bs : Nat) : Int) % 256 := by rw [UInt8.toNat_ofNat', Nat.mod_eq_of_lt (by omega)]; omega
    refine x_exit <| .then_exit <| .loop_exit <| .block_exit <| .then_normal <| .s4 0 1 6 8 rfl rfl rfl rfl <| zr <| mvI rfl rfl <| tl_y rfl (y_quoI rfl rfl (by omega)) <| tl_y rfl (y_convN8 rfl (by omega)) ?_
    rw [← hq1]
    refine mvI rfl rfl <| tl_y rfl (y_remI rfl rfl (by omega)) <| tl_y rfl (y_convN8 rfl (by omega)) ?_
    rw [← hq2]
    refine tl_e rfl <| e_buildSlice rfl (by decide) <| fun b7 => .pub b7 inferInstance <| fun M3 hM3 hb7 => ?_
    have hA3 : Bytes M3 (some ⟨b7, 0, none⟩) 2 2 (two (lackX n w bs)) := Row.whole hb7 rfl (by omega)
    refine mvI rfl rfl <| tl_e rfl <| e_call' rfl (ROf_spec hw (n := 2) hA3 (by omega)) ?_
    rintro _ M4 _ hM4 ⟨A4, c4, E4, rfl, hE4, rfl⟩
    refine .pubRow hE4 <| fun M5 hM5 hr5 => ?_
    have hd := hM2.trans (hM3.trans (hM4.trans hM5))
    have hc4 := hr5.le
    refine asS rfl rfl <| zq <| .s4 0 1 6 10 rfl rfl rfl rfl <| x_seq ?_
    have he : Le M5 M5 := Le.refl _
    refine x_draw 6 hmix rfl <| zp 0 rfl rfl (y_move (v := .slice _ _ _) rfl) <| zp 1 rfl rfl (y_move (v := .int _ _) rfl) <| zp 3 rfl rfl (y_move (v := .slice _ _ _) rfl) <| zp 4 rfl rfl (y_move (v := .int _ _) rfl) <| zp 5 rfl rfl (y_sliceH rfl rfl (by omega) (by omega)) <| ze 2 rfl rfl <| e_call' rfl (ROf_spec hw (hb.mono hd) (by omega)) ?_
    rintro _ M6 _ hM6 ⟨A6, c6, E6, rfl, hE6, rfl⟩
    refine ⟨⟨(by first | exact Le.refl _ | assumption), Keeps.mem⟩, ?_⟩
    refine zt 6 rfl rfl <| e_append (by decide) rfl rfl hE6 (.row (Row.slice (l := 0) (h := shV n w) (m := c4) (hr5.mono hM6) (by omega) (by omega) (by omega) (by omega))) (intsL_one' _ _ _) (by omega) (by omega) <| fun A9 c9 E9 hE9 => ?_
    rw [allD_vals n w _ bs rfl] at hE9
    refine .pubRow hE9 <| fun M7 hM7 hr7 => zp 7 rfl rfl (y_assign (v := .slice _ _ _) rfl) <| zz <| .then_normal <| .s1 4 rfl <| x_ret (ret1 rfl rfl (hd.trans (hM6.trans hM7)) ⟨rfl, A9, c9, by rw [k4]; rfl, by rw [k4]; exact hr7⟩)
end
end Go.Proofs.YtiimjodbaogjbaaGreatDoor
set_option linter.unusedVariables false
set_option linter.unusedSimpArgs false
set_option linter.constructorNameAsVariable false
namespace Go.Proofs.YtiimjodbaogjbaaGreatDoor
open Go Go.Eng
section
variable {G : World} {M : Mem} {L : Own} {NA SA TA : Option Addr} {nl nc sl sc tl tc : Nat} {name sec text : List UInt8}
theorem RoDigits_spec (o : OtsV) {n w p : Nat} (ho : OF o n w p) (hname : Bytes M NA nl nc name) (hn16 : nl = 16) (q : UInt32) (hsalt : Bytes M SA sl sc sec) (htext : Bytes M TA tl tc text) (hsl : sl ≤ 1000000000) (htl : tl ≤ 1000000000) :
  Con Tryz.prog 155 #[.agg (List.toArray o.cells), .slice NA nl nc, .int .u32 (q.toNat : Int), .slice SA sl sc, .slice TA tl tc] G M L (fun v M' L' => L = L' ∧ ∃ A c, v = .slice A p c ∧ Row M' 1 A p c (intsL (digO o name q.toNat sec text))) noPanic := by
 have h1 := hname.size
 have h2 := hsalt.size
 have h3 := htext.size
 refine enter (args := [_, _, _, _, _]) (fn := Tryz.f155) ⟨Tryz.func155, rfl, by kernel_rfl, by kernel_rfl⟩ 25 rfl <| zr <| tl_e rfl <| e_box rfl <| fun b1 => as0 rfl rfl <| zq <| x_seq ?_
 have he : Le M M := Le.refl _
 refine x_draw 15 hmix rfl <| zp 0 rfl rfl (y_fieldAddr rfl) <| zy 1 rfl rfl (y_ld rfl rfl) <| zp 2 rfl rfl (y_fieldAddr rfl) <| zy 3 rfl rfl (y_ld rfl rfl) <| zp 4 rfl rfl (y_move (v := .slice _ _ _) rfl) <| zp 5 rfl rfl (y_move (v := .int _ _) rfl) <| zp 6 rfl rfl (y_move (v := .slice _ _ _) rfl) <| zp 7 rfl rfl (y_move (v := .slice _ _ _) rfl) <| zp 11 rfl rfl (y_fieldAddr rfl) ?_
 refine zy 12 rfl rfl (y_load (v := .int .i64 (w : Int)) rfl rfl (by rw [← ho.hw]; exact .own inferInstance inferInstance)) <| ze 8 rfl rfl <| e_buildSlice rfl (by decide) <| fun b7 => ⟨⟨he, Keeps.mem⟩, ?_⟩
 refine .pub b7 inferInstance <| fun M3 hM3 hb7 => ?_
 replace he := he.trans hM3
 have hfl : [sec, text].flatten = sec ++ text := by simp
 have hfll : (sec ++ text).length = sl + tl := by rw [List.length_append]; omega
 refine ze 9 rfl rfl <| e_call' rfl (RCat_own (Row.whole hb7 rfl (by omega)) (.cons (hsalt.mono he) (.cons (htext.mono he) .nil)) (by rw [hfl, hfll]; omega)) ?_
 rintro _ _ _ _ ⟨rfl, A4, c4, E4, rfl, hE4, rfl⟩
 rw [hfl, hfll] at hE4
 rw [hfl, hfll]
 refine ⟨⟨he, Keeps.mem⟩, ?_⟩
 refine .pubRow hE4 <| fun M4 hM4 hA4 => ?_
 replace he := he.trans hM4
 refine ze 10 rfl rfl <| e_call' rfl (RPart_spec o.kind o.n (hname.mono he) q 33153 (by omega) hA4 (by omega)) ?_
 rintro _ M5 _ hM5 ⟨rfl, A5, m5, c5, rfl, hA5⟩
 replace he := he.trans hM5
 have hm5 := hA5.size
 rw [cPartO_len ho (by omega)] at hm5
 subst hm5
 refine ⟨⟨(by first | exact Le.refl _ | assumption), Keeps.mem⟩, ?_⟩
 refine ze 13 rfl rfl <| e_call' rfl (RAll7_spec ho.isn ho.isw hA5) ?_
 rintro _ M6 _ hM6 ⟨rfl, A6, c6, rfl, hr6⟩
 replace he := he.trans hM6
 have hr6' : Row M6 1 A6 p c6 (intsL (digO o name q.toNat sec text)) := by
  rw [digO, ho.hn, ho.hw, Int.toNat_natCast, Int.toNat_natCast, ho.up]
  rw [ho.hn] at hr6
  exact hr6
 rw [← ho.up]
 refine ⟨⟨(by first | exact Le.refl _ | assumption), Keeps.mem⟩, ?_⟩
 refine zp 14 rfl rfl (y_assign (v := .slice _ _ _) rfl) <| zz <| .then_normal <| .s1 10 rfl <| x_ret (.dropTo L inferInstance (ret1 rfl rfl he ⟨rfl, A6, c6, rfl, hr6'⟩))
theorem RoSign_spec (o : OtsV) (hname : Bytes M NA nl nc name) (hsec : Bytes M SA sl sc sec) (q : UInt32) (htext : Bytes M TA tl tc text) :
    Con Tryz.prog 97 #[.agg (List.toArray o.cells), .agg (List.toArray (seedC NA nl nc SA sl sc)), .int .u32 (q.toNat : Int), .slice TA tl tc] G M L (fun v M' L' => L = L' ∧ ∃ A m c, v = .slice A m c ∧ Bytes M' A m c (if okY o nl sl ∧ tl ≤ 65536 then sigB o name sec q.toNat text else [])) noPanic := by
  refine enter (args := [_, _, _, _]) (fn := Tryz.f97) ⟨Tryz.func97, rfl, by kernel_rfl, by kernel_rfl⟩ 65 rfl <| zr <| tl_e rfl <| e_box rfl <| fun b1 => tl_e rfl <| e_box rfl <| fun b2 => as0 rfl rfl <| zq <| zr2 <| tl_y rfl (y_lg rfl rfl) <| tl_y rfl (y_lg rfl rfl) <| tl_e rfl <| e_call' rfl (RoMay_spec o) ?_
  rintro _ _ _ _ ⟨rfl, rfl, rfl⟩
  refine tl_y rfl (y_notd rfl) <| mvB rfl rfl <| tl_cases (s := 17) rfl (fun hk1 => ?_) (fun hk1 => ?_)
  ·
    refine tl_skip rfl <| tl_skip rfl <| tl_skip rfl <| tl_y rfl (y_pickT rfl rfl) <| zq <| .s5 2 3 4 5 21 rfl rfl rfl rfl rfl <| x_true rfl rfl <| zr <| as0 rfl rfl <| zq ?_
    refine .s1 8 rfl <| x_ret (.then_ret (.dropTo L inferInstance (ret1 rfl rfl (Le.refl _) ⟨rfl, _, _, _, rfl, by rw [if_neg (fun h => hk1 h.1)]; exact Row.nil _ _⟩)))
  ·
    refine mvS rfl rfl <| tl_y rfl (y_len rfl) <| tl_y rfl (y_gtr rfl rfl) <| tl_y rfl (y_pickF rfl rfl) <| zq <| .s5 2 3 4 5 21 rfl rfl rfl rfl rfl <| x_cond rfl (fun hc1 => ?_) (fun hc1 => ?_)
    ·
      refine zr <| as0 rfl rfl <| zq <| .s1 8 rfl <| x_ret (.then_ret (.dropTo L inferInstance (ret1 rfl rfl (Le.refl _) ⟨rfl, _, _, _, rfl, by rw [if_neg (fun h => by have := h.2; omega)]; exact Row.nil _ _⟩)))
    ·
      have hok : okY o nl sl := Classical.not_not.1 hk1
      obtain ⟨n, w, p, ho⟩ := okO_facts hok.1
      have hn32 := ho.n32
      have hn := ho.hn
      have hsl := hok.2.2
      have hnl := hok.2.1
      have hp2 := ho.p2
      have hcl := o.code.toNat_lt
      have htl := htext.size
      refine x_skip <| .then_normal <| zr <| tl_y rfl (y_lg rfl rfl) <| tl_y rfl (y_lg rfl rfl) <| mvI rfl rfl <| tl_e rfl <| e_call' rfl (RoSecret_spec o hname hsec q 65533 (by omega)) ?_
      rintro _ M2 _ hM2 ⟨rfl, A2, m2, c2, rfl, hA2⟩
      rw [if_pos hok] at hA2
      have hd := hM2
      have hm2 := hA2.size
      rw [hidB_len ho] at hm2
      subst hm2
      refine asS rfl rfl <| zq <| .s5 2 3 4 5 9 rfl rfl rfl rfl rfl <| zr <| tl_y rfl (y_lg rfl rfl) <| tl_y rfl (y_fieldAddr rfl) <| tl_y rfl (y_ld rfl rfl) <| mvI rfl rfl <| mvS rfl rfl <| mvS rfl rfl ?_
      refine tl_e rfl <| e_call' rfl (RoDigits_spec o ho (hname.mono hd) hnl q hA2 (htext.mono hd) (by omega) (by omega)) ?_
      rintro _ M3 _ hM3 ⟨rfl, A3, c3, rfl, hr3⟩
      replace hd := hd.trans hM3
      obtain ⟨ds, hds⟩ : ∃ ds, ds = digO o name q.toNat (hidB o name sec q.toNat 65533) text := ⟨_, rfl⟩
      rw [← hds] at hr3
      have hdl : ds.length = p := by rw [hds]; exact (digO_get ho _ _ _ _).1
      obtain ⟨gd, od, rfl, _⟩ := hr3.addr (by have := ho.p1; omega)
      refine asS rfl rfl <| zq <| .s5 2 4 5 9 10 rfl rfl rfl rfl rfl <| zr <| tl_y rfl (y_fieldAddr rfl) <| tl_y rfl (y_ld rfl rfl) <| tl_y rfl (y_convN64 rfl (by omega)) <| tl_e rfl <| e_call' rfl (RPutV_spec o.code.toNat 4 (by omega) (by omega)) ?_
      rintro _ M5 _ hM5 ⟨rfl, A5, c5, rfl, hA5⟩
      replace hd := hd.trans hM5
      refine mvS rfl rfl <| tl_e rfl <| e_buildSlice rfl (by decide) <| fun b7 => .pub b7 inferInstance <| fun M6 hM6 hb7 => ?_
      replace hd := hd.trans hM6
      obtain ⟨H0, hH0⟩ : ∃ H0, H0 = putB o.code.toNat 4 ++ hidB o name sec q.toNat 65533 := ⟨_, rfl⟩
      have hfl : [putB o.code.toNat 4, hidB o name sec q.toNat 65533].flatten = H0 := by rw [hH0]; simp
      have hfll : H0.length = 4 + n := by rw [hH0, List.length_append, putB_length, hidB_len ho]
      refine tl_e rfl <| e_call' rfl (RCat_own (Row.whole hb7 rfl (by omega)) (.cons (hA5.mono hM6) (.cons (hA2.mono (hM3.trans (hM5.trans hM6))) .nil)) (by rw [hfl]; omega)) ?_
      rintro _ _ _ _ ⟨rfl, A7, c7, E7, rfl, hE7, rfl⟩
      rw [hfl] at hE7
      rw [hfl]
      refine .to (E7 ++ ((b2, .cells (List.toArray (seedC NA nl nc SA sl sc)) 49 (0, 0)) :: (b1, .cells (List.toArray o.cells) 27 (0, 0)) :: L)) inferInstance <| asS rfl rfl <| zq <| .s5 2 4 5 10 11 rfl rfl rfl rfl rfl <| zr2 <| as0 rfl rfl <| zq <| x_block ?_
      refine x_loop (I := fun m' F D M8 L8 => ∃ (i : Nat) (A : Option Addr) (m c : Nat) (E : Own), m' = p - i ∧ i ≤ p ∧ Le M6 M8 ∧ m = (H0 ++ catR (sigR o name sec q.toNat ds) i).length ∧ OwnRow 5 1 A m c ((H0 ++ catR (sigR o name sec q.toNat ds) i).map bv) E ∧ D = [] ∧ L8 = E ++ ((b2, .cells (List.toArray (seedC NA nl nc SA sl sc)) 49 (0, 0)) :: (b1, .cells (List.toArray o.cells) 27 (0, 0)) :: L) ∧ F = [(2, .int .u32 (q.toNat : Int)), (4, .pointer (some ⟨b1, 0, none⟩)), (5, .pointer (some ⟨b2, 0, none⟩)), (10, .slice (some ⟨gd, od, none⟩) p c3), (11, .slice A m c), (12, .int .i64 (i : Int))]) (p) (F0 := [(2, _), (4, _), (5, _), (10, _), (11, _), (12, _)]) ?_ (.cons rfl (.cons rfl (.cons rfl (.cons rfl (.cons rfl (.cons rfl .nil)))))) ?_  -- slots [2, 4, 5, 10, 11, 12], written [11, 12]
      · exact ⟨0, A7, _, c7, E7, rfl, by omega, Le.refl _, by rw [catR_zero, List.append_nil], by rw [catR_zero, List.append_nil]; exact hE7, rfl, rfl, rfl⟩
      rintro m _ _ M8 _ ⟨i, A, m, c, E, rfl, hi, hM8, hm, hE, rfl, rfl, rfl⟩
      have hle := catR_le (sigR_le o name sec q.toNat ds) i
      have hli := sigR_le o name sec q.toNat ds i
      have hd8 := hd.trans hM8
      rw [List.length_append] at hm
      refine zr2 <| mvI rfl rfl <| tl_y rfl (y_fieldAddr rfl) <| tl_y rfl (y_load (v := .int .i64 (p : Int)) rfl rfl (by rw [← ho.hp]; exact .own inferInstance inferInstance)) <| tl_y rfl (y_lss rfl rfl) <| zq <| x_cond rfl (fun hc2 => ?_) (fun hc2 => ?_)
      ·
        have hip : i < p := by omega
        obtain ⟨gd', od', hgd, hcd⟩ := (hr3.mono (hM5.trans (hM6.trans hM8))).addr (by omega)
        obtain ⟨rfl, rfl⟩ : gd = gd' ∧ od = od' := by simpa using hgd
        refine x_skip <| .then_normal <| .s6 2 4 5 10 11 12 rfl rfl rfl rfl rfl rfl <| x_seq <| x_block ?_
        have he : Le M8 M8 := Le.refl _
        refine x_draw0 19 ([(b2, .cells (List.toArray (seedC NA nl nc SA sl sc)) 49 (0, 0)), (b1, .cells (List.toArray o.cells) 27 (0, 0))]) Keeps.mem hmix rfl <| zp 0 rfl rfl (y_move (v := .slice _ _ _) rfl) <| zy 1 rfl rfl (y_lg rfl rfl) <| zp 2 rfl rfl (y_fieldAddr rfl) <| zy 3 rfl rfl (y_ld rfl rfl) <| zp 4 rfl rfl (y_move (v := .int _ _) rfl) <| zp 5 rfl rfl (y_move (v := .int _ _) rfl) <| zp 6 rfl rfl (y_move (v := .slice _ _ _) rfl) ?_
        refine zp 7 rfl rfl (y_move (v := .int _ _) rfl) <| zp 8 rfl rfl (y_indexAddrK i rfl rfl (by omega)) <| zy 9 rfl rfl (y_load rfl rfl (.at_ (hcd _ i _ (intsL_at (by omega))) (by omega))) <| zy 10 rfl rfl (y_lg rfl rfl) <| zy 11 rfl rfl (y_lg rfl rfl) <| zp 12 rfl rfl (y_move (v := .int _ _) rfl) <| zp 13 rfl rfl (y_move (v := .int _ _) rfl) <| zp 14 rfl rfl (y_convE (b := (i : Int)) rfl (by rw [wrapU16]; omega)) <| ze 15 rfl rfl <| e_call' rfl (RoSecret_spec o (hname.mono hd8) (hsec.mono hd8) q i (by omega)) ?_
        rintro _ M9 _ hM9 ⟨rfl, A9, m9, c9, rfl, hA9⟩
        rw [if_pos hok] at hA9
        replace he := he.trans hM9
        refine ⟨⟨(by first | exact Le.refl _ | assumption), Keeps.mem⟩, ?_⟩
        refine ze 16 rfl rfl <| e_call' rfl (RUp_spec9 sha_length o (hname.mono (hd8.trans he)) hA9 q i 0 ((ds.getD i 0 : Nat) : Int)) ?_
        rintro _ M10 _ hM10 ⟨rfl, A10, m10, c10, rfl, hA10⟩
        replace he := he.trans hM10
        have hm10 : (sigR o name sec q.toNat ds i).length = m10 := hA10.size
        refine ⟨⟨(by first | exact Le.refl _ | assumption), Keeps.mem⟩, ?_⟩
        refine ze 17 rfl rfl <| e_append (by decide) rfl rfl hE (.row hA10) (all_one_bv _) (by omega) (by omega) <| fun A11 c11 E11 hE11 => ?_
        rw [← List.map_append, List.append_assoc, show catR (sigR o name sec q.toNat ds) i ++ cUp o name q.toNat (i : Int) 0 ((ds.getD i 0 : Nat) : Int) (hidB o name sec q.toNat i) = catR (sigR o name sec q.toNat ds) (i + 1) from (catR_succ _ _).symm] at hE11
        refine ⟨⟨(by first | exact Le.refl _ | assumption), Keeps.mem⟩, ?_⟩
        refine zp 18 rfl rfl (y_assign (v := .slice _ _ _) rfl) <| zz <| .block_normal <| .then_normal <| .s6 2 4 5 10 11 12 rfl rfl rfl rfl rfl rfl <| x_region <| mvI rfl rfl <| tl_y rfl (y_addI rfl rfl (by omega)) <| asI rfl rfl <| tl_nil <| .loop_next (m' := p - (i + 1)) (by omega) (F' := [(2, _), (4, _), (5, _), (10, _), (11, _), (12, _)]) (.cons rfl (.cons rfl (.cons rfl (.cons rfl (.cons rfl (.cons rfl .nil)))))) ?_
        exact ⟨i + 1, A11, m + m10, c11, E11, rfl, by omega, hM8.trans he, by rw [List.length_append, catR_succ, List.length_append]; omega, hE11, rfl, rfl, rfl⟩
      ·
        obtain rfl : i = p := by omega
        refine .pubRow hE <| fun M9 hM9 hrow => x_exit <| .then_exit <| .loop_exit <| .block_exit <| .then_normal <| .s1 11 rfl <| zr <| mvS rfl rfl <| asS rfl rfl <| zq <| x_ret (.dropTo L inferInstance (ret1 rfl rfl (hd8.trans hM9) ⟨rfl, _, _, _, rfl, by
          rw [if_pos ⟨hok, by omega⟩, sigB, ho.hp, Int.toNat_natCast, saltB, ← hds, ← List.append_assoc, ← hH0]
          exact hrow⟩))
end
end Go.Proofs.YtiimjodbaogjbaaGreatDoor
