/-
Contracts of functions, each proved by a walk through its code.
-/
import Derived.Test.YtbjnjedfoiedeaaGreatDoorOnce2Etc
import Derived.Test.YtbjnjedfoiedeaaGreatDoorDigPureEtc
set_option linter.unusedVariables false
set_option linter.unusedSimpArgs false
set_option linter.constructorNameAsVariable false
namespace Go.Proofs.YtbjnjedfoiedeaaGreatDoor
open Go Go.Eng
section
variable {G : World} {M : Mem} {L : Own} {NA SA : Option Addr} {nl nc sl sc : Nat} {name sec : List UInt8}
theorem RoMay_spec (o : OtsV) :
    Con Tryz.prog 13 #[.agg (List.toArray o.cells), .agg (List.toArray (seedC NA nl nc SA sl sc))] G M L (fun v M' L' => M = M' ∧ L = L' ∧ v = .bool (decide (okY o nl sl))) noPanic := by
  refine enter (args := [_, _]) (fn := Tryz.f13) ⟨Tryz.func13, rfl, by kernel_rfl, by kernel_rfl⟩ 34 rfl ?_
  refine x_seq (x_region ?_)
  refine tl_e rfl (e_box rfl (fun b1 => ?_))
  refine tl_e rfl (e_box rfl (fun b2 => ?_))
  refine tl_y rfl (y_assign rfl) ?_
  refine tl_nil (.then_normal ?_)
  refine x_seq (x_region ?_)
  refine tl_y rfl (y_fieldAddr rfl) ?_
  refine tl_y rfl (y_load rfl rfl (.own inferInstance inferInstance)) ?_
  refine tl_e rfl (e_call' rfl (ROts_spec o.code) ?_)
  rintro _ _ _ _ ⟨rfl, rfl, rfl⟩
  refine tl_y rfl (y_move (v := .tuple _) rfl) ?_
  refine tl_y rfl (y_extract rfl) ?_
  refine tl_y rfl (y_extract rfl) ?_
  refine tl_e rfl (e_alloc (fun b3 => ?_))
  refine tl_e rfl (e_store rfl rfl (by rfl) (by rfl) inferInstance inferInstance inferInstance ?_)
  refine tl_y rfl (y_assign (v := .int _ _) rfl) ?_
  refine tl_nil (.then_normal ?_)
  refine .sub (F' := [(2, _), (3, _), (5, _), (6, _)]) (.cons rfl (.cons rfl (.cons rfl (.cons rfl .nil)))) ?_
  refine x_join (I := fun F D M2 L2 => ∃ b : Bool, (b = true ↔ okY o nl sl) ∧ D = [] ∧ M = M2 ∧ DropTo L2 L ∧ F = [(4, .bool b)]) ?_ (fun Jq2 => ?_)
  ·
    rintro _ _ _ L2 ⟨b, hb, rfl, rfl, hdr, rfl⟩  -- slots [4]
    refine x_ret (.dropTo L hdr (ret1 rfl rfl (Le.refl _) ⟨rfl, rfl, by rw [bool_iff hb]⟩))
  ·
    refine x_region ?_
    refine tl_y rfl (y_move (v := .int _ _) rfl) ?_
    refine tl_y rfl (y_eql rfl rfl) ?_
    refine tl_y rfl (y_move (v := .bool _) rfl) ?_
    refine tl_cases (s := 15) rfl (fun hk1 => ?_) (fun hk1 => ?_)
    ·
      refine tl_y rfl (y_loadAgg rfl rfl (.own inferInstance inferInstance)) ?_
      refine tl_y rfl (y_loadAgg rfl rfl (.own inferInstance inferInstance)) ?_
      refine tl_y rfl (y_eqlS rfl rfl eqs31) ?_
      refine tl_y rfl (y_pickT rfl rfl) ?_
      refine tl_y rfl (y_move (v := .bool _) rfl) ?_
      refine tl_cases (s := 20) rfl (fun hk2 => ?_) (fun hk2 => ?_)
      ·
        refine tl_y rfl (y_fieldAddr rfl) ?_
        refine tl_y rfl (y_load rfl rfl (.own inferInstance inferInstance)) ?_
        refine tl_y rfl (y_len rfl) ?_
        refine tl_y rfl (y_eql rfl rfl) ?_
        refine tl_y rfl (y_pickT rfl rfl) ?_
        refine tl_y rfl (y_move (v := .bool _) rfl) ?_
        refine tl_cases (s := 26) rfl (fun hk3 => ?_) (fun hk3 => ?_)
        ·
          refine tl_y rfl (y_fieldAddr rfl) ?_
          refine tl_y rfl (y_load rfl rfl (.own inferInstance inferInstance)) ?_
          refine tl_y rfl (y_len rfl) ?_
          refine tl_y rfl (y_fieldAddr rfl) ?_
          refine tl_y rfl (y_load rfl rfl (.own inferInstance inferInstance)) ?_
          refine tl_y rfl (y_eql rfl rfl) ?_
          refine tl_y rfl (y_pickT rfl rfl) ?_
          refine tl_y rfl (y_assign (v := .bool _) rfl) ?_
          refine tl_nil (.then_normal (.sub (F' := [(4, _)]) (.cons rfl .nil) (Jq2 _ _ _ _ ?_)))
          exact ⟨_, by
            constructor
            · intro ht
              first | (cases ht; done) | (simp at ht; exact ⟨⟨hk1, ots_eq hk2⟩, by omega, by omega⟩)
            · rintro ⟨⟨a1, a2⟩, a3, a4⟩
              first | exact absurd a1 hk1 | exact absurd (eq_ots a2) hk2 | (simp; omega) | omega, rfl, rfl, inferInstance, rfl⟩
        ·
          refine tl_skip rfl ?_
          refine tl_skip rfl ?_
          refine tl_skip rfl ?_
          refine tl_skip rfl ?_
          refine tl_skip rfl ?_
          refine tl_skip rfl ?_
          refine tl_y rfl (y_pickF rfl rfl) ?_
          refine tl_y rfl (y_assign (v := .bool _) rfl) ?_
          refine tl_nil (.then_normal (.sub (F' := [(4, _)]) (.cons rfl .nil) (Jq2 _ _ _ _ ?_)))
          exact ⟨_, by
            constructor
            · intro ht
              first | (cases ht; done) | (simp at ht; exact ⟨⟨hk1, ots_eq hk2⟩, by omega, by omega⟩)
            · rintro ⟨⟨a1, a2⟩, a3, a4⟩
              first | exact absurd a1 hk1 | exact absurd (eq_ots a2) hk2 | (simp; omega) | omega, rfl, rfl, inferInstance, rfl⟩
      ·
        refine tl_skip rfl ?_
        refine tl_skip rfl ?_
        refine tl_skip rfl ?_
        refine tl_skip rfl ?_
        refine tl_y rfl (y_pickF rfl rfl) ?_
        refine tl_y rfl (y_move (v := .bool _) rfl) ?_
        refine tl_skip rfl ?_
        refine tl_skip rfl ?_
        refine tl_skip rfl ?_
        refine tl_skip rfl ?_
        refine tl_skip rfl ?_
        refine tl_skip rfl ?_
        refine tl_y rfl (y_pickF rfl rfl) ?_
        refine tl_y rfl (y_assign (v := .bool _) rfl) ?_
        refine tl_nil (.then_normal (.sub (F' := [(4, _)]) (.cons rfl .nil) (Jq2 _ _ _ _ ?_)))
        exact ⟨_, by
          constructor
          · intro ht
            first | (cases ht; done) | (simp at ht; exact ⟨⟨hk1, ots_eq hk2⟩, by omega, by omega⟩)
          · rintro ⟨⟨a1, a2⟩, a3, a4⟩
            first | exact absurd a1 hk1 | exact absurd (eq_ots a2) hk2 | (simp; omega) | omega, rfl, rfl, inferInstance, rfl⟩
    ·
      refine tl_skip rfl ?_
      refine tl_skip rfl ?_
      refine tl_skip rfl ?_
      refine tl_y rfl (y_pickF rfl rfl) ?_
      refine tl_y rfl (y_move (v := .bool _) rfl) ?_
      refine tl_skip rfl ?_
      refine tl_skip rfl ?_
      refine tl_skip rfl ?_
      refine tl_skip rfl ?_
      refine tl_y rfl (y_pickF rfl rfl) ?_
      refine tl_y rfl (y_move (v := .bool _) rfl) ?_
      refine tl_skip rfl ?_
      refine tl_skip rfl ?_
      refine tl_skip rfl ?_
      refine tl_skip rfl ?_
      refine tl_skip rfl ?_
      refine tl_skip rfl ?_
      refine tl_y rfl (y_pickF rfl rfl) ?_
      refine tl_y rfl (y_assign (v := .bool _) rfl) ?_
      refine tl_nil (.then_normal (.sub (F' := [(4, _)]) (.cons rfl .nil) (Jq2 _ _ _ _ ?_)))
      exact ⟨_, by
        constructor
        · intro ht
          first | (cases ht; done) | (simp at ht; exact ⟨⟨hk1, ots_eq hk2⟩, by omega, by omega⟩)
        · rintro ⟨⟨a1, a2⟩, a3, a4⟩
          first | exact absurd a1 hk1 | exact absurd (eq_ots a2) hk2 | (simp; omega) | omega, rfl, rfl, inferInstance, rfl⟩
theorem RoLight_spec (o : OtsV) :
    Con Tryz.prog 8 #[.agg (List.toArray o.cells)] G M L (fun v M' L' => M = M' ∧ L = L' ∧ v = .bool (decide (o.w ≤ 4 ∧ o.p ≤ 140))) noPanic := by
  refine enter (args := [_]) (fn := Tryz.f8) ⟨Tryz.func8, rfl, by kernel_rfl, by kernel_rfl⟩ 11 rfl ?_
  refine x_seq (x_region ?_)
  refine tl_e rfl (e_box rfl (fun b1 => ?_))
  refine tl_y rfl (y_assign rfl) ?_
  refine tl_nil (.then_normal ?_)
  refine x_seq (x_region ?_)
  refine tl_y rfl (y_fieldAddr rfl) ?_
  refine tl_y rfl (y_load rfl rfl (.own inferInstance inferInstance)) ?_
  refine tl_y rfl (y_leq rfl rfl) ?_
  refine tl_y rfl (y_move (v := .bool _) rfl) ?_
  refine tl_cases (s := 6) rfl (fun hk1 => ?_) (fun hk1 => ?_)
  ·
    refine tl_y rfl (y_fieldAddr rfl) ?_
    refine tl_y rfl (y_load rfl rfl (.own inferInstance inferInstance)) ?_
    refine tl_y rfl (y_leq rfl rfl) ?_
    refine tl_y rfl (y_pickT rfl rfl) ?_
    refine tl_y rfl (y_assign (v := .bool _) rfl) ?_
    refine tl_nil (.then_normal ?_)
    refine .sub (F' := [(2, _)]) (.cons rfl .nil) ?_
    refine x_ret (.dropTo L inferInstance (ret1 rfl rfl (Le.refl _) ⟨rfl, rfl, by congr 1; rw [decide_eq_decide]; exact ⟨fun h => ⟨hk1, h⟩, fun h => h.2⟩⟩))
  ·
    refine tl_skip rfl ?_
    refine tl_skip rfl ?_
    refine tl_skip rfl ?_
    refine tl_y rfl (y_pickF rfl rfl) ?_
    refine tl_y rfl (y_assign (v := .bool _) rfl) ?_
    refine tl_nil (.then_normal ?_)
    refine .sub (F' := [(2, _)]) (.cons rfl .nil) ?_
    refine x_ret (.dropTo L inferInstance (ret1 rfl rfl (Le.refl _) ⟨rfl, rfl, by rw [decide_eq_false (fun h => hk1 h.1)]⟩))
theorem Rotop_spec (o : OtsV) {n w p : Nat} (ho : OF o n w p) :
    Con Tryz.prog 33 #[.agg (List.toArray o.cells)] G M L (fun v M' L' => M = M' ∧ L = L' ∧ v = .int .i64 (topN o)) noPanic := by
  have hw2 := ho.w2
  have hw8 : w ≤ 8 := by rcases ho.isw with rfl | rfl | rfl | rfl <;> omega
  refine enter (args := [_]) (fn := Tryz.f33) ⟨Tryz.func33, rfl, by kernel_rfl, by kernel_rfl⟩ 15 rfl ?_
  refine x_seq (x_region ?_)
  refine tl_e rfl (e_box rfl (fun b1 => ?_))
  refine tl_y rfl (y_assign rfl) ?_
  refine tl_nil (.then_normal ?_)
  refine x_seq (x_region ?_)
  refine tl_y rfl (y_assign rfl) ?_
  refine tl_nil (.then_normal ?_)
  refine x_seq (x_seq (x_region ?_))
  refine tl_y rfl (y_assign rfl) ?_
  refine tl_nil (.then_normal ?_)
  refine x_block ?_
  refine x_loop (I := fun m' F D M1 L1 => ∃ k : Nat, m' = w - k ∧ k ≤ w ∧ D = [] ∧ M = M1 ∧ (b1, .cells (List.toArray o.cells) 31 (0, 0)) :: L = L1 ∧ F = [(1, .pointer (some ⟨b1, 0, none⟩)), (3, .int .i64 ((pw2 k : Nat) : Int)), (4, .int .i64 (k : Int))]) (w) (F0 := [(1, _), (3, _), (4, _)]) ?_ (.cons rfl (.cons rfl (.cons rfl .nil))) ?_  -- slots [1, 3, 4], written [3, 4]
  · exact ⟨0, rfl, by omega, rfl, rfl, rfl, rfl⟩
  rintro m _ _ _ _ ⟨k, rfl, hk, rfl, rfl, rfl, rfl⟩
  refine x_seq (x_seq (x_region ?_))
  refine tl_y rfl (y_move (v := .int _ _) rfl) ?_
  refine tl_y rfl (y_fieldAddr rfl) ?_
  refine tl_y rfl (y_load (v := .int .i64 (w : Int)) rfl rfl (by rw [← ho.hw]; exact .own inferInstance inferInstance)) ?_
  refine tl_y rfl (y_lss rfl rfl) ?_
  refine tl_nil (.then_normal ?_)
  refine x_cond rfl (fun hc1 => ?_) (fun hc1 => ?_)
  ·
    have hkw : k < w := by omega
    have hp := pw2_le (j := k) (k := w) (by omega)
    refine x_skip (.then_normal ?_)
    refine .sub (F' := [(1, _), (3, _), (4, _)]) (.cons rfl (.cons rfl (.cons rfl .nil))) ?_
    refine x_seq ?_
    refine x_block ?_
    refine x_region ?_
    refine tl_y rfl (y_move (v := .int _ _) rfl) ?_
    refine tl_y rfl (y_mulI rfl rfl (by omega)) ?_
    rw [pw2_succ]
    refine tl_y rfl (y_assign (v := .int _ _) rfl) ?_
    refine tl_nil (.block_normal (.then_normal ?_))
    refine x_region ?_
    refine tl_y rfl (y_move (v := .int _ _) rfl) ?_
    refine tl_y rfl (y_addI rfl rfl (by omega)) ?_
    refine tl_y rfl (y_assign (v := .int _ _) rfl) ?_
    refine tl_nil (.loop_next (m' := w - (k + 1)) (by omega) (F' := [(1, _), (3, _), (4, _)]) (.cons rfl (.cons rfl (.cons rfl .nil))) ?_)
    exact ⟨k + 1, rfl, by omega, rfl, rfl, rfl, rfl⟩
  ·
    obtain rfl : k = w := by omega
    refine x_exit (.then_exit (.loop_exit (.block_exit (.then_normal ?_))))
    refine .sub (F' := [(3, _)]) (.cons rfl .nil) ?_
    refine x_seq (x_region ?_)
    refine tl_y rfl (y_move (v := .int _ _) rfl) ?_
    refine tl_y rfl (y_subI rfl rfl (by omega)) ?_
    refine tl_y rfl (y_assign (v := .int _ _) rfl) ?_
    refine tl_nil (.then_normal ?_)
    refine x_ret (.dropTo L inferInstance (ret1 rfl rfl (Le.refl _) ⟨rfl, rfl, by rw [topN, ho.hw, Int.toNat_natCast]⟩))
theorem RoSecret_spec (o : OtsV) (hname : Bytes M NA nl nc name) (hsec : Bytes M SA sl sc sec) (q : UInt32) (d : Nat) (hd : d ≤ 65535) :
    Con Tryz.prog 15 #[.agg (List.toArray o.cells), .agg (List.toArray (seedC NA nl nc SA sl sc)), .int .u32 (q.toNat : Int), .int .u16 (d : Int)] G M L (fun v M' L' => L = L' ∧ ∃ A m c, v = .slice A m c ∧ Bytes M' A m c (if okY o nl sl then hidB o name sec q.toNat d else [])) noPanic := by
  have hn1 := hname.size
  have hn2 := hsec.size
  have hq := q.toNat_lt
  refine enter (args := [_, _, _, _]) (fn := Tryz.f15) ⟨Tryz.func15, rfl, by kernel_rfl, by kernel_rfl⟩ 33 rfl ?_
  refine x_seq (x_region ?_)
  refine tl_e rfl (e_box rfl (fun b1 => ?_))
  refine tl_e rfl (e_box rfl (fun b2 => ?_))
  refine tl_y rfl (y_assign rfl) ?_
  refine tl_nil (.then_normal ?_)
  refine x_seq (x_seq (x_region ?_))
  refine tl_y rfl (y_loadAgg rfl rfl (.own inferInstance inferInstance)) ?_
  refine tl_y rfl (y_loadAgg rfl rfl (.own inferInstance inferInstance)) ?_
  refine tl_e rfl (e_call' rfl (RoMay_spec o) ?_)
  rintro _ _ _ _ ⟨rfl, rfl, rfl⟩
  refine tl_y rfl (y_notd rfl) ?_
  refine tl_nil (.then_normal ?_)
  refine .sub (F' := [(2, _), (3, _), (4, _), (5, _), (13, _)]) (.cons rfl (.cons rfl (.cons rfl (.cons rfl (.cons rfl .nil))))) ?_
  refine x_cond rfl (fun hc1 => ?_) (fun hc1 => ?_)
  ·
    refine x_seq (x_region ?_)
    refine tl_y rfl (y_assign rfl) ?_
    refine tl_nil (.then_normal ?_)
    refine .sub (F' := [(8, _)]) (.cons rfl .nil) ?_
    refine x_ret (.then_ret (.dropTo L inferInstance (ret1 rfl rfl (Le.refl _) ⟨rfl, _, _, _, rfl, by rw [if_neg hc1]; exact Row.nil _ _⟩)))
  ·
    have hok : okY o nl sl := Classical.not_not.1 hc1
    obtain ⟨n, w, p, ho⟩ := okO_facts hok.1
    have hn32 := ho.n32
    have hn := ho.hn
    have hsl := hok.2.2
    have hnl := hok.2.1
    refine x_skip (.then_normal ?_)
    refine x_seq ?_
    have he : Le M M := Le.refl _
    refine x_draw 14 hmix rfl ?_
    refine to_p 0 rfl (by kernel_rfl) rfl (y_fieldAddr rfl) ?_
    refine to_y 1 rfl (by kernel_rfl) rfl (y_load rfl rfl (.own inferInstance inferInstance)) ?_
    refine to_p 2 rfl (by kernel_rfl) rfl (y_move (v := .int _ _) rfl) ?_
    refine to_p 3 rfl (by kernel_rfl) rfl (y_convN64 rfl (by omega)) ?_
    refine to_p 5 rfl (by kernel_rfl) rfl (y_move (v := .int _ _) rfl) ?_
    refine to_p 6 rfl (by kernel_rfl) rfl (y_convN64 rfl (by omega)) ?_
    refine to_p 9 rfl (by kernel_rfl) rfl (y_fieldAddr rfl) ?_
    refine to_y 10 rfl (by kernel_rfl) rfl (y_load rfl rfl (.own inferInstance inferInstance)) ?_
    refine to_two 4 8 (by kernel_rfl) ?_ ?_
    ·
      refine two_e 4 rfl rfl (e_call' rfl (RPutV_spec q.toNat 4 (by omega) (by omega)) ?_)
      rintro _ M2 _ hM2 ⟨rfl, A2, c2, rfl, hA2⟩
      replace he := he.trans hM2
      refine ⟨⟨(by first | exact Le.refl _ | assumption), Keeps.mem⟩, ?_⟩
      refine to_two 7 8 (by kernel_rfl) ?_ ?_
      ·
        refine two_e 7 rfl rfl (e_call' rfl (RPutV_spec d 2 (by omega) (by omega)) ?_)
        rintro _ M3 _ hM3 ⟨rfl, A3, c3, rfl, hA3⟩
        replace he := he.trans hM3
        refine ⟨⟨(by first | exact Le.refl _ | assumption), Keeps.mem⟩, ?_⟩
        refine to_e 8 rfl (by kernel_rfl) rfl (e_buildSlice rfl (by decide) (fun b7 => ?_))
        refine ⟨⟨he, Keeps.mem⟩, ?_⟩
        refine .pub b7 inferInstance (fun M4 hM4 hb7 => ?_)
        replace he := he.trans hM4
        refine to_e 11 rfl (by kernel_rfl) rfl (e_buildSlice rfl (by decide) (fun b8 => ?_))
        refine ⟨⟨he, Keeps.mem⟩, ?_⟩
        refine .pub b8 inferInstance (fun M5 hM5 hb8 => ?_)
        replace he := he.trans hM5
        have hA4 : Bytes M4 (some ⟨b7, 0, none⟩) 1 1 [255] := Row.whole hb7 rfl (by omega)
        have hA2' : Bytes M5 A2 4 c2 (putB q.toNat 4) := hA2.mono (by first | exact hM3.trans (hM4.trans hM5) | exact hM4.trans (hM3.trans hM5) | exact hM3.trans hM5)
        have hA3' : Bytes M5 A3 2 c3 (putB d 2) := hA3.mono (by first | exact hM4.trans hM5 | exact hM5 | exact hM2.trans (hM4.trans hM5) | exact hM2.trans hM5)
        have hA4' : Bytes M5 (some ⟨b7, 0, none⟩) 1 1 [255] := hA4.mono (by first | exact hM5 | exact hM3.trans hM5 | exact hM2.trans (hM3.trans hM5))
        have hfl : [name, putB q.toNat 4, putB d 2, [255], sec].flatten = name ++ (putB q.toNat 4 ++ (putB d 2 ++ (255 :: sec))) := by simp
        have hfll : (name ++ (putB q.toNat 4 ++ (putB d 2 ++ (255 :: sec)))).length = nl + 7 + sl := by rw [List.length_append, List.length_append, List.length_append, putB_length, putB_length, List.length_cons]; omega
        refine to_e 12 rfl (by kernel_rfl) rfl (e_call' rfl (RCat_own (Row.whole hb8 rfl (by omega)) (.cons (hname.mono he) (.cons hA2' (.cons hA3' (.cons hA4' (.cons (hsec.mono he) .nil))))) (by rw [hfl, hfll]; omega)) ?_)
        rintro _ _ _ _ ⟨rfl, A6, c6, E6, rfl, hE6, rfl⟩
        rw [hfl, hfll] at hE6
        rw [hfl, hfll]
        refine ⟨⟨he, Keeps.mem⟩, ?_⟩
        refine .pubRow hE6 (fun M6 hM6 hA6 => ?_)
        replace he := he.trans hM6
        refine to_p 13 rfl (by kernel_rfl) rfl (y_assign (v := .slice _ _ _) rfl) ?_
        refine to_nil (by kernel_rfl) (.then_normal ?_)
        refine .sub (F' := [(4, _), (9, _)]) (.cons rfl (.cons rfl .nil)) ?_
        refine x_seq (x_region ?_)
        refine tl_y rfl (y_fieldAddr rfl) ?_
        refine tl_y rfl (y_load rfl rfl (.own inferInstance inferInstance)) ?_
        refine tl_y rfl (y_fieldAddr rfl) ?_
        refine tl_y rfl (y_load rfl rfl (.own inferInstance inferInstance)) ?_
        refine tl_y rfl (y_move (v := .slice _ _ _) rfl) ?_
        refine tl_e rfl (e_call' rfl (RSum_spec o.kind o.n (Row.in_ hA6) (by omega)) ?_)
        rintro _ M7 _ hM7 ⟨rfl, A7, m7, c7, rfl, hA7⟩
        replace he := he.trans hM7
        refine tl_y rfl (y_assign (v := .slice _ _ _) rfl) ?_
        refine tl_nil (.then_normal ?_)
        refine .sub (F' := [(8, _)]) (.cons rfl .nil) ?_
        refine x_ret (.dropTo L inferInstance (ret1 rfl rfl he ⟨rfl, _, _, _, rfl, by rw [if_pos hok]; exact hA7⟩))
      ·
        refine two_e 8 rfl rfl (e_buildSlice rfl (by decide) (fun b7 => ?_))
        refine ⟨⟨he, Keeps.mem⟩, ?_⟩
        refine .pub b7 inferInstance (fun M4 hM4 hb7 => ?_)
        replace he := he.trans hM4
        refine to_e 7 rfl (by kernel_rfl) rfl (e_call' rfl (RPutV_spec d 2 (by omega) (by omega)) ?_)
        rintro _ M3 _ hM3 ⟨rfl, A3, c3, rfl, hA3⟩
        replace he := he.trans hM3
        refine ⟨⟨(by first | exact Le.refl _ | assumption), Keeps.mem⟩, ?_⟩
        refine to_e 11 rfl (by kernel_rfl) rfl (e_buildSlice rfl (by decide) (fun b8 => ?_))
        refine ⟨⟨he, Keeps.mem⟩, ?_⟩
        refine .pub b8 inferInstance (fun M5 hM5 hb8 => ?_)
        replace he := he.trans hM5
        have hA4 : Bytes M4 (some ⟨b7, 0, none⟩) 1 1 [255] := Row.whole hb7 rfl (by omega)
        have hA2' : Bytes M5 A2 4 c2 (putB q.toNat 4) := hA2.mono (by first | exact hM3.trans (hM4.trans hM5) | exact hM4.trans (hM3.trans hM5) | exact hM3.trans hM5)
        have hA3' : Bytes M5 A3 2 c3 (putB d 2) := hA3.mono (by first | exact hM4.trans hM5 | exact hM5 | exact hM2.trans (hM4.trans hM5) | exact hM2.trans hM5)
        have hA4' : Bytes M5 (some ⟨b7, 0, none⟩) 1 1 [255] := hA4.mono (by first | exact hM5 | exact hM3.trans hM5 | exact hM2.trans (hM3.trans hM5))
        have hfl : [name, putB q.toNat 4, putB d 2, [255], sec].flatten = name ++ (putB q.toNat 4 ++ (putB d 2 ++ (255 :: sec))) := by simp
        have hfll : (name ++ (putB q.toNat 4 ++ (putB d 2 ++ (255 :: sec)))).length = nl + 7 + sl := by rw [List.length_append, List.length_append, List.length_append, putB_length, putB_length, List.length_cons]; omega
        refine to_e 12 rfl (by kernel_rfl) rfl (e_call' rfl (RCat_own (Row.whole hb8 rfl (by omega)) (.cons (hname.mono he) (.cons hA2' (.cons hA3' (.cons hA4' (.cons (hsec.mono he) .nil))))) (by rw [hfl, hfll]; omega)) ?_)
        rintro _ _ _ _ ⟨rfl, A6, c6, E6, rfl, hE6, rfl⟩
        rw [hfl, hfll] at hE6
        rw [hfl, hfll]
        refine ⟨⟨he, Keeps.mem⟩, ?_⟩
        refine .pubRow hE6 (fun M6 hM6 hA6 => ?_)
        replace he := he.trans hM6
        refine to_p 13 rfl (by kernel_rfl) rfl (y_assign (v := .slice _ _ _) rfl) ?_
        refine to_nil (by kernel_rfl) (.then_normal ?_)
        refine .sub (F' := [(4, _), (9, _)]) (.cons rfl (.cons rfl .nil)) ?_
        refine x_seq (x_region ?_)
        refine tl_y rfl (y_fieldAddr rfl) ?_
        refine tl_y rfl (y_load rfl rfl (.own inferInstance inferInstance)) ?_
        refine tl_y rfl (y_fieldAddr rfl) ?_
        refine tl_y rfl (y_load rfl rfl (.own inferInstance inferInstance)) ?_
        refine tl_y rfl (y_move (v := .slice _ _ _) rfl) ?_
        refine tl_e rfl (e_call' rfl (RSum_spec o.kind o.n (Row.in_ hA6) (by omega)) ?_)
        rintro _ M7 _ hM7 ⟨rfl, A7, m7, c7, rfl, hA7⟩
        replace he := he.trans hM7
        refine tl_y rfl (y_assign (v := .slice _ _ _) rfl) ?_
        refine tl_nil (.then_normal ?_)
        refine .sub (F' := [(8, _)]) (.cons rfl .nil) ?_
        refine x_ret (.dropTo L inferInstance (ret1 rfl rfl he ⟨rfl, _, _, _, rfl, by rw [if_pos hok]; exact hA7⟩))
    ·
      refine two_e 8 rfl rfl (e_buildSlice rfl (by decide) (fun b7 => ?_))
      refine ⟨⟨he, Keeps.mem⟩, ?_⟩
      refine .pub b7 inferInstance (fun M4 hM4 hb7 => ?_)
      replace he := he.trans hM4
      refine to_e 4 rfl (by kernel_rfl) rfl (e_call' rfl (RPutV_spec q.toNat 4 (by omega) (by omega)) ?_)
      rintro _ M2 _ hM2 ⟨rfl, A2, c2, rfl, hA2⟩
      replace he := he.trans hM2
      refine ⟨⟨(by first | exact Le.refl _ | assumption), Keeps.mem⟩, ?_⟩
      refine to_e 7 rfl (by kernel_rfl) rfl (e_call' rfl (RPutV_spec d 2 (by omega) (by omega)) ?_)
      rintro _ M3 _ hM3 ⟨rfl, A3, c3, rfl, hA3⟩
      replace he := he.trans hM3
      refine ⟨⟨(by first | exact Le.refl _ | assumption), Keeps.mem⟩, ?_⟩
      refine to_e 11 rfl (by kernel_rfl) rfl (e_buildSlice rfl (by decide) (fun b8 => ?_))
      refine ⟨⟨he, Keeps.mem⟩, ?_⟩
      refine .pub b8 inferInstance (fun M5 hM5 hb8 => ?_)
      replace he := he.trans hM5
      have hA4 : Bytes M4 (some ⟨b7, 0, none⟩) 1 1 [255] := Row.whole hb7 rfl (by omega)
      have hA2' : Bytes M5 A2 4 c2 (putB q.toNat 4) := hA2.mono (by first | exact hM3.trans (hM4.trans hM5) | exact hM4.trans (hM3.trans hM5) | exact hM3.trans hM5)
      have hA3' : Bytes M5 A3 2 c3 (putB d 2) := hA3.mono (by first | exact hM4.trans hM5 | exact hM5 | exact hM2.trans (hM4.trans hM5) | exact hM2.trans hM5)
      have hA4' : Bytes M5 (some ⟨b7, 0, none⟩) 1 1 [255] := hA4.mono (by first | exact hM5 | exact hM3.trans hM5 | exact hM2.trans (hM3.trans hM5))
      have hfl : [name, putB q.toNat 4, putB d 2, [255], sec].flatten = name ++ (putB q.toNat 4 ++ (putB d 2 ++ (255 :: sec))) := by simp
      have hfll : (name ++ (putB q.toNat 4 ++ (putB d 2 ++ (255 :: sec)))).length = nl + 7 + sl := by rw [List.length_append, List.length_append, List.length_append, putB_length, putB_length, List.length_cons]; omega
      refine to_e 12 rfl (by kernel_rfl) rfl (e_call' rfl (RCat_own (Row.whole hb8 rfl (by omega)) (.cons (hname.mono he) (.cons hA2' (.cons hA3' (.cons hA4' (.cons (hsec.mono he) .nil))))) (by rw [hfl, hfll]; omega)) ?_)
      rintro _ _ _ _ ⟨rfl, A6, c6, E6, rfl, hE6, rfl⟩
      rw [hfl, hfll] at hE6
      rw [hfl, hfll]
      refine ⟨⟨he, Keeps.mem⟩, ?_⟩
      refine .pubRow hE6 (fun M6 hM6 hA6 => ?_)
      replace he := he.trans hM6
      refine to_p 13 rfl (by kernel_rfl) rfl (y_assign (v := .slice _ _ _) rfl) ?_
      refine to_nil (by kernel_rfl) (.then_normal ?_)
      refine .sub (F' := [(4, _), (9, _)]) (.cons rfl (.cons rfl .nil)) ?_
      refine x_seq (x_region ?_)
      refine tl_y rfl (y_fieldAddr rfl) ?_
      refine tl_y rfl (y_load rfl rfl (.own inferInstance inferInstance)) ?_
      refine tl_y rfl (y_fieldAddr rfl) ?_
      refine tl_y rfl (y_load rfl rfl (.own inferInstance inferInstance)) ?_
      refine tl_y rfl (y_move (v := .slice _ _ _) rfl) ?_
      refine tl_e rfl (e_call' rfl (RSum_spec o.kind o.n (Row.in_ hA6) (by omega)) ?_)
      rintro _ M7 _ hM7 ⟨rfl, A7, m7, c7, rfl, hA7⟩
      replace he := he.trans hM7
      refine tl_y rfl (y_assign (v := .slice _ _ _) rfl) ?_
      refine tl_nil (.then_normal ?_)
      refine .sub (F' := [(8, _)]) (.cons rfl .nil) ?_
      refine x_ret (.dropTo L inferInstance (ret1 rfl rfl he ⟨rfl, _, _, _, rfl, by rw [if_pos hok]; exact hA7⟩))
theorem RoKey_spec (o : OtsV) (hname : Bytes M NA nl nc name) (hsec : Bytes M SA sl sc sec) (q : UInt32) :
    Con Tryz.prog 17 #[.agg (List.toArray o.cells), .agg (List.toArray (seedC NA nl nc SA sl sc)), .int .u32 (q.toNat : Int)] G M L (fun v M' L' => L = L' ∧ ∃ A m c, v = .slice A m c ∧ Bytes M' A m c (if okY o nl sl then keyB o name sec q.toNat else [])) noPanic := by
  refine enter (args := [_, _, _]) (fn := Tryz.f17) ⟨Tryz.func17, rfl, by kernel_rfl, by kernel_rfl⟩ 44 rfl ?_
  refine x_seq (x_region ?_)
  refine tl_e rfl (e_box rfl (fun b1 => ?_))
  refine tl_e rfl (e_box rfl (fun b2 => ?_))
  refine tl_y rfl (y_assign rfl) ?_
  refine tl_nil (.then_normal ?_)
  refine x_seq (x_seq (x_region ?_))
  refine tl_y rfl (y_loadAgg rfl rfl (.own inferInstance inferInstance)) ?_
  refine tl_y rfl (y_loadAgg rfl rfl (.own inferInstance inferInstance)) ?_
  refine tl_e rfl (e_call' rfl (RoMay_spec o) ?_)
  rintro _ _ _ _ ⟨rfl, rfl, rfl⟩
  refine tl_y rfl (y_notd rfl) ?_
  refine tl_nil (.then_normal ?_)
  refine .sub (F' := [(2, _), (3, _), (4, _), (12, _)]) (.cons rfl (.cons rfl (.cons rfl (.cons rfl .nil)))) ?_
  refine x_cond rfl (fun hc1 => ?_) (fun hc1 => ?_)
  ·
    refine x_seq (x_region ?_)
    refine tl_y rfl (y_assign rfl) ?_
    refine tl_nil (.then_normal ?_)
    refine .sub (F' := [(6, _)]) (.cons rfl .nil) ?_
    refine x_ret (.then_ret (.dropTo L inferInstance (ret1 rfl rfl (Le.refl _) ⟨rfl, _, _, _, rfl, by rw [if_neg hc1]; exact Row.nil _ _⟩)))
  ·
    have hok : okY o nl sl := Classical.not_not.1 hc1
    obtain ⟨n, w, p, ho⟩ := okO_facts hok.1
    have hn32 := ho.n32
    have hn := ho.hn
    have hsl := hok.2.2
    have hnl := hok.2.1
    have hp2 := ho.p2
    refine x_skip (.then_normal ?_)
    refine x_seq (x_region ?_)
    refine tl_y rfl (y_assign rfl) ?_
    refine tl_nil (.then_normal ?_)
    refine x_seq (x_seq (x_region ?_))
    refine tl_y rfl (y_assign rfl) ?_
    refine tl_nil (.then_normal ?_)
    refine x_block ?_
    refine x_loop (I := fun m' F D M1 L1 => ∃ (i : Nat) (A : Option Addr) (m c : Nat) (E : Own), m' = p - i ∧ i ≤ p ∧ Le M M1 ∧ m = (catR (keyR o name sec q.toNat) i).length ∧ OwnRow 5 1 A m c ((catR (keyR o name sec q.toNat) i).map bv) E ∧ D = [] ∧ L1 = E ++ ((b2, .cells (List.toArray (seedC NA nl nc SA sl sc)) 41 (0, 0)) :: (b1, .cells (List.toArray o.cells) 31 (0, 0)) :: L) ∧ F = [(2, .int .u32 (q.toNat : Int)), (3, .pointer (some ⟨b1, 0, none⟩)), (4, .pointer (some ⟨b2, 0, none⟩)), (7, .slice A m c), (8, .int .i64 (i : Int))]) (p) (F0 := [(2, _), (3, _), (4, _), (7, _), (8, _)]) ?_ (.cons rfl (.cons rfl (.cons rfl (.cons rfl (.cons rfl .nil))))) ?_  -- slots [2, 3, 4, 7, 8], written [7, 8]
    · exact ⟨0, none, 0, 0, [], rfl, by omega, Le.refl _, rfl, .nil, rfl, rfl, rfl⟩
    rintro m _ _ M1 _ ⟨i, A, m, c, E, rfl, hi, hM1, hm, hE, rfl, rfl, rfl⟩
    have hle := catR_le (keyR_le o name sec q.toNat) i
    have hli := keyR_le o name sec q.toNat i
    refine x_seq (x_seq (x_region ?_))
    refine tl_y rfl (y_move (v := .int _ _) rfl) ?_
    refine tl_y rfl (y_fieldAddr rfl) ?_
    refine tl_y rfl (y_load (v := .int .i64 (p : Int)) rfl rfl (by rw [← ho.hp]; exact .own inferInstance inferInstance)) ?_
    refine tl_y rfl (y_lss rfl rfl) ?_
    refine tl_nil (.then_normal ?_)
    refine x_cond rfl (fun hc2 => ?_) (fun hc2 => ?_)
    ·
      refine x_skip (.then_normal ?_)
      refine .sub (F' := [(2, _), (3, _), (4, _), (7, _), (8, _)]) (.cons rfl (.cons rfl (.cons rfl (.cons rfl (.cons rfl .nil))))) ?_
      refine x_seq ?_
      refine x_block ?_
      have he : Le M1 M1 := Le.refl _
      have hip : i < p := by omega
      refine x_draw0 17 ([(b2, .cells (List.toArray (seedC NA nl nc SA sl sc)) 41 (0, 0)), (b1, .cells (List.toArray o.cells) 31 (0, 0))]) Keeps.mem hmix rfl ?_
      refine to_p 0 rfl (by kernel_rfl) rfl (y_move (v := .slice _ _ _) rfl) ?_
      refine to_y 1 rfl (by kernel_rfl) rfl (y_loadAgg rfl rfl (.own inferInstance inferInstance)) ?_
      refine to_p 2 rfl (by kernel_rfl) rfl (y_fieldAddr rfl) ?_
      refine to_y 3 rfl (by kernel_rfl) rfl (y_load rfl rfl (.own inferInstance inferInstance)) ?_
      refine to_p 4 rfl (by kernel_rfl) rfl (y_move (v := .int _ _) rfl) ?_
      refine to_p 5 rfl (by kernel_rfl) rfl (y_move (v := .int _ _) rfl) ?_
      refine to_y 6 rfl (by kernel_rfl) rfl (y_loadAgg rfl rfl (.own inferInstance inferInstance)) ?_
      refine to_y 8 rfl (by kernel_rfl) rfl (y_loadAgg rfl rfl (.own inferInstance inferInstance)) ?_
      refine to_y 9 rfl (by kernel_rfl) rfl (y_loadAgg rfl rfl (.own inferInstance inferInstance)) ?_
      refine to_p 10 rfl (by kernel_rfl) rfl (y_move (v := .int _ _) rfl) ?_
      refine to_p 11 rfl (by kernel_rfl) rfl (y_move (v := .int _ _) rfl) ?_
      refine to_p 12 rfl (by kernel_rfl) rfl (y_convE (b := (i : Int)) rfl (by rw [wrapU16]; omega)) ?_
      refine to_e 7 rfl (by kernel_rfl) rfl (e_call' rfl (Rotop_spec o ho) ?_)
      rintro _ _ _ _ ⟨rfl, rfl, rfl⟩
      refine ⟨⟨(by first | exact Le.refl _ | assumption), Keeps.mem⟩, ?_⟩
      refine to_e 13 rfl (by kernel_rfl) rfl (e_call' rfl (RoSecret_spec o (hname.mono hM1) (hsec.mono hM1) q i (by omega)) ?_)
      rintro _ M2 _ hM2 ⟨rfl, A2, m2, c2, rfl, hA2⟩
      rw [if_pos hok] at hA2
      replace he := he.trans hM2
      refine ⟨⟨(by first | exact Le.refl _ | assumption), Keeps.mem⟩, ?_⟩
      refine to_e 14 rfl (by kernel_rfl) rfl (e_call' rfl (RUp_spec9 sha_length o (hname.mono (hM1.trans he)) hA2 q i 0 (topN o)) ?_)
      rintro _ M3 _ hM3 ⟨rfl, A3, m3, c3, rfl, hA3⟩
      replace he := he.trans hM3
      have hm3 : (keyR o name sec q.toNat i).length = m3 := hA3.size
      refine ⟨⟨(by first | exact Le.refl _ | assumption), Keeps.mem⟩, ?_⟩
      refine to_e 15 rfl (by kernel_rfl) rfl (e_append (by decide) rfl rfl hE (.row hA3) (all_one_bv _) (by omega) (by omega) (fun A7 c7 E7 hE7 => ?_))
      rw [← List.map_append, show catR (keyR o name sec q.toNat) i ++ cUp o name q.toNat (i : Int) 0 (topN o) (hidB o name sec q.toNat i) = catR (keyR o name sec q.toNat) (i + 1) from (catR_succ _ _).symm] at hE7
      refine ⟨⟨(by first | exact Le.refl _ | assumption), Keeps.mem⟩, ?_⟩
      refine to_p 16 rfl (by kernel_rfl) rfl (y_assign (v := .slice _ _ _) rfl) ?_
      refine to_nil (by kernel_rfl) (.block_normal (.then_normal ?_))
      refine .sub (F' := [(2, _), (3, _), (4, _), (7, _), (8, _)]) (.cons rfl (.cons rfl (.cons rfl (.cons rfl (.cons rfl .nil))))) ?_
      refine x_region ?_
      refine tl_y rfl (y_move (v := .int _ _) rfl) ?_
      refine tl_y rfl (y_addI rfl rfl (by omega)) ?_
      refine tl_y rfl (y_assign (v := .int _ _) rfl) ?_
      refine tl_nil (.loop_next (m' := p - (i + 1)) (by omega) (F' := [(2, _), (3, _), (4, _), (7, _), (8, _)]) (.cons rfl (.cons rfl (.cons rfl (.cons rfl (.cons rfl .nil))))) ?_)
      exact ⟨i + 1, A7, m + m3, c7, E7, rfl, by omega, hM1.trans he, by rw [catR_succ, List.length_append]; omega, hE7, rfl, rfl, rfl⟩
    ·
      obtain rfl : i = p := by omega
      refine .pubRow hE (fun M4 hM4 hrow => ?_)
      have hd := hM1.trans hM4
      refine x_exit (.then_exit (.loop_exit (.block_exit (.then_normal ?_))))
      refine .sub (F' := [(2, _), (3, _), (4, _), (7, _)]) (.cons rfl (.cons rfl (.cons rfl (.cons rfl .nil)))) ?_
      refine x_seq (x_region ?_)
      refine tl_y rfl (y_fieldAddr rfl) ?_
      refine tl_y rfl (y_load rfl rfl (.own inferInstance inferInstance)) ?_
      refine tl_y rfl (y_fieldAddr rfl) ?_
      refine tl_y rfl (y_load rfl rfl (.own inferInstance inferInstance)) ?_
      refine tl_y rfl (y_fieldAddr rfl) ?_
      refine tl_y rfl (y_load rfl rfl (.own inferInstance inferInstance)) ?_
      refine tl_y rfl (y_move (v := .int _ _) rfl) ?_
      refine tl_y rfl (y_move (v := .slice _ _ _) rfl) ?_
      refine tl_e rfl (e_call' rfl (RPart_spec o.kind o.n (hname.mono hd) q 32896 (by omega) hrow (by omega)) ?_)
      rintro _ M5 _ hM5 ⟨rfl, A5, m5, c5, rfl, hA5⟩
      refine tl_y rfl (y_assign (v := .slice _ _ _) rfl) ?_
      refine tl_nil (.then_normal ?_)
      refine .sub (F' := [(6, _)]) (.cons rfl .nil) ?_
      refine x_ret (.dropTo L inferInstance (ret1 rfl rfl (hd.trans hM5) ⟨rfl, _, _, _, rfl, by rw [if_pos hok, keyB, ho.hp, Int.toNat_natCast]; exact hA5⟩))
end
end Go.Proofs.YtbjnjedfoiedeaaGreatDoor
set_option linter.unusedVariables false
set_option linter.unusedSimpArgs false
namespace Go.Proofs.YtbjnjedfoiedeaaGreatDoor
open Go Go.Eng
/-! ### A signature stands for the key -/
theorem upC_add10 (o : OtsV) (name : List UInt8) (q i f : Nat) (x : List UInt8) (a b : Nat) : upC o name q i f x (a + b) = upC o name q i (f + a) (upC o name q i f x a) b := by
  induction b with
  | zero => rfl
  | succ b ih => rw [← Nat.add_assoc, upC, upC, ih, Nat.add_assoc]
theorem okR_of {o : OtsV} {n w p : Nat} (ho : OF o n w p) {nl i xl : Nat} (hn : nl = 16) (hi : i < p) (hx : xl = n) : okR o nl (i : Int) xl := by
  refine ⟨ho.ok.1, ho.ok.2, hn, by omega, ?_, ?_⟩
  · rw [ho.hp]; omega
  · rw [ho.hn, hx]
theorem cUp_of {o : OtsV} {n w p : Nat} (ho : OF o n w p) {name : List UInt8} (hn : name.length = 16) (q : Nat) {i f t : Nat} (hi : i < p) (hft : f ≤ t) (ht : t < pw2 w) {x : List UInt8} (hx : x.length = n) :
    cUp o name q (i : Int) (f : Int) (t : Int) x = upC o name q i f x (t - f) ∧ (upC o name q i f x (t - f)).length = n := by
  refine ⟨?_, ?_⟩
  · rw [cUp, if_pos ⟨okR_of ho hn hi hx, by omega, by omega, by rw [ho.hw, Int.toNat_natCast]; omega⟩]
    rw [Int.toNat_natCast, Int.toNat_natCast, show ((t : Int) - (f : Int)).toNat = t - f by omega]
  · have := upC_length ho.c sha_length name q i f (x := x) (by rw [hx, ho.hn]) (t - f)
    rw [ho.hn] at this
    omega
theorem topN_of {o : OtsV} {n w p : Nat} (ho : OF o n w p) : topN o = ((pw2 w - 1 : Nat) : Int) := by
  have := ho.w2
  rw [topN, ho.hw, Int.toNat_natCast]; omega
/-- A chain that is gone up in two goes. -/
theorem chain_two {o : OtsV} {n w p : Nat} (ho : OF o n w p) {name : List UInt8} (hn : name.length = 16) (q : Nat) {i d : Nat} (hi : i < p) (hd : d < pw2 w) {x : List UInt8} (hx : x.length = n) :
    cUp o name q (i : Int) (d : Int) (topN o) (cUp o name q (i : Int) 0 (d : Int) x) = cUp o name q (i : Int) 0 (topN o) x := by
  have hw := ho.w2
  obtain ⟨h1, h2⟩ := cUp_of ho hn q (f := 0) (t := d) hi (by omega) hd hx
  obtain ⟨h3, _⟩ := cUp_of ho hn q (f := 0) (t := pw2 w - 1) hi (by omega) (by omega) hx
  rw [topN_of ho]
  have e0 : ((0 : Nat) : Int) = 0 := rfl
  rw [e0] at h1 h3
  rw [h1, h3, Nat.sub_zero, Nat.sub_zero] at *
  obtain ⟨h5, _⟩ := cUp_of ho hn q (f := d) (t := pw2 w - 1) hi (by omega) (by omega) h2
  rw [h5, ← Nat.zero_add d, Nat.zero_add d]
  have := upC_add10 o name q i 0 x d (pw2 w - 1 - d)
  rw [Nat.zero_add, show d + (pw2 w - 1 - d) = pw2 w - 1 by omega] at this
  exact this.symm
theorem sigR_len {o : OtsV} {n w p : Nat} (ho : OF o n w p) {name : List UInt8} (hn : name.length = 16) (sec : List UInt8) (q : Nat) {ds : List Nat} (hd : ∀ d ∈ ds, d < pw2 w) (hdl : ds.length = p) {i : Nat} (hi : i < p) : (sigR o name sec q ds i).length = n := by
  have hdi : ds.getD i 0 < pw2 w := hd _ (by rw [List.getD_eq_getElem?_getD, List.getElem?_eq_getElem (by omega)]; exact List.getElem_mem _)
  obtain ⟨h1, h2⟩ := cUp_of ho hn q (f := 0) (t := ds.getD i 0) hi (by omega) hdi (hidB_len ho name sec q i)
  rw [sigR]
  have e0 : ((0 : Nat) : Int) = 0 := rfl
  rw [e0] at h1
  rw [h1]; exact h2
theorem drop_at {a b : List UInt8} {k : Nat} (h : a.length = k) : (a ++ b).drop k = b := by subst h; exact List.drop_left
theorem take_at {a b : List UInt8} {k : Nat} (h : a.length = k) : (a ++ b).take k = a := by subst h; exact List.take_left
theorem sig_parts {o : OtsV} {n w p : Nat} (ho : OF o n w p) {name : List UInt8} (hn : name.length = 16) (sec : List UInt8) (q : Nat) (text : List UInt8) :
    (sigB o name sec q text).length = sizeN o ∧ ofV (sigB o name sec q text) = (o, 0) ∧ ((sigB o name sec q text).drop 4).take n = saltB o name sec q ∧
      (sigB o name sec q text).drop (4 + n) = catR (sigR o name sec q (digO o name q (saltB o name sec q) text)) p := by
  obtain ⟨hdl, hdd⟩ := digO_get ho name q (saltB o name sec q) text
  have hsl : (saltB o name sec q).length = n := hidB_len ho name sec q 65533
  have hcl := o.code.toNat_lt
  have hp4 : (putB o.code.toNat 4).length = 4 := putB_length 4 _
  have hrl := catR_len (rows := sigR o name sec q (digO o name q (saltB o name sec q) text)) (n := n) p (fun i hi => sigR_len ho hn sec q hdd hdl hi)
  obtain ⟨hz1, hz2, hz3⟩ := ho.size
  have hl : (sigB o name sec q text).length = sizeN o := by
    rw [sigB, List.length_append, List.length_append, hp4, hsl, ho.hp, Int.toNat_natCast, hrl, hz1, hz2, Nat.mul_comm p n]; omega
  have hc : sigC (sigB o name sec q text) = o.code := by
    rw [sigC, sigB, List.take_append_of_le_length (by omega), List.take_of_length_le (by omega), getB_put]
    apply UInt32.toNat_inj.1
    rw [UInt32.toNat_ofNat', Nat.mod_eq_of_lt, Nat.mod_eq_of_lt]
    · omega
    · exact Nat.lt_of_le_of_lt (Nat.mod_le _ _) hcl
  refine ⟨hl, ?_, ?_, ?_⟩
  · rw [ofV, hc, if_neg (by rw [hl, hz1]; omega), if_neg (fun h => h ho.ok.1), ho.ok.2, if_neg (by rw [hl]; simp)]
  · rw [sigB, drop_at hp4, take_at hsl]
  · rw [sigB, ← List.append_assoc, ho.hp, Int.toNat_natCast]
    exact drop_at (by rw [List.length_append, hp4, hsl])
theorem sig_stands {o : OtsV} {n w p : Nat} (ho : OF o n w p) {name : List UInt8} (hn : name.length = 16) (sec : List UInt8) (q : Nat) (text : List UInt8) : staB o name q text (sigB o name sec q text) = keyB o name sec q := by
  obtain ⟨h1, h2, h3, h4⟩ := sig_parts ho hn sec q text
  obtain ⟨hdl, hdd⟩ := digO_get ho name q (saltB o name sec q) text
  rw [staB, keyB, ho.hp, Int.toNat_natCast, show o.n.toNat = n by rw [ho.hn]; rfl, h3, h4]
  congr 1
  refine catR_congr p (fun i hi => ?_)
  have hdi : (digO o name q (saltB o name sec q) text).getD i 0 < pw2 w := hdd _ (by rw [List.getD_eq_getElem?_getD, List.getElem?_eq_getElem (by omega)]; exact List.getElem_mem _)
  rw [staR, show o.n.toNat = n by rw [ho.hn]; rfl, catR_row (fun j hj => sigR_len ho hn sec q hdd hdl hj) hi, sigR, keyR]
  exact chain_two ho hn q hi hdi (hidB_len ho name sec q i)
theorem keyB_len {o : OtsV} {n w p : Nat} (ho : OF o n w p) {name : List UInt8} (hn : name.length = 16) (sec : List UInt8) (q : Nat) : (keyB o name sec q).length = n := cPartO_len ho hn _ _ _
theorem sta_sig {o : OtsV} {n w p : Nat} (ho : OF o n w p) {name : List UInt8} (hn : name.length = 16) (sec : List UInt8) (q : Nat) (text : List UInt8) {nl tl : Nat} (h16 : nl = 16) (htl : tl ≤ 65536) :
    staE nl tl (sigB o name sec q text) = 0 ∧ staV nl tl name q text (sigB o name sec q text) = keyB o name sec q := by
  obtain ⟨_, h2, _, _⟩ := sig_parts ho hn sec q text
  have hE : staE nl tl (sigB o name sec q text) = 0 := by rw [staE, if_neg (by omega), h2]
  exact ⟨hE, by rw [staV, if_pos hE, h2]; exact sig_stands ho hn sec q text⟩
end Go.Proofs.YtbjnjedfoiedeaaGreatDoor
set_option linter.unusedVariables false
set_option linter.unusedSimpArgs false
set_option linter.constructorNameAsVariable false
namespace Go.Proofs.YtbjnjedfoiedeaaGreatDoor
open Go Go.Eng
section
variable {G : World} {M : Mem} {L : Own}
theorem upC_add (o : OtsV) (name : List UInt8) (q i f : Nat) (x : List UInt8) (a b : Nat) : upC o name q i f x (a + b) = upC o name q i (f + a) (upC o name q i f x a) b := by
  induction b with
  | zero => rfl
  | succ b ih => rw [← Nat.add_assoc, upC, ih, upC, Nat.add_assoc]
theorem otsV_ok (c : UInt8) : ∃ o : OtsV, otsV (UInt32.ofNat (1 + c.toNat % 16)) = o ∧ otsE (UInt32.ofNat (1 + c.toNat % 16)) = 0 ∧ otsE o.code = 0 ∧ otsV o.code = o ∧ okC o.kind o.n ∧ 26 ≤ o.p ∧ o.p ≤ 265 ∧ ∃ w, isW w ∧ o.w = ((w : Nat) : Int) := by
  have hlt : c.toNat % 16 < 16 := Nat.mod_lt _ (by omega)
  have h1 : ∀ k : Fin 16, otsE (UInt32.ofNat (1 + k.val)) = 0 ∧ otsV (UInt32.ofNat (1 + k.val)) = otsT k.val ∧ otsE (otsT k.val).code = 0 ∧ otsV (otsT k.val).code = otsT k.val := by decide +kernel
  obtain ⟨a1, a2, a3, a4⟩ := h1 ⟨_, hlt⟩
  obtain ⟨b1, b2, b3, b4⟩ := otsT_facts hlt
  exact ⟨_, a2, a1, a3, a4, b1, b2, b3, b4⟩
end
end Go.Proofs.YtbjnjedfoiedeaaGreatDoor
set_option linter.unusedVariables false
set_option linter.unusedSimpArgs false
set_option linter.constructorNameAsVariable false
namespace Go.Proofs.YtbjnjedfoiedeaaGreatDoor
open Go Go.Eng
theorem f10 : ∃ o : OtsV, otsV 7 = o ∧ OF o 24 4 51 := by
  obtain ⟨o, eo, ee, on, ok_, ow, op, oe, ov⟩ := f9
  obtain ⟨n, w, p, ho⟩ := okO_facts (o := o) ⟨oe, ov⟩
  have h1 := ho.hn
  have h2 := ho.hw
  have h3 := ho.hp
  obtain rfl : n = 24 := by omega
  obtain rfl : w = 4 := by omega
  obtain rfl : p = 51 := by omega
  exact ⟨o, eo, ho⟩
theorem sta99 (nl tl : Nat) (h16 : nl = 16) (htl : tl ≤ 65536) : staE nl tl [0, 0, 0, 99] = 4 := by
  rw [staE, if_neg (by omega)]
  have h : (ofV [0, 0, 0, 99]).2 = 4 := by decide +kernel
  exact h
section
variable {G : World} {M : Mem} {L : Own}
theorem awake10_spec (hg : ChG M) : Con Tryz.prog 5 #[] G M L (fun v M' L' => L = L' ∧ v = .bool true) noPanic := by
  obtain ⟨o, eo, ho⟩ := f10
  have hz := ho.size.1
  have hy : okY o 16 24 := ⟨ho.ok, rfl, by rw [ho.hn]⟩
  have hl16 : (List.replicate 16 (0 : UInt8)).length = 16 := by simp
  refine enter (args := []) (fn := Tryz.f5) ⟨Tryz.func5, rfl, by kernel_rfl, by kernel_rfl⟩ 74 rfl ?_
  refine x_seq (x_region ?_)
  refine tl_y rfl (y_assign rfl) ?_
  refine tl_nil (.then_normal ?_)
  refine x_seq (x_region ?_)
  refine tl_e rfl (e_call' rfl (ROts_spec 7) ?_)
  rintro _ _ _ _ ⟨rfl, rfl, rfl⟩
  rw [eo]
  refine tl_y rfl (y_move (v := .tuple _) rfl) ?_
  refine tl_y rfl (y_extract rfl) ?_
  refine tl_y rfl (y_extract rfl) ?_
  refine tl_e rfl (e_alloc (fun b1 => ?_))
  refine tl_e rfl (e_store rfl rfl (by rfl) (by rfl) inferInstance inferInstance inferInstance ?_)
  refine tl_y rfl (y_assign (v := .int _ _) rfl) ?_
  refine tl_nil (.then_normal ?_)
  refine .sub (F' := [(1, _)]) (.cons rfl .nil) ?_
  refine x_seq ?_
  refine x_meet (I := fun F D M2 L2 => ∃ (bn bs b : Nat), F = [(1, .pointer (some ⟨b1, 0, none⟩)), (3, .pointer (some ⟨b, 0, none⟩))] ∧ D = [] ∧ Le M M2 ∧ Bytes M2 (some ⟨bn, 0, none⟩) 16 16 (List.replicate 16 0) ∧ Bytes M2 (some ⟨bs, 0, none⟩) 24 24 (List.replicate 24 0) ∧ DropTo L2 ((b, .cells (List.toArray (seedC (some ⟨bn, 0, none⟩) 16 16 (some ⟨bs, 0, none⟩) 24 24)) 41 (0, 0)) :: (b1, .cells (List.toArray o.cells) 31 (0, 0)) :: L)) ?_ (fun Jd2 => ?_)
  ·
    rintro _ _ M2 L2 ⟨bn, bs, b, rfl, rfl, hM2, hn2, hs2, hdr⟩  -- slots [1, 3]
    refine .dropTo _ hdr ?_
    refine x_seq (x_region ?_)
    refine tl_y rfl (y_loadAgg rfl rfl (.own inferInstance inferInstance)) ?_
    refine tl_y rfl (y_loadAgg rfl rfl (.own inferInstance inferInstance)) ?_
    refine tl_e rfl (e_buildSlice rfl (by decide) (fun b7 => ?_))
    refine tl_e rfl (e_convMark rfl inferInstance (fun M3 fr3 hM3 hb3 => ?_))
    have ht3 : Bytes M3 (some ⟨b7, 0, none⟩) 1 1 [97] := Row.whole hb3 rfl (by omega)
    have hd := hM2.trans hM3
    have hd2 := hM3
    refine tl_e rfl (e_call' rfl (oSign_spec (hg.mono hd) o (hn2.mono hd2) (hs2.mono hd2) 3 ht3) ?_)
    rintro _ M4 _ hM4 ⟨rfl, A4, m4, c4, rfl, hA4⟩
    rw [if_pos ⟨hy, by omega⟩] at hA4
    obtain ⟨hp1, hp2, hp3, hp4⟩ := sig_parts ho hl16 (List.replicate 24 0) (3 : UInt32).toNat [97]
    have hm4 := hA4.size
    rw [hp1] at hm4
    replace hd := hd.trans hM4
    replace hd2 := hd2.trans hM4
    refine tl_y rfl (y_assign (v := .slice _ _ _) rfl) ?_
    refine tl_nil (.then_normal ?_)
    refine .sub (F' := [(1, _), (3, _), (4, _)]) (.cons rfl (.cons rfl (.cons rfl .nil))) ?_
    refine x_seq (x_region ?_)
    refine tl_y rfl (y_fieldAddr rfl) ?_
    refine tl_y rfl (y_load rfl rfl (.own inferInstance inferInstance)) ?_
    refine tl_e rfl (e_buildSlice rfl (by decide) (fun b8 => ?_))
    refine tl_e rfl (e_convMark rfl inferInstance (fun M5 fr5 hM5 hb5 => ?_))
    have ht5 : Bytes M5 (some ⟨b8, 0, none⟩) 1 1 [97] := Row.whole hb5 rfl (by omega)
    replace hd := hd.trans hM5
    replace hd2 := hd2.trans hM5
    refine tl_y rfl (y_move (v := .slice _ _ _) rfl) ?_
    refine tl_e rfl (e_call' rfl (oStands_spec (hg.mono hd) (hn2.mono hd2) 3 ht5 (hA4.mono hM5)) ?_)
    rintro _ M6 _ hM6 ⟨rfl, A6, m6, c6, rfl, hA6⟩
    obtain ⟨hst1, hst2⟩ := sta_sig ho hl16 (List.replicate 24 0) (3 : UInt32).toNat [97] (nl := 16) (tl := 1) rfl (by omega)
    rw [hst2] at hA6
    rw [hst1]
    replace hd := hd.trans hM6
    replace hd2 := hd2.trans hM6
    refine tl_y rfl (y_move (v := .tuple _) rfl) ?_
    refine tl_y rfl (y_extract rfl) ?_
    refine tl_y rfl (y_extract rfl) ?_
    refine tl_y rfl (y_assign (v := .slice _ _ _) rfl) ?_
    refine tl_y rfl (y_assign (v := .int _ _) rfl) ?_
    refine tl_nil (.then_normal ?_)
    refine .sub (F' := [(1, _), (3, _), (4, _), (5, _), (6, _)]) (.cons rfl (.cons rfl (.cons rfl (.cons rfl (.cons rfl .nil))))) ?_
    refine x_seq (x_region ?_)
    refine tl_y rfl (y_fieldAddr rfl) ?_
    refine tl_y rfl (y_load rfl rfl (.own inferInstance inferInstance)) ?_
    refine tl_e rfl (e_buildSlice rfl (by decide) (fun b9 => ?_))
    refine tl_e rfl (e_convMark rfl inferInstance (fun M7 fr7 hM7 hb7 => ?_))
    have ht7 : Bytes M7 (some ⟨b9, 0, none⟩) 1 1 [97] := Row.whole hb7 rfl (by omega)
    refine tl_e rfl (e_buildSlice rfl (by decide) (fun b10 => ?_))
    refine .pub b10 inferInstance (fun M8 hM8 hb8 => ?_)
    have ht8 : Bytes M8 (some ⟨b10, 0, none⟩) 4 4 [0, 0, 0, 99] := Row.whole hb8 rfl (by omega)
    replace hd := hd.trans (hM7.trans hM8)
    replace hd2 := hd2.trans (hM7.trans hM8)
    refine tl_e rfl (e_call' rfl (oStands_spec (hg.mono hd) (hn2.mono hd2) 3 (ht7.mono hM8) ht8) ?_)
    rintro _ M9 _ hM9 ⟨rfl, A9, m9, c9, rfl, hA9⟩
    rw [sta99 16 1 rfl (by omega)]
    replace hd := hd.trans hM9
    replace hd2 := hd2.trans hM9
    have hk6 := hM7.trans (hM8.trans hM9)
    refine tl_y rfl (y_move (v := .tuple _) rfl) ?_
    refine tl_y rfl (y_extract rfl) ?_
    refine tl_y rfl (y_extract rfl) ?_
    refine tl_y rfl (y_assign (v := .slice _ _ _) rfl) ?_
    refine tl_y rfl (y_assign (v := .int _ _) rfl) ?_
    refine tl_nil (.then_normal ?_)
    refine .sub (F' := [(1, _), (3, _), (4, _), (5, _), (6, _), (8, _)]) (.cons rfl (.cons rfl (.cons rfl (.cons rfl (.cons rfl (.cons rfl .nil)))))) ?_
    refine x_seq (x_region ?_)
    refine tl_y rfl (y_loadAgg rfl rfl (.own inferInstance inferInstance)) ?_
    refine tl_y rfl (y_loadAgg rfl rfl (.own inferInstance inferInstance)) ?_
    refine tl_e rfl (e_call' rfl (oMay_spec (hg.mono hd).set o) ?_)
    rintro _ M10 _ hM10 ⟨rfl, rfl⟩
    replace hd := hd.trans hM10
    replace hd2 := hd2.trans hM10
    replace hk6 := hk6.trans hM10
    refine tl_y rfl (y_move (v := .bool _) rfl) ?_
    refine tl_set (s := 42) (u := .bool true) rfl (congrArg Value.bool (decide_eq_true hy)) ?_
    refine tl_y rfl (y_loadAgg rfl rfl (.own inferInstance inferInstance)) ?_
    refine tl_e rfl (e_call' rfl (oSize_spec o ho) ?_)
    rintro _ _ _ _ ⟨rfl, rfl, rfl⟩
    refine tl_y rfl (y_eql rfl rfl) ?_
    refine tl_y rfl (y_pickT rfl rfl) ?_
    refine tl_y rfl (y_move (v := .bool _) rfl) ?_
    refine tl_set (s := 47) (u := .bool true) rfl (congrArg Value.bool (decide_eq_true (by rw [hz]; rfl))) ?_
    refine tl_y rfl (y_move (v := .slice _ _ _) rfl) ?_
    refine tl_y rfl (y_len rfl) ?_
    refine tl_y rfl (y_eql rfl rfl) ?_
    refine tl_y rfl (y_pickT rfl rfl) ?_
    refine tl_y rfl (y_move (v := .bool _) rfl) ?_
    refine tl_set (s := 52) (u := .bool true) rfl (congrArg Value.bool (decide_eq_true (by rw [← hm4, hz]; rfl))) ?_
    refine tl_y rfl (y_move (v := .int _ _) rfl) ?_
    refine tl_y rfl (y_eql rfl rfl) ?_
    refine tl_y rfl (y_pickT rfl rfl) ?_
    refine tl_y rfl (y_move (v := .bool _) rfl) ?_
    refine tl_set (s := 56) (u := .bool true) rfl (rfl) ?_
    refine tl_y rfl (y_move (v := .slice _ _ _) rfl) ?_
    refine tl_y rfl (y_loadAgg rfl rfl (.own inferInstance inferInstance)) ?_
    refine tl_y rfl (y_loadAgg rfl rfl (.own inferInstance inferInstance)) ?_
    refine tl_e rfl (e_call' rfl (oKey_spec (hg.mono hd) o (hn2.mono hd2) (hs2.mono hd2) 3) ?_)
    rintro _ M11 _ hM11 ⟨rfl, A11, m11, c11, rfl, hA11⟩
    rw [if_pos hy] at hA11
    replace hd := hd.trans hM11
    replace hd2 := hd2.trans hM11
    replace hk6 := hk6.trans hM11
    refine tl_e rfl (e_call' rfl (same_spec (hA6.mono hk6) hA11) ?_)
    rintro _ _ _ _ ⟨rfl, rfl, rfl⟩
    refine tl_y rfl (y_pickT rfl rfl) ?_
    refine tl_y rfl (y_move (v := .bool _) rfl) ?_
    refine tl_set (s := 63) (u := .bool true) rfl (congrArg Value.bool (decide_eq_true rfl)) ?_
    refine tl_y rfl (y_move (v := .slice _ _ _) rfl) ?_
    refine tl_y rfl (y_loadAgg rfl rfl (.own inferInstance inferInstance)) ?_
    refine tl_y rfl (y_loadAgg rfl rfl (.own inferInstance inferInstance)) ?_
    refine tl_e rfl (e_call' rfl (RoKey_spec o (hn2.mono hd2) (hs2.mono hd2) 3) ?_)
    rintro _ M12 _ hM12 ⟨rfl, A12, m12, c12, rfl, hA12⟩
    rw [if_pos hy] at hA12
    replace hd := hd.trans hM12
    refine tl_e rfl (e_call' rfl (same_spec (hA6.mono (hk6.trans hM12)) hA12) ?_)
    rintro _ _ _ _ ⟨rfl, rfl, rfl⟩
    refine tl_y rfl (y_pickT rfl rfl) ?_
    refine tl_y rfl (y_move (v := .bool _) rfl) ?_
    refine tl_set (s := 70) (u := .bool true) rfl (congrArg Value.bool (decide_eq_true rfl)) ?_
    refine tl_y rfl (y_move (v := .int _ _) rfl) ?_
    refine tl_y rfl (y_eql rfl rfl) ?_
    refine tl_y rfl (y_pickT rfl rfl) ?_
    refine tl_y rfl (y_assign (v := .bool _) rfl) ?_
    refine tl_nil (.then_normal ?_)
    refine .sub (F' := [(0, _)]) (.cons rfl .nil) ?_
    refine x_ret (.dropTo L inferInstance (ret1 rfl rfl hd ⟨rfl, rfl⟩))
  ·
    have he : Le M M := Le.refl _
    refine x_draw 4 hmix rfl ?_
    refine to_three 0 1 3 (by kernel_rfl) ?_ ?_ ?_
    ·
      refine two_e 0 rfl rfl (e_make1 rfl rfl (by omega) (by omega) (by omega) (by omega) (fun bn => ?_))
      refine ⟨⟨he, Keeps.mem⟩, ?_⟩
      refine .pub bn inferInstance (fun M3 hM3 hbn => ?_)
      rw [show Int.toNat 16 = 16 from rfl]
      have hn : Bytes M3 (some ⟨bn, 0, none⟩) 16 16 (List.replicate 16 0) := Bytes.zeros hbn (by omega)
      replace he := he.trans hM3
      refine to_two 1 3 (by kernel_rfl) ?_ ?_
      ·
        refine two_e 1 rfl rfl (e_make1 rfl rfl (by omega) (by omega) (by omega) (by omega) (fun bs => ?_))
        refine ⟨⟨he, Keeps.mem⟩, ?_⟩
        refine .pub bs inferInstance (fun M4 hM4 hbs => ?_)
        rw [show Int.toNat 24 = 24 from rfl]
        have hs : Bytes M4 (some ⟨bs, 0, none⟩) 24 24 (List.replicate 24 0) := Bytes.zeros hbs (by omega)
        replace he := he.trans hM4
        refine to_p 2 rfl (by kernel_rfl) rfl (y_build rfl) ?_
        refine to_e 3 rfl (by kernel_rfl) rfl (e_alloc (fun b2 => ?_))
        refine ⟨⟨(by first | exact Le.refl _ | assumption), Keeps.mem⟩, ?_⟩
        refine to_t 4 rfl (by kernel_rfl) (by kernel_rfl) rfl (e_store rfl rfl (by rfl) (by rfl) inferInstance inferInstance inferInstance ?_)
        refine to_nil (by kernel_rfl) (.then_normal (.sub (F' := [(1, _), (3, _)]) (.cons rfl (.cons rfl .nil)) (Jd2 _ _ _ _ ?_)))
        exact ⟨bn, bs, _, rfl, rfl, he, hn.mono (by first | exact Le.refl _ | exact hM4), hs.mono (by first | exact Le.refl _ | exact hM3), inferInstance⟩
      ·
        refine two_e 3 rfl rfl (e_alloc (fun b3 => ?_))
        refine ⟨⟨(by first | exact Le.refl _ | assumption), Keeps.mem⟩, ?_⟩
        refine to_e 1 rfl (by kernel_rfl) rfl (e_make1 rfl rfl (by omega) (by omega) (by omega) (by omega) (fun bs => ?_))
        refine ⟨⟨he, Keeps.mem⟩, ?_⟩
        refine .pub bs inferInstance (fun M4 hM4 hbs => ?_)
        rw [show Int.toNat 24 = 24 from rfl]
        have hs : Bytes M4 (some ⟨bs, 0, none⟩) 24 24 (List.replicate 24 0) := Bytes.zeros hbs (by omega)
        replace he := he.trans hM4
        refine to_p 2 rfl (by kernel_rfl) rfl (y_build rfl) ?_
        refine to_t 4 rfl (by kernel_rfl) (by kernel_rfl) rfl (e_store rfl rfl (by rfl) (by rfl) inferInstance inferInstance inferInstance ?_)
        refine to_nil (by kernel_rfl) (.then_normal (.sub (F' := [(1, _), (3, _)]) (.cons rfl (.cons rfl .nil)) (Jd2 _ _ _ _ ?_)))
        exact ⟨bn, bs, _, rfl, rfl, he, hn.mono (by first | exact Le.refl _ | exact hM4), hs.mono (by first | exact Le.refl _ | exact hM3), inferInstance⟩
    ·
      refine two_e 1 rfl rfl (e_make1 rfl rfl (by omega) (by omega) (by omega) (by omega) (fun bs => ?_))
      refine ⟨⟨he, Keeps.mem⟩, ?_⟩
      refine .pub bs inferInstance (fun M4 hM4 hbs => ?_)
      rw [show Int.toNat 24 = 24 from rfl]
      have hs : Bytes M4 (some ⟨bs, 0, none⟩) 24 24 (List.replicate 24 0) := Bytes.zeros hbs (by omega)
      replace he := he.trans hM4
      refine to_two 0 3 (by kernel_rfl) ?_ ?_
      ·
        refine two_e 0 rfl rfl (e_make1 rfl rfl (by omega) (by omega) (by omega) (by omega) (fun bn => ?_))
        refine ⟨⟨he, Keeps.mem⟩, ?_⟩
        refine .pub bn inferInstance (fun M3 hM3 hbn => ?_)
        rw [show Int.toNat 16 = 16 from rfl]
        have hn : Bytes M3 (some ⟨bn, 0, none⟩) 16 16 (List.replicate 16 0) := Bytes.zeros hbn (by omega)
        replace he := he.trans hM3
        refine to_p 2 rfl (by kernel_rfl) rfl (y_build rfl) ?_
        refine to_e 3 rfl (by kernel_rfl) rfl (e_alloc (fun b4 => ?_))
        refine ⟨⟨(by first | exact Le.refl _ | assumption), Keeps.mem⟩, ?_⟩
        refine to_t 4 rfl (by kernel_rfl) (by kernel_rfl) rfl (e_store rfl rfl (by rfl) (by rfl) inferInstance inferInstance inferInstance ?_)
        refine to_nil (by kernel_rfl) (.then_normal (.sub (F' := [(1, _), (3, _)]) (.cons rfl (.cons rfl .nil)) (Jd2 _ _ _ _ ?_)))
        exact ⟨bn, bs, _, rfl, rfl, he, hn.mono (by first | exact Le.refl _ | exact hM4), hs.mono (by first | exact Le.refl _ | exact hM3), inferInstance⟩
      ·
        refine two_e 3 rfl rfl (e_alloc (fun b5 => ?_))
        refine ⟨⟨(by first | exact Le.refl _ | assumption), Keeps.mem⟩, ?_⟩
        refine to_e 0 rfl (by kernel_rfl) rfl (e_make1 rfl rfl (by omega) (by omega) (by omega) (by omega) (fun bn => ?_))
        refine ⟨⟨he, Keeps.mem⟩, ?_⟩
        refine .pub bn inferInstance (fun M3 hM3 hbn => ?_)
        rw [show Int.toNat 16 = 16 from rfl]
        have hn : Bytes M3 (some ⟨bn, 0, none⟩) 16 16 (List.replicate 16 0) := Bytes.zeros hbn (by omega)
        replace he := he.trans hM3
        refine to_p 2 rfl (by kernel_rfl) rfl (y_build rfl) ?_
        refine to_t 4 rfl (by kernel_rfl) (by kernel_rfl) rfl (e_store rfl rfl (by rfl) (by rfl) inferInstance inferInstance inferInstance ?_)
        refine to_nil (by kernel_rfl) (.then_normal (.sub (F' := [(1, _), (3, _)]) (.cons rfl (.cons rfl .nil)) (Jd2 _ _ _ _ ?_)))
        exact ⟨bn, bs, _, rfl, rfl, he, hn.mono (by first | exact Le.refl _ | exact hM4), hs.mono (by first | exact Le.refl _ | exact hM3), inferInstance⟩
    ·
      refine two_e 3 rfl rfl (e_alloc (fun b6 => ?_))
      refine ⟨⟨(by first | exact Le.refl _ | assumption), Keeps.mem⟩, ?_⟩
      refine to_two 0 1 (by kernel_rfl) ?_ ?_
      ·
        refine two_e 0 rfl rfl (e_make1 rfl rfl (by omega) (by omega) (by omega) (by omega) (fun bn => ?_))
        refine ⟨⟨he, Keeps.mem⟩, ?_⟩
        refine .pub bn inferInstance (fun M3 hM3 hbn => ?_)
        rw [show Int.toNat 16 = 16 from rfl]
        have hn : Bytes M3 (some ⟨bn, 0, none⟩) 16 16 (List.replicate 16 0) := Bytes.zeros hbn (by omega)
        replace he := he.trans hM3
        refine to_e 1 rfl (by kernel_rfl) rfl (e_make1 rfl rfl (by omega) (by omega) (by omega) (by omega) (fun bs => ?_))
        refine ⟨⟨he, Keeps.mem⟩, ?_⟩
        refine .pub bs inferInstance (fun M4 hM4 hbs => ?_)
        rw [show Int.toNat 24 = 24 from rfl]
        have hs : Bytes M4 (some ⟨bs, 0, none⟩) 24 24 (List.replicate 24 0) := Bytes.zeros hbs (by omega)
        replace he := he.trans hM4
        refine to_p 2 rfl (by kernel_rfl) rfl (y_build rfl) ?_
        refine to_t 4 rfl (by kernel_rfl) (by kernel_rfl) rfl (e_store rfl rfl (by rfl) (by rfl) inferInstance inferInstance inferInstance ?_)
        refine to_nil (by kernel_rfl) (.then_normal (.sub (F' := [(1, _), (3, _)]) (.cons rfl (.cons rfl .nil)) (Jd2 _ _ _ _ ?_)))
        exact ⟨bn, bs, _, rfl, rfl, he, hn.mono (by first | exact Le.refl _ | exact hM4), hs.mono (by first | exact Le.refl _ | exact hM3), inferInstance⟩
      ·
        refine two_e 1 rfl rfl (e_make1 rfl rfl (by omega) (by omega) (by omega) (by omega) (fun bs => ?_))
        refine ⟨⟨he, Keeps.mem⟩, ?_⟩
        refine .pub bs inferInstance (fun M4 hM4 hbs => ?_)
        rw [show Int.toNat 24 = 24 from rfl]
        have hs : Bytes M4 (some ⟨bs, 0, none⟩) 24 24 (List.replicate 24 0) := Bytes.zeros hbs (by omega)
        replace he := he.trans hM4
        refine to_e 0 rfl (by kernel_rfl) rfl (e_make1 rfl rfl (by omega) (by omega) (by omega) (by omega) (fun bn => ?_))
        refine ⟨⟨he, Keeps.mem⟩, ?_⟩
        refine .pub bn inferInstance (fun M3 hM3 hbn => ?_)
        rw [show Int.toNat 16 = 16 from rfl]
        have hn : Bytes M3 (some ⟨bn, 0, none⟩) 16 16 (List.replicate 16 0) := Bytes.zeros hbn (by omega)
        replace he := he.trans hM3
        refine to_p 2 rfl (by kernel_rfl) rfl (y_build rfl) ?_
        refine to_t 4 rfl (by kernel_rfl) (by kernel_rfl) rfl (e_store rfl rfl (by rfl) (by rfl) inferInstance inferInstance inferInstance ?_)
        refine to_nil (by kernel_rfl) (.then_normal (.sub (F' := [(1, _), (3, _)]) (.cons rfl (.cons rfl .nil)) (Jd2 _ _ _ _ ?_)))
        exact ⟨bn, bs, _, rfl, rfl, he, hn.mono (by first | exact Le.refl _ | exact hM4), hs.mono (by first | exact Le.refl _ | exact hM3), inferInstance⟩
end
end Go.Proofs.YtbjnjedfoiedeaaGreatDoor
