/-
Contracts of functions, each proved by a walk through its code.
-/
import Derived.Test.YtiimjodbaogjbaaGreatDoorLms4Etc
import Derived.Test.YtiimjodbaogjbaaGreatDoorRef7Etc
import Derived.Test.YtiimjodbaogjbaaGreatDoorRef11Etc
import Derived.Test.YtiimjodbaogjbaaGreatDoorLms1Etc
import Derived.Test.YtiimjodbaogjbaaGreatDoorShakeEtc
import Derived.Test.YtiimjodbaogjbaaGreatDoorDigPureEtc
import Derived.Test.YtiimjodbaogjbaaGreatDoorOnce3Etc
set_option linter.unusedVariables false
set_option linter.unusedSimpArgs false
set_option linter.constructorNameAsVariable false
namespace Go.Proofs.YtiimjodbaogjbaaGreatDoor
open Go Go.Eng
section
variable {G : World} {M : Mem} {L : Own} {NA SA TA : Option Addr} {nl nc sl sc tl tc : Nat} {name sec text : List UInt8}
theorem way_le2 {x : PairV} (name sec : List UInt8) (q k : Nat) : (wayB (treeV x.t) name (keysX x name sec) q k).flatten.length ≤ k * 32 := by
  rw [way_flat]
  exact catR_le (fun i => (lvl_short _ _ _ _).get _) k
theorem RSizes_spec (x : PairV) :
    Con Tryz.prog 21 #[.agg (List.toArray x.cells)] G M L (fun v M' L' => M = M' ∧ L = L' ∧ v = .tuple #[.int .i64 ((szP x : Nat) : Int), .int .i64 ((szS x : Nat) : Int)]) noPanic := by
  refine enter (args := [_]) (fn := Tryz.f21) ⟨Tryz.func21, rfl, by kernel_rfl, by kernel_rfl⟩ 27 rfl ?_
  refine x_seq (x_region ?_)
  refine tl_e rfl (e_box rfl (fun b1 => ?_))
  refine tl_y rfl (y_assign rfl) ?_
  refine tl_y rfl (y_assign rfl) ?_
  refine tl_nil (.then_normal ?_)
  refine x_seq (x_region ?_)
  refine tl_y rfl (y_loadAgg rfl rfl (.own inferInstance inferInstance)) ?_
  refine tl_e rfl (e_call' rfl (RSets12_spec x) ?_)
  rintro _ _ _ _ ⟨rfl, rfl, rfl⟩
  refine tl_y rfl (y_move (v := .tuple _) rfl) ?_
  refine tl_y rfl (y_extract rfl) ?_
  refine tl_y rfl (y_extract rfl) ?_
  refine tl_y rfl (y_extract rfl) ?_
  refine tl_e rfl (e_alloc (fun b2 => ?_))
  refine tl_e rfl (e_alloc (fun b3 => ?_))
  refine tl_e rfl (e_store rfl rfl (by rfl) (by rfl) inferInstance inferInstance inferInstance ?_)
  refine tl_e rfl (e_store rfl rfl (by rfl) (by rfl) inferInstance inferInstance inferInstance ?_)
  refine tl_y rfl (y_assign (v := .bool _) rfl) ?_
  refine tl_nil (.then_normal ?_)
  refine .sub (F' := [(4, _), (5, _), (6, _)]) (.cons rfl (.cons rfl (.cons rfl .nil))) ?_
  refine x_seq (x_seq (x_region ?_))
  refine tl_y rfl (y_move (v := .bool _) rfl) ?_
  refine tl_y rfl (y_notd rfl) ?_
  refine tl_nil (.then_normal ?_)
  refine x_cond rfl (fun hc1 => ?_) (fun hc1 => ?_)
  ·
    refine x_seq (x_region ?_)
    refine tl_y rfl (y_assign rfl) ?_
    refine tl_y rfl (y_assign rfl) ?_
    refine tl_nil (.then_normal ?_)
    refine .sub (F' := [(2, _), (3, _)]) (.cons rfl (.cons rfl .nil)) ?_
    refine x_ret (.then_ret (.dropTo L inferInstance (ret2 rfl rfl rfl (Le.refl _) ⟨rfl, rfl, by rw [szP, szS, if_neg hc1, if_neg hc1]; rfl⟩)))
  ·
    have hok : okP x := Classical.not_not.1 hc1
    obtain ⟨n, w, p, H, hx⟩ := okP_facts hok
    obtain ⟨z1, z2, z3, z4, z5⟩ := hx.sizes
    have hn32 := hx.o.n32
    have hm : (n : Int) * (H : Int) = ((n * H : Nat) : Int) := by push_cast; rfl
    refine x_skip (.then_normal ?_)
    refine x_seq ?_
    refine x_draw 14 hmix rfl ?_
    refine to_p 0 rfl (by kernel_rfl) rfl (y_fieldAddr rfl) ?_
    refine to_y 1 rfl (by kernel_rfl) rfl (y_load (v := .int .i64 (n : Int)) rfl rfl (by rw [← hx.tn]; exact .own inferInstance inferInstance)) ?_
    refine to_p 2 rfl (by kernel_rfl) rfl (y_addI rfl rfl (by omega)) ?_
    refine to_y 3 rfl (by kernel_rfl) rfl (y_loadAgg rfl rfl (.own inferInstance inferInstance)) ?_
    refine to_p 6 rfl (by kernel_rfl) rfl (y_fieldAddr rfl) ?_
    refine to_y 7 rfl (by kernel_rfl) rfl (y_load (v := .int .i64 (n : Int)) rfl rfl (by rw [← hx.tn]; exact .own inferInstance inferInstance)) ?_
    refine to_p 8 rfl (by kernel_rfl) rfl (y_fieldAddr rfl) ?_
    refine to_y 9 rfl (by kernel_rfl) rfl (y_load (v := .int .i64 (H : Int)) rfl rfl (by rw [← hx.th]; exact .own inferInstance inferInstance)) ?_
    refine to_p 10 rfl (by kernel_rfl) rfl (y_mulI rfl rfl (by rw [hm]; omega)) ?_
    rw [hm]
    refine to_e 4 rfl (by kernel_rfl) rfl (e_call' rfl (RoSizeW_spec (otsV x.o)) ?_)
    rintro _ _ _ _ ⟨rfl, rfl, rfl⟩
    rw [sizeW_of hx.o]
    refine ⟨⟨(by first | exact Le.refl _ | assumption), Keeps.mem⟩, ?_⟩
    refine to_p 5 rfl (by kernel_rfl) rfl (y_addI rfl rfl (by omega)) ?_
    refine to_p 11 rfl (by kernel_rfl) rfl (y_addI rfl rfl (by omega)) ?_
    refine to_p 12 rfl (by kernel_rfl) rfl (y_assign (v := .int _ _) rfl) ?_
    refine to_p 13 rfl (by kernel_rfl) rfl (y_assign (v := .int _ _) rfl) ?_
    refine to_nil (by kernel_rfl) (.then_normal ?_)
    refine .sub (F' := [(2, _), (3, _)]) (.cons rfl (.cons rfl .nil)) ?_
    refine x_ret (.dropTo L inferInstance (ret2 rfl rfl rfl (Le.refl _) ⟨rfl, rfl, by rw [szP, szS, if_pos hok, if_pos hok, z1, z2]; rfl⟩))
theorem Rmay_spec (x : PairV) :
    Con Tryz.prog 88 #[.agg (List.toArray x.cells), .agg (List.toArray (seedC NA nl nc SA sl sc))] G M L (fun v M' L' => M = M' ∧ L = L' ∧ v = .int .i64 (mayC x nl sl)) noPanic := by
  refine enter (args := [_, _]) (fn := Tryz.f88) ⟨Tryz.func88, rfl, by kernel_rfl, by kernel_rfl⟩ 25 rfl ?_
  refine x_seq (x_region ?_)
  refine tl_e rfl (e_box rfl (fun b1 => ?_))
  refine tl_e rfl (e_box rfl (fun b2 => ?_))
  refine tl_y rfl (y_assign rfl) ?_
  refine tl_nil (.then_normal ?_)
  refine x_seq (x_region ?_)
  refine tl_y rfl (y_loadAgg rfl rfl (.own inferInstance inferInstance)) ?_
  refine tl_e rfl (e_call' rfl (RSets12_spec x) ?_)
  rintro _ _ _ _ ⟨rfl, rfl, rfl⟩
  refine tl_y rfl (y_move (v := .tuple _) rfl) ?_
  refine tl_y rfl (y_extract rfl) ?_
  refine tl_y rfl (y_extract rfl) ?_
  refine tl_y rfl (y_extract rfl) ?_
  refine tl_e rfl (e_alloc (fun b3 => ?_))
  refine tl_e rfl (e_alloc (fun b4 => ?_))
  refine tl_e rfl (e_store rfl rfl (by rfl) (by rfl) inferInstance inferInstance inferInstance ?_)
  refine tl_e rfl (e_store rfl rfl (by rfl) (by rfl) inferInstance inferInstance inferInstance ?_)
  refine tl_y rfl (y_assign (v := .bool _) rfl) ?_
  refine tl_nil (.then_normal ?_)
  refine .sub (F' := [(3, _), (5, _), (6, _), (7, _)]) (.cons rfl (.cons rfl (.cons rfl (.cons rfl .nil)))) ?_
  refine x_seq (x_seq (x_region ?_))
  refine tl_y rfl (y_move (v := .bool _) rfl) ?_
  refine tl_y rfl (y_notd rfl) ?_
  refine tl_nil (.then_normal ?_)
  refine x_cond rfl (fun hc1 => ?_) (fun hc1 => ?_)
  ·
    refine x_seq (x_region ?_)
    refine tl_y rfl (y_assign rfl) ?_
    refine tl_nil (.then_normal ?_)
    refine .sub (F' := [(4, _)]) (.cons rfl .nil) ?_
    refine x_ret (.then_ret (.dropTo L inferInstance (ret1 rfl rfl (Le.refl _) ⟨rfl, rfl, by rw [mayC, if_pos hc1]⟩)))
  ·
    have hok : okP x := Classical.not_not.1 hc1
    refine x_skip (.then_normal ?_)
    refine x_seq (x_seq (x_region ?_))
    refine tl_y rfl (y_fieldAddr rfl) ?_
    refine tl_y rfl (y_load rfl rfl (.own inferInstance inferInstance)) ?_
    refine tl_y rfl (y_gtr rfl rfl) ?_
    refine tl_y rfl (y_move (v := .bool _) rfl) ?_
    refine tl_cases (s := 19) rfl (fun hk1 => ?_) (fun hk1 => ?_)
    ·
      refine tl_skip rfl ?_
      refine tl_skip rfl ?_
      refine tl_skip rfl ?_
      refine tl_skip rfl ?_
      refine tl_y rfl (y_pickT rfl rfl) ?_
      refine tl_nil (.then_normal ?_)
      refine .sub (F' := [(24, _)]) (.cons rfl .nil) ?_
      refine x_true rfl rfl ?_
      refine x_seq (x_region ?_)
      refine tl_y rfl (y_assign rfl) ?_
      refine tl_nil (.then_normal ?_)
      refine x_ret (.then_ret (.dropTo L inferInstance (ret1 rfl rfl (Le.refl _) ⟨rfl, rfl, by rw [mayC, if_neg hc1, if_pos (.inl hk1)]⟩)))
    ·
      refine tl_y rfl (y_loadAgg rfl rfl (.own inferInstance inferInstance)) ?_
      refine tl_y rfl (y_loadAgg rfl rfl (.own inferInstance inferInstance)) ?_
      refine tl_e rfl (e_call' rfl (RoMay_spec (otsV x.o)) ?_)
      rintro _ _ _ _ ⟨rfl, rfl, rfl⟩
      refine tl_y rfl (y_notd rfl) ?_
      refine tl_y rfl (y_pickF rfl rfl) ?_
      refine tl_nil (.then_normal ?_)
      refine .sub (F' := [(24, _)]) (.cons rfl .nil) ?_
      refine x_cond rfl (fun hc2 => ?_) (fun hc2 => ?_)
      ·
        refine x_seq (x_region ?_)
        refine tl_y rfl (y_assign rfl) ?_
        refine tl_nil (.then_normal ?_)
        refine x_ret (.then_ret (.dropTo L inferInstance (ret1 rfl rfl (Le.refl _) ⟨rfl, rfl, by rw [mayC, if_neg hc1, if_pos (.inr hc2)]⟩)))
      ·
        refine x_skip (.then_normal ?_)
        refine x_seq (x_region ?_)
        refine tl_y rfl (y_assign rfl) ?_
        refine tl_nil (.then_normal ?_)
        refine x_ret (.dropTo L inferInstance (ret1 rfl rfl (Le.refl _) ⟨rfl, rfl, by rw [mayC_ok hok (by omega) (Classical.not_not.1 hc2)]⟩))
theorem RKeys_spec {x : PairV} {n w p H : Nat} (hx : PF x n w p H) (hy : okY (otsV x.o) nl sl) (hname : Bytes M NA nl nc name) (hsec : Bytes M SA sl sc sec) :
    Con Tryz.prog 91 #[.agg (List.toArray (otsV x.o).cells), .agg (List.toArray (treeV x.t).cells), .agg (List.toArray (seedC NA nl nc SA sl sc))] G M L (fun v M' L' => L = L' ∧ ∃ A c vs, v = .slice A (pw2 H) c ∧ Row M' 1 A (pw2 H) c vs ∧ BRows M' vs (keysX x name sec)) noPanic := by
  have hpw := pw2_25 hx.h2
  refine enter (args := [_, _, _]) (fn := Tryz.f91) ⟨Tryz.func91, rfl, by kernel_rfl, by kernel_rfl⟩ 24 rfl ?_
  refine x_seq (x_region ?_)
  refine tl_e rfl (e_box rfl (fun b1 => ?_))
  refine tl_e rfl (e_box rfl (fun b2 => ?_))
  refine tl_e rfl (e_box rfl (fun b3 => ?_))
  refine tl_y rfl (y_assign rfl) ?_
  refine tl_nil (.then_normal ?_)
  refine .sub (F' := [(3, _), (4, _), (5, _)]) (.cons rfl (.cons rfl (.cons rfl .nil))) ?_
  refine x_seq (x_region ?_)
  refine tl_y rfl (y_assign rfl) ?_
  refine tl_nil (.then_normal ?_)
  refine x_seq (x_seq (x_region ?_))
  refine tl_y rfl (y_assign rfl) ?_
  refine tl_nil (.then_normal ?_)
  refine x_block ?_
  refine x_loop (I := fun m' F D M1 L1 => ∃ (i : Nat) (A : Option Addr) (c : Nat) (E : Own) (vs : List Value), m' = pw2 H - i ∧ i ≤ pw2 H ∧ Le M M1 ∧ OwnRow 35 1 A i c vs E ∧ BRows M1 vs (keysB x name sec i) ∧ D = [] ∧ L1 = E ++ ((b3, .cells (List.toArray (seedC NA nl nc SA sl sc)) 49 (0, 0)) :: (b2, .cells (List.toArray (treeV x.t).cells) 29 (0, 0)) :: (b1, .cells (List.toArray (otsV x.o).cells) 27 (0, 0)) :: L) ∧ F = [(3, .pointer (some ⟨b1, 0, none⟩)), (4, .pointer (some ⟨b2, 0, none⟩)), (5, .pointer (some ⟨b3, 0, none⟩)), (7, .slice A i c), (8, .int .u64 (i : Int))]) (pw2 H) (F0 := [(3, _), (4, _), (5, _), (7, _), (8, _)]) ?_ (.cons rfl (.cons rfl (.cons rfl (.cons rfl (.cons rfl .nil))))) ?_  -- slots [3, 4, 5, 7, 8], written [7, 8]
  · exact ⟨0, none, 0, [], [], rfl, by omega, Le.refl _, .nil, .nil, rfl, rfl, rfl⟩
  rintro m _ _ M1 _ ⟨i, A, c, E, vs, rfl, hi, hM1, hE, hB, rfl, rfl, rfl⟩
  refine x_seq (x_seq (x_region ?_))
  refine tl_y rfl (y_move (v := .int _ _) rfl) ?_
  refine tl_y rfl (y_loadAgg rfl rfl (.own inferInstance inferInstance)) ?_
  refine tl_e rfl (e_call' rfl (RLeaves_spec (treeV x.t)) ?_)
  rintro _ _ _ _ ⟨rfl, rfl, rfl⟩
  rw [hx.lv]
  refine tl_y rfl (y_lss rfl rfl) ?_
  refine tl_nil (.then_normal ?_)
  refine x_cond rfl (fun hc1 => ?_) (fun hc1 => ?_)
  ·
    have hip : i < pw2 H := by omega
    obtain ⟨z, hz⟩ : ∃ z : UInt32, z.toNat = i := ⟨UInt32.ofNat i, by rw [UInt32.toNat_ofNat', Nat.mod_eq_of_lt (by omega)]⟩
    refine x_skip (.then_normal ?_)
    refine .sub (F' := [(3, _), (4, _), (5, _), (7, _), (8, _)]) (.cons rfl (.cons rfl (.cons rfl (.cons rfl (.cons rfl .nil))))) ?_
    refine x_seq ?_
    refine x_block ?_
    refine x_region ?_
    refine tl_y rfl (y_move (v := .slice _ _ _) rfl) ?_
    refine tl_y rfl (y_loadAgg rfl rfl (.own inferInstance inferInstance)) ?_
    refine tl_y rfl (y_loadAgg rfl rfl (.own inferInstance inferInstance)) ?_
    refine tl_y rfl (y_move (v := .int _ _) rfl) ?_
    refine tl_y rfl (y_convE (b := (z.toNat : Int)) rfl (by rw [wrapU32, hz]; omega)) ?_
    refine tl_e rfl (e_call' rfl (RoKey_spec (otsV x.o) (hname.mono hM1) (hsec.mono hM1) z) ?_)
    rintro _ M2 _ hM2 ⟨rfl, A2, m2, c2, rfl, hA2⟩
    rw [if_pos hy, hz] at hA2
    refine tl_e rfl (e_buildSlice rfl (by decide) (fun b4 => ?_))
    refine .pub b4 inferInstance (fun M3 hM3 hb3 => ?_)
    refine tl_e rfl (e_append (by decide) rfl rfl hE (.row (Row.whole (s := 1) hb3 rfl (by omega))) rfl (by omega) (by omega) (fun A7 c7 E7 hE7 => ?_))
    refine tl_y rfl (y_assign (v := .slice _ _ _) rfl) ?_
    refine tl_nil (.block_normal (.then_normal ?_))
    refine .sub (F' := [(3, _), (4, _), (5, _), (7, _), (8, _)]) (.cons rfl (.cons rfl (.cons rfl (.cons rfl (.cons rfl .nil))))) ?_
    refine x_region ?_
    refine tl_y rfl (y_move (v := .int _ _) rfl) ?_
    refine tl_y rfl (y_addN64 rfl rfl (by omega)) ?_
    refine tl_y rfl (y_assign (v := .int _ _) rfl) ?_
    refine tl_nil (.loop_next (m' := pw2 H - (i + 1)) (by omega) (F' := [(3, _), (4, _), (5, _), (7, _), (8, _)]) (.cons rfl (.cons rfl (.cons rfl (.cons rfl (.cons rfl .nil))))) ?_)
    exact ⟨i + 1, A7, c7, E7, _, rfl, by omega, hM1.trans (hM2.trans hM3), hE7, by rw [keysB_succ]; exact (hB.mono (hM2.trans hM3)).snoc (hA2.mono hM3), rfl, rfl, rfl⟩
  ·
    obtain rfl : i = pw2 H := by omega
    refine .pubRow hE (fun M4 hM4 hrow => ?_)
    refine x_exit (.then_exit (.loop_exit (.block_exit (.then_normal ?_))))
    refine .sub (F' := [(7, _)]) (.cons rfl .nil) ?_
    refine x_seq (x_region ?_)
    refine tl_y rfl (y_move (v := .slice _ _ _) rfl) ?_
    refine tl_y rfl (y_assign (v := .slice _ _ _) rfl) ?_
    refine tl_nil (.then_normal ?_)
    refine x_ret (.dropTo L inferInstance (ret1 rfl rfl (hM1.trans hM4) ⟨rfl, _, _, _, rfl, hrow, by rw [keysX, hx.lv]; exact hB.mono hM4⟩))
theorem RPublic_spec (x : PairV) (hname : Bytes M NA nl nc name) (hsec : Bytes M SA sl sc sec) :
    Con Tryz.prog 36 #[.agg (List.toArray x.cells), .agg (List.toArray (seedC NA nl nc SA sl sc))] G M L (fun v M' L' => L' = L ∧ ∃ A m c, v = .tuple #[.slice A m c, .int .i64 (mayC x nl sl)] ∧ Bytes M' A m c (pubV x nl sl name sec)) noPanic := by
  refine enter (args := [_, _]) (fn := Tryz.f36) ⟨Tryz.func36, rfl, by kernel_rfl, by kernel_rfl⟩ 42 rfl ?_
  refine x_seq (x_region ?_)
  refine tl_e rfl (e_box rfl (fun b1 => ?_))
  refine tl_e rfl (e_box rfl (fun b2 => ?_))
  refine tl_y rfl (y_assign rfl) ?_
  refine tl_y rfl (y_assign rfl) ?_
  refine tl_nil (.then_normal ?_)
  refine .sub (F' := [(2, _), (3, _)]) (.cons rfl (.cons rfl .nil)) ?_
  refine x_seq (x_region ?_)
  refine tl_y rfl (y_loadAgg rfl rfl (.own inferInstance inferInstance)) ?_
  refine tl_y rfl (y_loadAgg rfl rfl (.own inferInstance inferInstance)) ?_
  refine tl_e rfl (e_call' rfl (Rmay_spec x) ?_)
  rintro _ _ _ _ ⟨rfl, rfl, rfl⟩
  refine tl_y rfl (y_assign (v := .int _ _) rfl) ?_
  refine tl_nil (.then_normal ?_)
  refine x_seq (x_seq (x_region ?_))
  refine tl_y rfl (y_move (v := .int _ _) rfl) ?_
  refine tl_y rfl (y_neq rfl rfl) ?_
  refine tl_nil (.then_normal ?_)
  refine .sub (F' := [(2, _), (3, _), (6, _), (14, _)]) (.cons rfl (.cons rfl (.cons rfl (.cons rfl .nil)))) ?_
  refine x_cond rfl (fun hc1 => ?_) (fun hc1 => ?_)
  ·
    refine x_seq (x_region ?_)
    refine tl_y rfl (y_move (v := .int _ _) rfl) ?_
    refine tl_y rfl (y_assign rfl) ?_
    refine tl_y rfl (y_assign (v := .int _ _) rfl) ?_
    refine tl_nil (.then_normal ?_)
    refine .sub (F' := [(4, _), (5, _)]) (.cons rfl (.cons rfl .nil)) ?_
    refine x_ret (.then_ret (.dropTo L inferInstance (ret2 rfl rfl rfl (Le.refl _) ⟨rfl, _, _, _, rfl, by rw [pubV, if_neg hc1]; exact Row.nil _ _⟩)))
  ·
    have hmay : mayC x nl sl = 0 := Classical.not_not.1 hc1
    obtain ⟨hok, hH10, hy⟩ := mayC_zero hmay
    obtain ⟨n, w, p, H, hx⟩ := okP_facts hok
    have hn32 := hx.o.n32
    have hnl := hy.2.1
    have hnn := hname.size
    have hpw := pw2_25 hx.h2
    have hxt := x.t.toNat_lt
    have hxo := x.o.toNat_lt
    refine x_skip (.then_normal ?_)
    refine x_seq (x_region ?_)
    refine tl_y rfl (y_loadAgg rfl rfl (.own inferInstance inferInstance)) ?_
    refine tl_e rfl (e_call' rfl (RSets12_spec x) ?_)
    rintro _ _ _ _ ⟨rfl, rfl, rfl⟩
    refine tl_y rfl (y_move (v := .tuple _) rfl) ?_
    refine tl_y rfl (y_extract rfl) ?_
    refine tl_y rfl (y_extract rfl) ?_
    refine tl_y rfl (y_extract rfl) ?_
    refine tl_e rfl (e_alloc (fun b3 => ?_))
    refine tl_e rfl (e_alloc (fun b4 => ?_))
    refine tl_e rfl (e_store rfl rfl (by rfl) (by rfl) inferInstance inferInstance inferInstance ?_)
    refine tl_e rfl (e_store rfl rfl (by rfl) (by rfl) inferInstance inferInstance inferInstance ?_)
    refine tl_y rfl (y_assign (v := .bool _) rfl) ?_
    refine tl_nil (.then_normal ?_)
    refine .sub (F' := [(2, _), (3, _), (7, _), (8, _)]) (.cons rfl (.cons rfl (.cons rfl (.cons rfl .nil)))) ?_
    refine x_seq ?_
    have he : Le M M := Le.refl _
    refine x_draw 22 hmix rfl ?_
    refine to_p 0 rfl (by kernel_rfl) rfl (y_fieldAddr rfl) ?_
    refine to_y 1 rfl (by kernel_rfl) rfl (y_load rfl rfl (.own inferInstance inferInstance)) ?_
    refine to_p 2 rfl (by kernel_rfl) rfl (y_convN64 rfl (by omega)) ?_
    refine to_p 4 rfl (by kernel_rfl) rfl (y_fieldAddr rfl) ?_
    refine to_y 5 rfl (by kernel_rfl) rfl (y_load rfl rfl (.own inferInstance inferInstance)) ?_
    refine to_p 6 rfl (by kernel_rfl) rfl (y_convN64 rfl (by omega)) ?_
    refine to_p 8 rfl (by kernel_rfl) rfl (y_fieldAddr rfl) ?_
    refine to_y 9 rfl (by kernel_rfl) rfl (y_load rfl rfl (.own inferInstance inferInstance)) ?_
    refine to_y 10 rfl (by kernel_rfl) rfl (y_loadAgg rfl rfl (.own inferInstance inferInstance)) ?_
    refine to_p 11 rfl (by kernel_rfl) rfl (y_fieldAddr rfl) ?_
    refine to_y 12 rfl (by kernel_rfl) rfl (y_load rfl rfl (.own inferInstance inferInstance)) ?_
    refine to_y 13 rfl (by kernel_rfl) rfl (y_loadAgg rfl rfl (.own inferInstance inferInstance)) ?_
    refine to_y 14 rfl (by kernel_rfl) rfl (y_loadAgg rfl rfl (.own inferInstance inferInstance)) ?_
    refine to_y 15 rfl (by kernel_rfl) rfl (y_loadAgg rfl rfl (.own inferInstance inferInstance)) ?_
    refine to_e 3 rfl (by kernel_rfl) rfl (e_call' rfl (RPutV_spec x.t.toNat 4 (by omega) (by omega)) ?_)
    rintro _ M2 _ hM2 ⟨rfl, A2, c2, rfl, hA2⟩
    replace he := he.trans hM2
    try replace hA3 := hA3.mono hM2
    try replace hA5 := hA5.mono hM2
    try replace hrow := hrow.mono hM2
    try replace hB := hB.mono hM2
    refine ⟨⟨he, Keeps.mem⟩, ?_⟩
    refine to_e 7 rfl (by kernel_rfl) rfl (e_call' rfl (RPutV_spec x.o.toNat 4 (by omega) (by omega)) ?_)
    rintro _ M3 _ hM3 ⟨rfl, A3, c3, rfl, hA3⟩
    replace he := he.trans hM3
    try replace hA2 := hA2.mono hM3
    try replace hA5 := hA5.mono hM3
    try replace hrow := hrow.mono hM3
    try replace hB := hB.mono hM3
    refine ⟨⟨he, Keeps.mem⟩, ?_⟩
    refine to_e 16 rfl (by kernel_rfl) rfl (e_call' rfl (RKeys_spec hx hy (hname.mono he) (hsec.mono he)) ?_)
    rintro _ M4 _ hM4 ⟨rfl, A4, c4, kvs, rfl, hrow, hB⟩
    replace he := he.trans hM4
    try replace hA2 := hA2.mono hM4
    try replace hA3 := hA3.mono hM4
    refine ⟨⟨he, Keeps.mem⟩, ?_⟩
    refine to_e 17 rfl (by kernel_rfl) rfl (e_call' rfl (RRoot_spec (treeV x.t) (hname.mono he) hrow hB (keysB_le _ _ _ _)) ?_)
    rintro _ M5 _ hM5 ⟨rfl, A5, m5, c5, rfl, hA5⟩
    rw [if_pos ⟨by rw [hnl]; exact hx.s, hH10, hx.lv.symm⟩] at hA5
    replace he := he.trans hM5
    try replace hA2 := hA2.mono hM5
    try replace hA3 := hA3.mono hM5
    refine ⟨⟨he, Keeps.mem⟩, ?_⟩
    refine to_e 18 rfl (by kernel_rfl) rfl (e_buildSlice rfl (by decide) (fun b7 => ?_))
    refine ⟨⟨he, Keeps.mem⟩, ?_⟩
    refine .pub b7 inferInstance (fun M6 hM6 hb7 => ?_)
    have he6 := he.trans hM6
    have hfl : [putB x.t.toNat 4, putB x.o.toNat 4, name, rootB (treeV x.t) name (keysX x name sec)].flatten = pubB x name sec := by simp [pubB]
    have hm5 := hA5.size
    have hrl : (rootB (treeV x.t) name (keysX x name sec)).length ≤ 32 := (lvl_short _ _ _ _).get 0
    have hfll : (pubB x name sec).length ≤ 100 := by
      rw [pubB, List.length_append, List.length_append, List.length_append, putB_length, putB_length]; omega
    refine to_e 19 rfl (by kernel_rfl) rfl (e_call' rfl (RCat_own (Row.whole hb7 rfl (by omega)) (.cons (hA2.mono hM6) (.cons (hA3.mono hM6) (.cons (hname.mono he6) (.cons (hA5.mono hM6) .nil)))) (by rw [hfl]; omega)) ?_)
    rintro _ _ _ _ ⟨rfl, A7, c7, E7, rfl, hE7, rfl⟩
    rw [hfl] at hE7
    rw [hfl]
    refine ⟨⟨he6, Keeps.mem⟩, ?_⟩
    refine .pubRow hE7 (fun M7 hM7 hA7 => ?_)
    refine to_p 20 rfl (by kernel_rfl) rfl (y_assign (v := .slice _ _ _) rfl) ?_
    refine to_p 21 rfl (by kernel_rfl) rfl (y_assign rfl) ?_
    refine to_nil (by kernel_rfl) (.then_normal ?_)
    refine .sub (F' := [(4, _), (5, _)]) (.cons rfl (.cons rfl .nil)) ?_
    refine x_ret (.dropTo L inferInstance (ret2 rfl rfl rfl (he6.trans hM7) ⟨rfl, _, _, _, by rw [hmay], by rw [pubV, if_pos hmay]; exact hA7⟩))
theorem RSign_spec (x : PairV) (hname : Bytes M NA nl nc name) (hsec : Bytes M SA sl sc sec) (q : UInt32) (htext : Bytes M TA tl tc text) :
    Con Tryz.prog 38 #[.agg (List.toArray x.cells), .agg (List.toArray (seedC NA nl nc SA sl sc)), .int .u32 (q.toNat : Int), .slice TA tl tc] G M L (fun v M' L' => L' = L ∧ ∃ A m c, v = .tuple #[.slice A m c, .int .i64 (lsigE x nl sl q.toNat tl)] ∧ Bytes M' A m c (lsigV x nl sl name sec q.toNat tl text)) noPanic := by
  have hql := q.toNat_lt
  refine enter (args := [_, _, _, _]) (fn := Tryz.f38) ⟨Tryz.func38, rfl, by kernel_rfl, by kernel_rfl⟩ 73 rfl ?_
  refine x_seq (x_region ?_)
  refine tl_e rfl (e_box rfl (fun b1 => ?_))
  refine tl_e rfl (e_box rfl (fun b2 => ?_))
  refine tl_y rfl (y_assign rfl) ?_
  refine tl_y rfl (y_assign rfl) ?_
  refine tl_nil (.then_normal ?_)
  refine .sub (F' := [(2, _), (3, _), (4, _), (5, _)]) (.cons rfl (.cons rfl (.cons rfl (.cons rfl .nil)))) ?_
  refine x_seq (x_region ?_)
  refine tl_y rfl (y_loadAgg rfl rfl (.own inferInstance inferInstance)) ?_
  refine tl_y rfl (y_loadAgg rfl rfl (.own inferInstance inferInstance)) ?_
  refine tl_e rfl (e_call' rfl (Rmay_spec x) ?_)
  rintro _ _ _ _ ⟨rfl, rfl, rfl⟩
  refine tl_y rfl (y_assign (v := .int _ _) rfl) ?_
  refine tl_nil (.then_normal ?_)
  refine x_seq (x_seq (x_region ?_))
  refine tl_y rfl (y_move (v := .int _ _) rfl) ?_
  refine tl_y rfl (y_neq rfl rfl) ?_
  refine tl_nil (.then_normal ?_)
  refine .sub (F' := [(2, _), (3, _), (4, _), (5, _), (10, _), (21, _)]) (.cons rfl (.cons rfl (.cons rfl (.cons rfl (.cons rfl (.cons rfl .nil)))))) ?_
  refine x_cond rfl (fun hc1 => ?_) (fun hc1 => ?_)
  ·
    refine x_seq (x_region ?_)
    refine tl_y rfl (y_move (v := .int _ _) rfl) ?_
    refine tl_y rfl (y_assign rfl) ?_
    refine tl_y rfl (y_assign (v := .int _ _) rfl) ?_
    refine tl_nil (.then_normal ?_)
    refine .sub (F' := [(8, _), (9, _)]) (.cons rfl (.cons rfl .nil)) ?_
    refine x_ret (.then_ret (.dropTo L inferInstance (ret2 rfl rfl rfl (Le.refl _) ⟨rfl, _, _, _, by rw [lsigE, if_pos hc1], by rw [lsigV, lsigE, if_pos hc1, if_neg hc1]; exact Row.nil _ _⟩)))
  ·
    have hmay : mayC x nl sl = 0 := Classical.not_not.1 hc1
    obtain ⟨hok, hH10, hy⟩ := mayC_zero hmay
    obtain ⟨n, w, p, H, hx⟩ := okP_facts hok
    obtain ⟨z1, z2, z3, z4, z5⟩ := hx.sizes
    have hn32 := hx.o.n32
    have hnl := hy.2.1
    have hnn := hname.size
    have hpw := pw2_25 hx.h2
    have hxt := x.t.toNat_lt
    refine x_skip (.then_normal ?_)
    refine x_seq (x_region ?_)
    refine tl_y rfl (y_loadAgg rfl rfl (.own inferInstance inferInstance)) ?_
    refine tl_e rfl (e_call' rfl (RSets12_spec x) ?_)
    rintro _ _ _ _ ⟨rfl, rfl, rfl⟩
    refine tl_y rfl (y_move (v := .tuple _) rfl) ?_
    refine tl_y rfl (y_extract rfl) ?_
    refine tl_y rfl (y_extract rfl) ?_
    refine tl_y rfl (y_extract rfl) ?_
    refine tl_e rfl (e_alloc (fun b3 => ?_))
    refine tl_e rfl (e_alloc (fun b4 => ?_))
    refine tl_e rfl (e_store rfl rfl (by rfl) (by rfl) inferInstance inferInstance inferInstance ?_)
    refine tl_e rfl (e_store rfl rfl (by rfl) (by rfl) inferInstance inferInstance inferInstance ?_)
    refine tl_y rfl (y_assign (v := .bool _) rfl) ?_
    refine tl_nil (.then_normal ?_)
    refine .sub (F' := [(2, _), (3, _), (4, _), (5, _), (11, _), (12, _)]) (.cons rfl (.cons rfl (.cons rfl (.cons rfl (.cons rfl (.cons rfl .nil)))))) ?_
    refine x_seq (x_seq (x_region ?_))
    refine tl_y rfl (y_move (v := .slice _ _ _) rfl) ?_
    refine tl_y rfl (y_len rfl) ?_
    refine tl_y rfl (y_gtr rfl rfl) ?_
    refine tl_nil (.then_normal ?_)
    refine x_cond rfl (fun hc2 => ?_) (fun hc2 => ?_)
    ·
      refine x_seq (x_region ?_)
      refine tl_y rfl (y_assign rfl) ?_
      refine tl_y rfl (y_assign rfl) ?_
      refine tl_nil (.then_normal ?_)
      refine .sub (F' := [(8, _), (9, _)]) (.cons rfl (.cons rfl .nil)) ?_
      refine x_ret (.then_ret (.dropTo L inferInstance (ret2 rfl rfl rfl (Le.refl _) (by
        have e : lsigE x nl sl q.toNat tl = 1 := by rw [lsigE, if_neg hc1, if_pos (by omega)]
        exact ⟨rfl, _, _, _, by rw [e], by rw [lsigV, e]; exact Row.nil _ _⟩))))
    ·
      refine x_skip (.then_normal ?_)
      refine x_seq (x_seq (x_region ?_))
      refine tl_y rfl (y_move (v := .int _ _) rfl) ?_
      refine tl_y rfl (y_convN64 rfl (by omega)) ?_
      refine tl_y rfl (y_loadAgg rfl rfl (.own inferInstance inferInstance)) ?_
      refine tl_e rfl (e_call' rfl (RLeaves_spec (treeV x.t)) ?_)
      rintro _ _ _ _ ⟨rfl, rfl, rfl⟩
      rw [hx.lv]
      refine tl_y rfl (y_geq rfl rfl) ?_
      refine tl_nil (.then_normal ?_)
      refine .sub (F' := [(2, _), (3, _), (4, _), (5, _), (11, _), (12, _), (36, _)]) (.cons rfl (.cons rfl (.cons rfl (.cons rfl (.cons rfl (.cons rfl (.cons rfl .nil))))))) ?_
      refine x_cond rfl (fun hc3 => ?_) (fun hc3 => ?_)
      ·
        refine x_seq (x_region ?_)
        refine tl_y rfl (y_assign rfl) ?_
        refine tl_y rfl (y_assign rfl) ?_
        refine tl_nil (.then_normal ?_)
        refine .sub (F' := [(8, _), (9, _)]) (.cons rfl (.cons rfl .nil)) ?_
        refine x_ret (.then_ret (.dropTo L inferInstance (ret2 rfl rfl rfl (Le.refl _) (by
          have e : lsigE x nl sl q.toNat tl = 9 := by rw [lsigE, if_neg hc1, if_neg (by omega), hx.lv, if_pos (by omega)]
          exact ⟨rfl, _, _, _, by rw [e], by rw [lsigV, e]; exact Row.nil _ _⟩))))
      ·
        have hq : q.toNat < pw2 H := by omega
        have htl : tl ≤ 65536 := by omega
        have hE0 : lsigE x nl sl q.toNat tl = 0 := by rw [lsigE, if_neg hc1, if_neg (by omega), hx.lv, if_neg (by omega)]
        obtain ⟨sgl, _, _, _⟩ := sig_parts hx.o (name := name) (by omega) sec q.toNat text
        obtain ⟨H0, hH0⟩ : ∃ H0, H0 = putB q.toNat 4 ++ (sigB (otsV x.o) name sec q.toNat text ++ putB x.t.toNat 4) := ⟨_, rfl⟩
        have hfl : [putB q.toNat 4, sigB (otsV x.o) name sec q.toNat text, putB x.t.toNat 4].flatten = H0 := by rw [hH0]; simp
        have hfll : H0.length = 8 + sizeN (otsV x.o) := by rw [hH0, List.length_append, List.length_append, putB_length, putB_length, sgl]; omega
        refine x_skip (.then_normal ?_)
        refine x_seq ?_
        refine x_meet (I := fun F D M3 L3 => ∃ (A : Option Addr) (c : Nat) (E : Own), F = [(2, .int .u32 (q.toNat : Int)), (5, .pointer (some ⟨b2, 0, none⟩)), (11, .pointer (some ⟨b3, 0, none⟩)), (12, .pointer (some ⟨b4, 0, none⟩)), (14, .slice A H0.length c)] ∧ D = [] ∧ Le M M3 ∧ OwnRow 5 1 A H0.length c (H0.map bv) E ∧ DropTo L3 (E ++ ((b4, .cells (List.toArray (treeV x.t).cells) 29 (0, 0)) :: (b3, .cells (List.toArray (otsV x.o).cells) 27 (0, 0)) :: (b2, .cells (List.toArray (seedC NA nl nc SA sl sc)) 49 (0, 0)) :: L))) ?_ (fun Jd9 => ?_)
        ·
          rintro _ _ M1 L1 ⟨A0, c0, E0, rfl, rfl, hd, hE0', hdr⟩  -- slots [2, 5, 11, 12, 14]
          refine .dropTo _ hdr ?_
          refine x_seq ?_
          have he : Le M1 M1 := Le.refl _
          refine x_draw 10 hmix rfl ?_
          refine to_y 0 rfl (by kernel_rfl) rfl (y_loadAgg rfl rfl (.own inferInstance inferInstance)) ?_
          refine to_p 1 rfl (by kernel_rfl) rfl (y_fieldAddr rfl) ?_
          refine to_y 2 rfl (by kernel_rfl) rfl (y_load rfl rfl (.own inferInstance inferInstance)) ?_
          refine to_y 3 rfl (by kernel_rfl) rfl (y_loadAgg rfl rfl (.own inferInstance inferInstance)) ?_
          refine to_y 4 rfl (by kernel_rfl) rfl (y_loadAgg rfl rfl (.own inferInstance inferInstance)) ?_
          refine to_y 5 rfl (by kernel_rfl) rfl (y_loadAgg rfl rfl (.own inferInstance inferInstance)) ?_
          refine to_p 7 rfl (by kernel_rfl) rfl (y_move (v := .int _ _) rfl) ?_
          refine to_e 6 rfl (by kernel_rfl) rfl (e_call' rfl (RKeys_spec hx hy (hname.mono hd) (hsec.mono hd)) ?_)
          rintro _ M4 _ hM4 ⟨rfl, A4, c4, kvs, rfl, hrow, hB⟩
          replace hd := hd.trans hM4
          replace he := he.trans hM4
          refine ⟨⟨he, Keeps.mem⟩, ?_⟩
          refine to_e 8 rfl (by kernel_rfl) rfl (e_call' rfl (RWay_spec (treeV x.t) (hname.mono hd) hrow hB (keysB_le _ _ _ _) q) ?_)
          rintro _ M5 _ hM5 ⟨rfl, AW, mW, cW, wvs, rfl, hwr, hwB⟩
          rw [if_pos ⟨⟨by rw [hnl]; exact hx.s, hH10, hx.lv.symm⟩, hq⟩] at hwB
          replace hd := hd.trans hM5
          replace he := he.trans hM5
          obtain ⟨W, hW⟩ : ∃ W, W = wayB (treeV x.t) name (keysX x name sec) q.toNat (treeV x.t).h.toNat := ⟨_, rfl⟩
          have hwfl := way_le2 (x := x) name sec q.toNat (treeV x.t).h.toNat
          have hwl : W.length = H := by rw [hW, wayB_len, hx.th]; rfl
          rw [← hW] at hwB hwfl
          have hHN : (treeV x.t).h.toNat ≤ 25 := by rw [hx.th]; exact hx.h2
          have hwvl := hwB.len
          obtain rfl : mW = H := by have := hwr.len; omega
          have hmW := hx.h2
          obtain ⟨g, o, rfl, hcell⟩ := hwr.addr (by have := hx.h1; omega)
          refine ⟨⟨he, Keeps.mem⟩, ?_⟩
          refine to_p 9 rfl (by kernel_rfl) rfl (y_assign (v := .slice _ _ _) rfl) ?_
          refine to_nil (by kernel_rfl) (.then_normal ?_)
          refine .sub (F' := [(14, _), (15, _)]) (.cons rfl (.cons rfl .nil)) ?_
          refine x_seq (x_seq (x_region ?_))
          refine tl_y rfl (y_assign rfl) ?_
          refine tl_nil (.then_normal ?_)
          refine x_block ?_
          refine x_loop (I := fun m' F D M8 L8 => ∃ (i : Nat) (A : Option Addr) (m c : Nat) (E : Own), m' = mW - i ∧ i ≤ mW ∧ m = (H0 ++ (W.take i).flatten).length ∧ OwnRow 5 1 A m c ((H0 ++ (W.take i).flatten).map bv) E ∧ D = [] ∧ M5 = M8 ∧ L8 = E ++ ((b4, .cells (List.toArray (treeV x.t).cells) 29 (0, 0)) :: (b3, .cells (List.toArray (otsV x.o).cells) 27 (0, 0)) :: (b2, .cells (List.toArray (seedC NA nl nc SA sl sc)) 49 (0, 0)) :: L) ∧ F = [(14, .slice A m c), (15, .slice (some ⟨g, o, none⟩) mW cW), (16, .int .i64 (i : Int))]) (mW) (F0 := [(14, _), (15, _), (16, _)]) ?_ (.cons rfl (.cons rfl (.cons rfl .nil))) ?_  -- slots [14, 15, 16], written [14, 16]
          · exact ⟨0, A0, _, c0, E0, rfl, by omega, by rw [List.take_zero, List.flatten_nil, List.append_nil], by rw [List.take_zero, List.flatten_nil, List.append_nil]; exact hE0', rfl, rfl, rfl, rfl⟩
          rintro m _ _ M8 _ ⟨i, A, m, c, E, rfl, hi, hm, hE, rfl, rfl, rfl, rfl⟩
          refine x_seq (x_seq (x_region ?_))
          refine tl_y rfl (y_move (v := .int _ _) rfl) ?_
          refine tl_y rfl (y_move (v := .slice _ _ _) rfl) ?_
          refine tl_y rfl (y_len rfl) ?_
          refine tl_y rfl (y_lss rfl rfl) ?_
          refine tl_nil (.then_normal ?_)
          refine x_cond rfl (fun hc4 => ?_) (fun hc4 => ?_)
          ·
            have hip : i < mW := by omega
            obtain ⟨A2, n2, c2, hv2, hb2⟩ := hwB.get i (by omega)
            have hn2 := hb2.size
            have hf1 := flatten_take_le W (i + 1)
            have hf2 : (W.take (i + 1)).flatten = (W.take i).flatten ++ W.getD i [] := by
              rw [take_snoc W i [] (by omega), List.flatten_append, List.flatten_singleton]
            have hf3 : (W.take (i + 1)).flatten.length = (W.take i).flatten.length + n2 := by rw [hf2, List.length_append, hn2]
            rw [List.length_append] at hm
            refine x_skip (.then_normal ?_)
            refine .sub (F' := [(14, _), (15, _), (16, _)]) (.cons rfl (.cons rfl (.cons rfl .nil))) ?_
            refine x_seq ?_
            refine x_block ?_
            refine x_region ?_
            refine tl_y rfl (y_move (v := .slice _ _ _) rfl) ?_
            refine tl_y rfl (y_move (v := .slice _ _ _) rfl) ?_
            refine tl_y rfl (y_move (v := .int _ _) rfl) ?_
            refine tl_y rfl (y_indexAddr rfl rfl (by omega)) ?_
            refine tl_y rfl (y_load rfl rfl (.at_ (hcell _ i _ hv2) (by omega))) ?_
            refine tl_e rfl (e_append (by decide) rfl rfl hE (.row hb2) (all_one_bv _) (by omega) (by omega) (fun A3 c3 E3 hE3 => ?_))
            rw [← List.map_append, List.append_assoc, ← hf2] at hE3
            refine tl_y rfl (y_assign (v := .slice _ _ _) rfl) ?_
            refine tl_nil (.block_normal (.then_normal ?_))
            refine .sub (F' := [(14, _), (15, _), (16, _)]) (.cons rfl (.cons rfl (.cons rfl .nil))) ?_
            refine x_region ?_
            refine tl_y rfl (y_move (v := .int _ _) rfl) ?_
            refine tl_y rfl (y_addI rfl rfl (by omega)) ?_
            refine tl_y rfl (y_assign (v := .int _ _) rfl) ?_
            refine tl_nil (.loop_next (m' := mW - (i + 1)) (by omega) (F' := [(14, _), (15, _), (16, _)]) (.cons rfl (.cons rfl (.cons rfl .nil))) ?_)
            exact ⟨i + 1, A3, m + n2, c3, E3, rfl, by omega, by rw [List.length_append, hf3]; omega, hE3, rfl, rfl, rfl, rfl⟩
          ·
            obtain rfl : i = mW := by omega
            refine .pubRow hE (fun M9 hM9 hrow9 => ?_)
            refine x_exit (.then_exit (.loop_exit (.block_exit (.then_normal ?_))))
            refine .sub (F' := [(14, _)]) (.cons rfl .nil) ?_
            refine x_seq (x_region ?_)
            refine tl_y rfl (y_move (v := .slice _ _ _) rfl) ?_
            refine tl_y rfl (y_assign (v := .slice _ _ _) rfl) ?_
            refine tl_y rfl (y_assign rfl) ?_
            refine tl_nil (.then_normal ?_)
            refine x_ret (.dropTo L inferInstance <| ret2 rfl rfl rfl (hd.trans hM9) ⟨rfl, _, _, _, by rw [hE0], by
              rw [lsigV, if_pos hE0, lsigB, ← hW]
              rw [show i = W.length by omega, List.take_length, hH0, List.append_assoc, List.append_assoc] at hrow9
              exact hrow9⟩)
        ·
          have he : Le M M := Le.refl _
          refine x_draw 15 hmix rfl ?_
          refine to_p 0 rfl (by kernel_rfl) rfl (y_move (v := .int _ _) rfl) ?_
          refine to_p 1 rfl (by kernel_rfl) rfl (y_convN64 rfl (by omega)) ?_
          refine to_y 3 rfl (by kernel_rfl) rfl (y_loadAgg rfl rfl (.own inferInstance inferInstance)) ?_
          refine to_y 4 rfl (by kernel_rfl) rfl (y_loadAgg rfl rfl (.own inferInstance inferInstance)) ?_
          refine to_p 5 rfl (by kernel_rfl) rfl (y_move (v := .int _ _) rfl) ?_
          refine to_p 6 rfl (by kernel_rfl) rfl (y_move (v := .slice _ _ _) rfl) ?_
          refine to_p 8 rfl (by kernel_rfl) rfl (y_fieldAddr rfl) ?_
          refine to_y 9 rfl (by kernel_rfl) rfl (y_load rfl rfl (.own inferInstance inferInstance)) ?_
          refine to_p 10 rfl (by kernel_rfl) rfl (y_convN64 rfl (by omega)) ?_
          refine to_e 2 rfl (by kernel_rfl) rfl (e_call' rfl (RPutV_spec q.toNat 4 (by omega) (by omega)) ?_)
          rintro _ M6 _ hM6 ⟨rfl, AQ, cQ, rfl, hAQ⟩
          replace he := he.trans hM6
          try replace hAS := hAS.mono hM6
          try replace hAT := hAT.mono hM6
          refine ⟨⟨he, Keeps.mem⟩, ?_⟩
          refine to_e 7 rfl (by kernel_rfl) rfl (e_call' rfl (RoSign_spec (otsV x.o) (hname.mono he) (hsec.mono he) q (htext.mono he)) ?_)
          rintro _ M7 _ hM7 ⟨rfl, AS, mS, cS, rfl, hAS⟩
          rw [if_pos ⟨hy, htl⟩] at hAS
          replace he := he.trans hM7
          try replace hAQ := hAQ.mono hM7
          try replace hAT := hAT.mono hM7
          refine ⟨⟨he, Keeps.mem⟩, ?_⟩
          refine to_e 11 rfl (by kernel_rfl) rfl (e_call' rfl (RPutV_spec x.t.toNat 4 (by omega) (by omega)) ?_)
          rintro _ M8 _ hM8 ⟨rfl, AT, cT, rfl, hAT⟩
          replace he := he.trans hM8
          try replace hAQ := hAQ.mono hM8
          try replace hAS := hAS.mono hM8
          refine ⟨⟨he, Keeps.mem⟩, ?_⟩
          refine to_e 12 rfl (by kernel_rfl) rfl (e_buildSlice rfl (by decide) (fun b7 => ?_))
          refine ⟨⟨he, Keeps.mem⟩, ?_⟩
          refine .pub b7 inferInstance (fun M10 hM10 hb7 => ?_)
          have he6 := he.trans hM10
          refine to_e 13 rfl (by kernel_rfl) rfl (e_call' rfl (RCat_own (Row.whole hb7 rfl (by omega)) (.cons (hAQ.mono hM10) (.cons (hAS.mono hM10) (.cons (hAT.mono hM10) .nil))) (by rw [hfl]; omega)) ?_)
          rintro _ _ _ _ ⟨rfl, A7, c7, E7, rfl, hE7, rfl⟩
          rw [hfl] at hE7
          rw [hfl]
          refine ⟨⟨he6, Keeps.mem⟩, ?_⟩
          refine to_p 14 rfl (by kernel_rfl) rfl (y_assign (v := .slice _ _ _) rfl) ?_
          refine to_nil (by kernel_rfl) (.then_normal (.sub (F' := [(2, _), (5, _), (11, _), (12, _), (14, _)]) (.cons rfl (.cons rfl (.cons rfl (.cons rfl (.cons rfl .nil))))) (Jd9 _ _ _ _ ?_)))
          exact ⟨A7, c7, E7, rfl, rfl, he6, hE7, inferInstance⟩
theorem RLight_spec (x : PairV) :
    Con Tryz.prog 34 #[.agg (List.toArray x.cells)] G M L (fun v M' L' => M = M' ∧ L = L' ∧ v = .bool (decide (¬ okP x ∨ 10 < (treeV x.t).h ∨ ((otsV x.o).w ≤ 4 ∧ (otsV x.o).p ≤ 140) ∧ (treeV x.t).h ≤ 2))) noPanic := by
  refine enter (args := [_]) (fn := Tryz.f34) ⟨Tryz.func34, rfl, by kernel_rfl, by kernel_rfl⟩ 28 rfl ?_
  refine x_seq (x_region ?_)
  refine tl_e rfl (e_box rfl (fun b1 => ?_))
  refine tl_y rfl (y_assign rfl) ?_
  refine tl_nil (.then_normal ?_)
  refine x_seq (x_region ?_)
  refine tl_y rfl (y_loadAgg rfl rfl (.own inferInstance inferInstance)) ?_
  refine tl_e rfl (e_call' rfl (RSets12_spec x) ?_)
  rintro _ _ _ _ ⟨rfl, rfl, rfl⟩
  refine tl_y rfl (y_move (v := .tuple _) rfl) ?_
  refine tl_y rfl (y_extract rfl) ?_
  refine tl_y rfl (y_extract rfl) ?_
  refine tl_y rfl (y_extract rfl) ?_
  refine tl_e rfl (e_alloc (fun b2 => ?_))
  refine tl_e rfl (e_alloc (fun b3 => ?_))
  refine tl_e rfl (e_store rfl rfl (by rfl) (by rfl) inferInstance inferInstance inferInstance ?_)
  refine tl_e rfl (e_store rfl rfl (by rfl) (by rfl) inferInstance inferInstance inferInstance ?_)
  refine tl_y rfl (y_assign (v := .bool _) rfl) ?_
  refine tl_nil (.then_normal ?_)
  refine .sub (F' := [(3, _), (4, _), (5, _)]) (.cons rfl (.cons rfl (.cons rfl .nil))) ?_
  refine x_seq (x_region ?_)
  refine tl_y rfl (y_move (v := .bool _) rfl) ?_
  refine tl_y rfl (y_notd rfl) ?_
  refine tl_y rfl (y_move (v := .bool _) rfl) ?_
  refine tl_cases (s := 14) rfl (fun hk1 => ?_) (fun hk1 => ?_)
  ·
    refine tl_skip rfl ?_
    refine tl_skip rfl ?_
    refine tl_skip rfl ?_
    refine tl_y rfl (y_pickT rfl rfl) ?_
    refine tl_y rfl (y_move (v := .bool _) rfl) ?_
    refine tl_skip rfl ?_
    refine tl_skip rfl ?_
    refine tl_skip rfl ?_
    refine tl_skip rfl ?_
    refine tl_skip rfl ?_
    refine tl_skip rfl ?_
    refine tl_skip rfl ?_
    refine tl_y rfl (y_pickT rfl rfl) ?_
    refine tl_y rfl (y_assign (v := .bool _) rfl) ?_
    refine tl_nil (.then_normal ?_)
    refine .sub (F' := [(2, _)]) (.cons rfl .nil) ?_
    refine x_ret (.dropTo L inferInstance (ret1 rfl rfl (Le.refl _) ⟨rfl, rfl, congrArg Value.bool (decide_eq_true (.inl hk1)).symm⟩))
  ·
    refine tl_y rfl (y_fieldAddr rfl) ?_
    refine tl_y rfl (y_load rfl rfl (.own inferInstance inferInstance)) ?_
    refine tl_y rfl (y_gtr rfl rfl) ?_
    refine tl_y rfl (y_pickF rfl rfl) ?_
    refine tl_y rfl (y_move (v := .bool _) rfl) ?_
    refine tl_cases (s := 19) rfl (fun hk2 => ?_) (fun hk2 => ?_)
    ·
      refine tl_skip rfl ?_
      refine tl_skip rfl ?_
      refine tl_skip rfl ?_
      refine tl_skip rfl ?_
      refine tl_skip rfl ?_
      refine tl_skip rfl ?_
      refine tl_skip rfl ?_
      refine tl_y rfl (y_pickT rfl rfl) ?_
      refine tl_y rfl (y_assign (v := .bool _) rfl) ?_
      refine tl_nil (.then_normal ?_)
      refine .sub (F' := [(2, _)]) (.cons rfl .nil) ?_
      refine x_ret (.dropTo L inferInstance (ret1 rfl rfl (Le.refl _) ⟨rfl, rfl, congrArg Value.bool (decide_eq_true (.inr (.inl hk2))).symm⟩))
    ·
      refine tl_y rfl (y_loadAgg rfl rfl (.own inferInstance inferInstance)) ?_
      refine tl_e rfl (e_call' rfl (RoLight_spec (otsV x.o)) ?_)
      rintro _ _ _ _ ⟨rfl, rfl, rfl⟩
      refine tl_y rfl (y_move (v := .bool _) rfl) ?_
      refine tl_cases (s := 22) rfl (fun hk3 => ?_) (fun hk3 => ?_)
      ·
        refine tl_y rfl (y_fieldAddr rfl) ?_
        refine tl_y rfl (y_load rfl rfl (.own inferInstance inferInstance)) ?_
        refine tl_y rfl (y_leq rfl rfl) ?_
        refine tl_y rfl (y_pickT rfl rfl) ?_
        refine tl_y rfl (y_pickF rfl rfl) ?_
        refine tl_y rfl (y_assign (v := .bool _) rfl) ?_
        refine tl_nil (.then_normal ?_)
        refine .sub (F' := [(2, _)]) (.cons rfl .nil) ?_
        refine x_ret (.dropTo L inferInstance (ret1 rfl rfl (Le.refl _) ⟨rfl, rfl, by
          congr 1
          rw [decide_eq_decide]
          exact ⟨fun h => .inr (.inr ⟨hk3, h⟩), fun h => by rcases h with h | h | h; exact absurd h hk1; exact absurd h hk2; exact h.2⟩⟩))
      ·
        refine tl_skip rfl ?_
        refine tl_skip rfl ?_
        refine tl_skip rfl ?_
        refine tl_y rfl (y_pickF rfl rfl) ?_
        refine tl_y rfl (y_pickF rfl rfl) ?_
        refine tl_y rfl (y_assign (v := .bool _) rfl) ?_
        refine tl_nil (.then_normal ?_)
        refine .sub (F' := [(2, _)]) (.cons rfl .nil) ?_
        refine x_ret (.dropTo L inferInstance (ret1 rfl rfl (Le.refl _) ⟨rfl, rfl, congrArg Value.bool (decide_eq_false (fun h => by rcases h with h | h | h; exact hk1 h; exact hk2 h; exact hk3 h.1)).symm⟩))
end
end Go.Proofs.YtiimjodbaogjbaaGreatDoor
set_option linter.unusedVariables false
set_option linter.unusedSimpArgs false
set_option linter.constructorNameAsVariable false
namespace Go.Proofs.YtiimjodbaogjbaaGreatDoor
open Go Go.Eng
def p12 : PairV := ⟨7, 4026531846⟩
theorem f12 : okP p12 ∧ (treeV p12.t).h = 2 ∧ (otsV p12.o).n = 24 ∧ szP p12 = 48 ∧ szS p12 = 1308 ∧ takeE p12 1310 = 0 ∧ sigN p12 = 1308 := by decide +kernel
theorem f12b : ¬ okP ⟨3, 4026531846⟩ ∧ pairE [0, 0, 0, 5, 0, 0, 0, 3] = 5 ∧ mayC ⟨0, 0⟩ 0 0 = 4 ∧ ¬ okP ⟨3, 25⟩ ∧ okP ⟨3, 9⟩ := by decide +kernel
section
variable {G : World} {M : Mem} {L : Own}
theorem awake12_spec (hg : LmG M) : Con Tryz.prog 15 #[] G M L (fun v M' L' => L' = L ∧ v = .bool true) noPanic := by
  obtain ⟨fok, fh, fn, fz, fs, ft, fsn⟩ := f12
  obtain ⟨g1, g2, g3, g4, g5⟩ := f12b
  refine enter (args := []) (fn := Tryz.f15) ⟨Tryz.func15, rfl, by kernel_rfl, by kernel_rfl⟩ 88 rfl ?_
  refine x_seq (x_region ?_)
  refine tl_y rfl (y_assign rfl) ?_
  refine tl_nil (.then_normal ?_)
  refine x_seq (x_region ?_)
  refine tl_y rfl (y_build rfl) ?_
  refine tl_e rfl (e_call' rfl (Sizes_spec hg p12) ?_)
  rintro _ M1 L hM1 ⟨rfl, rfl⟩
  have hd := hM1
  rw [fz, fs]
  refine tl_y rfl (y_move (v := .tuple _) rfl) ?_
  refine tl_y rfl (y_extract rfl) ?_
  refine tl_y rfl (y_extract rfl) ?_
  refine tl_y rfl (y_assign (v := .int _ _) rfl) ?_
  refine tl_y rfl (y_assign (v := .int _ _) rfl) ?_
  refine tl_nil (.then_normal ?_)
  refine .sub (F' := [(1, _), (2, _)]) (.cons rfl (.cons rfl .nil)) ?_
  refine x_seq (x_region ?_)
  refine tl_y rfl (y_build rfl) ?_
  refine tl_e rfl (e_call' rfl (Sizes_spec (hg.mono hd) ⟨3, 4026531846⟩) ?_)
  rintro _ M2 L hM2 ⟨rfl, rfl⟩
  replace hd := hd.trans hM2
  rw [show szP ⟨3, 4026531846⟩ = 0 by rw [szP, if_neg g1], show szS ⟨3, 4026531846⟩ = 0 by rw [szS, if_neg g1]]
  refine tl_y rfl (y_move (v := .tuple _) rfl) ?_
  refine tl_y rfl (y_extract rfl) ?_
  refine tl_y rfl (y_extract rfl) ?_
  refine tl_y rfl (y_assign (v := .int _ _) rfl) ?_
  refine tl_y rfl (y_assign (v := .int _ _) rfl) ?_
  refine tl_nil (.then_normal ?_)
  refine .sub (F' := [(1, _), (2, _), (3, _), (4, _)]) (.cons rfl (.cons rfl (.cons rfl (.cons rfl .nil)))) ?_
  refine x_seq (x_region ?_)
  refine tl_e rfl (e_buildSlice rfl (by decide) (fun b1 => ?_))
  refine .pub b1 inferInstance (fun M3 hM3 hb1 => ?_)
  replace hd := hd.trans hM3
  refine tl_e rfl (e_call' rfl (Pair_spec (bs := [0, 0, 0, 5, 0, 0, 0, 3]) (hg.mono hd) (Row.whole hb1 rfl (by omega)) (by omega)) ?_)
  rintro _ M4 L hM4 ⟨rfl, rfl⟩
  replace hd := hd.trans hM4
  rw [g2]
  refine tl_y rfl (y_move (v := .tuple _) rfl) ?_
  refine tl_y rfl (y_extract rfl) ?_
  refine tl_y rfl (y_extract rfl) ?_
  refine tl_e rfl (e_alloc (fun b1 => ?_))
  refine tl_e rfl (e_store rfl rfl (by rfl) (by rfl) inferInstance inferInstance inferInstance ?_)
  refine tl_y rfl (y_assign (v := .int _ _) rfl) ?_
  refine tl_nil (.then_normal ?_)
  refine .sub (F' := [(1, _), (2, _), (3, _), (4, _), (6, _)]) (.cons rfl (.cons rfl (.cons rfl (.cons rfl (.cons rfl .nil))))) ?_
  refine x_seq (x_region ?_)
  refine tl_y rfl (y_build rfl) ?_
  refine tl_y rfl (y_build rfl) ?_
  refine tl_e rfl (e_call' rfl (Public_lspec (hg.mono hd) ⟨0, 0⟩ (name := []) (sec := []) (NA := none) (nl := 0) (nc := 0) (SA := none) (sl := 0) (sc := 0) (Row.nil _ _) (Row.nil _ _)) ?_)
  rintro _ M5 _ hM5 ⟨rfl, A5, m5, c5, rfl, hA5⟩
  replace hd := hd.trans hM5
  rw [g3]
  refine tl_y rfl (y_move (v := .tuple _) rfl) ?_
  refine tl_y rfl (y_extract rfl) ?_
  refine tl_y rfl (y_extract rfl) ?_
  refine tl_y rfl (y_assign (v := .slice _ _ _) rfl) ?_
  refine tl_y rfl (y_assign (v := .int _ _) rfl) ?_
  refine tl_nil (.then_normal ?_)
  refine .sub (F' := [(1, _), (2, _), (3, _), (4, _), (6, _), (8, _)]) (.cons rfl (.cons rfl (.cons rfl (.cons rfl (.cons rfl (.cons rfl .nil)))))) ?_
  refine x_seq (x_region ?_)
  refine tl_y rfl (y_build rfl) ?_
  refine tl_y rfl (y_move (v := .int _ _) rfl) ?_
  refine tl_y rfl (y_addI rfl rfl (by omega)) ?_
  refine tl_e rfl (e_make1 rfl rfl (by omega) (by omega) (by omega) (by omega) (fun b3 => ?_))
  rw [show (((1308 : Nat) : Int) + 2).toNat = 1310 from rfl]
  refine .pub b3 inferInstance (fun M6 hM6 hb3 => ?_)
  replace hd := hd.trans hM6
  have hz : Bytes M6 (some ⟨b3, 0, none⟩) 1310 1310 (List.replicate 1310 0) := Bytes.zeros hb3 (by omega)
  refine tl_e rfl (e_call' rfl (Take_spec (hg.mono hd) p12 hz (by omega)) ?_)
  rintro _ M7 _ hM7 ⟨rfl, A7, n7, c7, A8, n8, c8, rfl, hA7, hA8⟩
  replace hd := hd.trans hM7
  rw [if_pos ft, fsn] at hA7 hA8
  have hs7 := hA7.size
  have hs8 := hA8.size
  rw [List.length_take, List.length_replicate] at hs7
  rw [List.length_drop, List.length_replicate] at hs8
  obtain rfl : n7 = 1308 := by omega
  obtain rfl : n8 = 2 := by omega
  rw [ft]
  refine tl_y rfl (y_move (v := .tuple _) rfl) ?_
  refine tl_y rfl (y_extract rfl) ?_
  refine tl_y rfl (y_extract rfl) ?_
  refine tl_y rfl (y_extract rfl) ?_
  refine tl_y rfl (y_assign (v := .slice _ _ _) rfl) ?_
  refine tl_y rfl (y_assign (v := .slice _ _ _) rfl) ?_
  refine tl_y rfl (y_assign (v := .int _ _) rfl) ?_
  refine tl_nil (.then_normal ?_)
  refine .sub (F' := [(1, _), (2, _), (3, _), (4, _), (6, _), (8, _), (9, _), (10, _), (11, _)]) (.cons rfl (.cons rfl (.cons rfl (.cons rfl (.cons rfl (.cons rfl (.cons rfl (.cons rfl (.cons rfl .nil))))))))) ?_
  refine x_seq (x_region ?_)
  refine tl_y rfl (y_move (v := .int _ _) rfl) ?_
  refine tl_y rfl (y_eql rfl rfl) ?_
  refine tl_y rfl (y_move (v := .bool _) rfl) ?_
  refine tl_set (s := 44) (u := .bool true) rfl (rfl) ?_
  refine tl_y rfl (y_move (v := .int _ _) rfl) ?_
  refine tl_y rfl (y_eql rfl rfl) ?_
  refine tl_y rfl (y_pickT rfl rfl) ?_
  refine tl_y rfl (y_move (v := .bool _) rfl) ?_
  refine tl_set (s := 48) (u := .bool true) rfl (rfl) ?_
  refine tl_y rfl (y_move (v := .int _ _) rfl) ?_
  refine tl_y rfl (y_eql rfl rfl) ?_
  refine tl_y rfl (y_pickT rfl rfl) ?_
  refine tl_y rfl (y_move (v := .bool _) rfl) ?_
  refine tl_set (s := 52) (u := .bool true) rfl (rfl) ?_
  refine tl_y rfl (y_move (v := .int _ _) rfl) ?_
  refine tl_y rfl (y_eql rfl rfl) ?_
  refine tl_y rfl (y_pickT rfl rfl) ?_
  refine tl_y rfl (y_move (v := .bool _) rfl) ?_
  refine tl_set (s := 56) (u := .bool true) rfl (rfl) ?_
  refine tl_y rfl (y_move (v := .int _ _) rfl) ?_
  refine tl_y rfl (y_eql rfl rfl) ?_
  refine tl_y rfl (y_pickT rfl rfl) ?_
  refine tl_y rfl (y_move (v := .bool _) rfl) ?_
  refine tl_set (s := 60) (u := .bool true) rfl (rfl) ?_
  refine tl_y rfl (y_move (v := .int _ _) rfl) ?_
  refine tl_y rfl (y_eql rfl rfl) ?_
  refine tl_y rfl (y_pickT rfl rfl) ?_
  refine tl_y rfl (y_move (v := .bool _) rfl) ?_
  refine tl_set (s := 64) (u := .bool true) rfl (rfl) ?_
  refine tl_y rfl (y_move (v := .int _ _) rfl) ?_
  refine tl_y rfl (y_eql rfl rfl) ?_
  refine tl_y rfl (y_pickT rfl rfl) ?_
  refine tl_y rfl (y_move (v := .bool _) rfl) ?_
  refine tl_set (s := 68) (u := .bool true) rfl (rfl) ?_
  refine tl_y rfl (y_move (v := .slice _ _ _) rfl) ?_
  refine tl_y rfl (y_len rfl) ?_
  refine tl_y rfl (y_move (v := .int _ _) rfl) ?_
  refine tl_y rfl (y_eql rfl rfl) ?_
  refine tl_y rfl (y_pickT rfl rfl) ?_
  refine tl_y rfl (y_move (v := .bool _) rfl) ?_
  refine tl_set (s := 74) (u := .bool true) rfl (rfl) ?_
  refine tl_y rfl (y_move (v := .slice _ _ _) rfl) ?_
  refine tl_y rfl (y_len rfl) ?_
  refine tl_y rfl (y_eql rfl rfl) ?_
  refine tl_y rfl (y_pickT rfl rfl) ?_
  refine tl_y rfl (y_move (v := .bool _) rfl) ?_
  refine tl_set (s := 79) (u := .bool true) rfl (rfl) ?_
  refine tl_y rfl (y_build rfl) ?_
  refine tl_e rfl (e_call' rfl (lMay_spec (hg.mono hd).hs ⟨3, 25⟩) ?_)
  rintro _ M8 _ hM8 ⟨rfl, rfl⟩
  replace hd := hd.trans hM8
  rw [decide_eq_false g4]
  refine tl_y rfl (y_eqlBool rfl rfl) ?_
  refine tl_y rfl (y_pickT rfl rfl) ?_
  refine tl_y rfl (y_move (v := .bool _) rfl) ?_
  refine tl_set (s := 84) (u := .bool true) rfl (rfl) ?_
  refine tl_y rfl (y_build rfl) ?_
  refine tl_e rfl (e_call' rfl (lMay_spec (hg.mono hd).hs ⟨3, 9⟩) ?_)
  rintro _ M9 _ hM9 ⟨rfl, rfl⟩
  replace hd := hd.trans hM9
  rw [decide_eq_true g5]
  refine tl_y rfl (y_pickT rfl rfl) ?_
  refine tl_y rfl (y_assign (v := .bool _) rfl) ?_
  refine tl_nil (.then_normal ?_)
  refine .sub (F' := [(0, _)]) (.cons rfl .nil) ?_
  refine x_ret (.dropTo L inferInstance (ret1 rfl rfl hd ⟨rfl, rfl⟩))
end
end Go.Proofs.YtiimjodbaogjbaaGreatDoor
set_option linter.unusedVariables false
set_option linter.unusedSimpArgs false
set_option linter.constructorNameAsVariable false
namespace Go.Proofs.YtiimjodbaogjbaaGreatDoor
open Go Go.Eng
section
variable {G : World} {M : Mem} {L : Own} {NA SA TA : Option Addr} {nl nc sl sc tl tc : Nat} {name sec text : List UInt8}
theorem LmsSigns_spec (hg : LmG M) (x : PairV) (hname : Bytes M NA nl nc name) (hsec : Bytes M SA sl sc sec) (q : UInt32) (htext : Bytes M TA tl tc text) :
    Con Tryz.prog 6 #[.agg (List.toArray x.cells), .agg (List.toArray (seedC NA nl nc SA sl sc)), .agg (List.toArray [.int .u32 (q.toNat : Int), .slice TA tl tc])] G M L (fun v M' L' => v = .bool true) noPanic := by
  refine enter (args := [_, _, _]) (fn := Tryz.f6) ⟨Tryz.func6, rfl, by kernel_rfl, by kernel_rfl⟩ 127 rfl ?_
  refine x_seq (x_region ?_)
  refine tl_e rfl (e_box rfl (fun b1 => ?_))
  refine tl_e rfl (e_box rfl (fun b2 => ?_))
  refine tl_e rfl (e_box rfl (fun b3 => ?_))
  refine tl_y rfl (y_assign rfl) ?_
  refine tl_nil (.then_normal ?_)
  refine .sub (F' := [(3, _), (4, _), (5, _)]) (.cons rfl (.cons rfl (.cons rfl .nil))) ?_
  refine x_seq (x_seq (x_region ?_))
  refine tl_e rfl (e_call' rfl (awake12_spec hg) ?_)
  rintro _ M1 _ hM1 ⟨rfl, rfl⟩
  have hd := hM1
  refine tl_y rfl (y_not rfl) ?_
  refine tl_nil (.then_normal ?_)
  refine x_false rfl (rfl) ?_
  refine x_skip (.then_normal ?_)
  refine x_seq (x_seq (x_region ?_))
  refine tl_y rfl (y_loadAgg rfl rfl (.own inferInstance inferInstance)) ?_
  refine tl_e rfl (e_call' rfl (RLight_spec x) ?_)
  rintro _ _ _ _ ⟨rfl, rfl, rfl⟩
  refine tl_y rfl (y_notd rfl) ?_
  refine tl_y rfl (y_move (v := .bool _) rfl) ?_
  refine tl_casesb (s := 27) rfl (fun hk1 => ?_) (fun hk1 => ?_)
  ·
    refine tl_skip rfl ?_
    refine tl_skip rfl ?_
    refine tl_skip rfl ?_
    refine tl_skip rfl ?_
    refine tl_y rfl (y_pickT rfl rfl) ?_
    refine tl_y rfl (y_move (v := .bool _) rfl) ?_
    refine tl_skip rfl ?_
    refine tl_skip rfl ?_
    refine tl_skip rfl ?_
    refine tl_skip rfl ?_
    refine tl_y rfl (y_pickT rfl rfl) ?_
    refine tl_y rfl (y_move (v := .bool _) rfl) ?_
    refine tl_skip rfl ?_
    refine tl_skip rfl ?_
    refine tl_skip rfl ?_
    refine tl_skip rfl ?_
    refine tl_y rfl (y_pickT rfl rfl) ?_
    refine tl_nil (.then_normal ?_)
    refine .sub (F' := [(3, _), (4, _), (5, _), (44, _)]) (.cons rfl (.cons rfl (.cons rfl (.cons rfl .nil)))) ?_
    refine x_true rfl rfl ?_
    refine x_seq (x_region ?_)
    refine tl_y rfl (y_assign rfl) ?_
    refine tl_nil (.then_normal ?_)
    refine .sub (F' := [(6, _)]) (.cons rfl .nil) ?_
    refine x_ret (.then_ret (ret1 rfl rfl hd rfl))
  ·
    refine tl_y rfl (y_fieldAddr rfl) ?_
    refine tl_y rfl (y_load rfl rfl (.own inferInstance inferInstance)) ?_
    refine tl_y rfl (y_len rfl) ?_
    refine tl_y rfl (y_gtr rfl rfl) ?_
    refine tl_y rfl (y_pickF rfl rfl) ?_
    refine tl_y rfl (y_move (v := .bool _) rfl) ?_
    refine tl_casesb (s := 33) rfl (fun hk2 => ?_) (fun hk2 => ?_)
    ·
      refine tl_skip rfl ?_
      refine tl_skip rfl ?_
      refine tl_skip rfl ?_
      refine tl_skip rfl ?_
      refine tl_y rfl (y_pickT rfl rfl) ?_
      refine tl_y rfl (y_move (v := .bool _) rfl) ?_
      refine tl_skip rfl ?_
      refine tl_skip rfl ?_
      refine tl_skip rfl ?_
      refine tl_skip rfl ?_
      refine tl_y rfl (y_pickT rfl rfl) ?_
      refine tl_nil (.then_normal ?_)
      refine .sub (F' := [(3, _), (4, _), (5, _), (44, _)]) (.cons rfl (.cons rfl (.cons rfl (.cons rfl .nil)))) ?_
      refine x_true rfl rfl ?_
      refine x_seq (x_region ?_)
      refine tl_y rfl (y_assign rfl) ?_
      refine tl_nil (.then_normal ?_)
      refine .sub (F' := [(6, _)]) (.cons rfl .nil) ?_
      refine x_ret (.then_ret (ret1 rfl rfl hd rfl))
    ·
      refine tl_y rfl (y_fieldAddr rfl) ?_
      refine tl_y rfl (y_load rfl rfl (.own inferInstance inferInstance)) ?_
      refine tl_y rfl (y_len rfl) ?_
      refine tl_y rfl (y_gtr rfl rfl) ?_
      refine tl_y rfl (y_pickF rfl rfl) ?_
      refine tl_y rfl (y_move (v := .bool _) rfl) ?_
      refine tl_casesb (s := 39) rfl (fun hk3 => ?_) (fun hk3 => ?_)
      ·
        refine tl_skip rfl ?_
        refine tl_skip rfl ?_
        refine tl_skip rfl ?_
        refine tl_skip rfl ?_
        refine tl_y rfl (y_pickT rfl rfl) ?_
        refine tl_nil (.then_normal ?_)
        refine .sub (F' := [(3, _), (4, _), (5, _), (44, _)]) (.cons rfl (.cons rfl (.cons rfl (.cons rfl .nil)))) ?_
        refine x_true rfl rfl ?_
        refine x_seq (x_region ?_)
        refine tl_y rfl (y_assign rfl) ?_
        refine tl_nil (.then_normal ?_)
        refine .sub (F' := [(6, _)]) (.cons rfl .nil) ?_
        refine x_ret (.then_ret (ret1 rfl rfl hd rfl))
      ·
        refine tl_y rfl (y_fieldAddr rfl) ?_
        refine tl_y rfl (y_load rfl rfl (.own inferInstance inferInstance)) ?_
        refine tl_y rfl (y_len rfl) ?_
        refine tl_y rfl (y_gtr rfl rfl) ?_
        refine tl_y rfl (y_pickF rfl rfl) ?_
        refine tl_nil (.then_normal ?_)
        refine .sub (F' := [(3, _), (4, _), (5, _), (44, _)]) (.cons rfl (.cons rfl (.cons rfl (.cons rfl .nil)))) ?_
        refine x_cond rfl (fun hc2 => ?_) (fun hc2 => ?_)
        ·
          refine x_seq (x_region ?_)
          refine tl_y rfl (y_assign rfl) ?_
          refine tl_nil (.then_normal ?_)
          refine .sub (F' := [(6, _)]) (.cons rfl .nil) ?_
          refine x_ret (.then_ret (ret1 rfl rfl hd rfl))
        ·
          refine x_skip (.then_normal ?_)
          refine x_seq (x_region ?_)
          refine tl_y rfl (y_loadAgg rfl rfl (.own inferInstance inferInstance)) ?_
          refine tl_y rfl (y_loadAgg rfl rfl (.own inferInstance inferInstance)) ?_
          refine tl_e rfl (e_call' rfl (Public_lspec (hg.mono hd) x (hname.mono hd) (hsec.mono hd)) ?_)
          rintro _ M3 _ hM3 ⟨rfl, A3, m3, c3, rfl, hA3⟩
          replace hd := hd.trans hM3
          refine tl_y rfl (y_move (v := .tuple _) rfl) ?_
          refine tl_y rfl (y_extract rfl) ?_
          refine tl_y rfl (y_extract rfl) ?_
          refine tl_y rfl (y_assign (v := .slice _ _ _) rfl) ?_
          refine tl_y rfl (y_assign (v := .int _ _) rfl) ?_
          refine tl_nil (.then_normal ?_)
          refine .sub (F' := [(3, _), (4, _), (5, _), (7, _), (8, _)]) (.cons rfl (.cons rfl (.cons rfl (.cons rfl (.cons rfl .nil))))) ?_
          refine x_seq (x_region ?_)
          refine tl_y rfl (y_loadAgg rfl rfl (.own inferInstance inferInstance)) ?_
          refine tl_y rfl (y_loadAgg rfl rfl (.own inferInstance inferInstance)) ?_
          refine tl_e rfl (e_call' rfl (RPublic_spec x (hname.mono hd) (hsec.mono hd)) ?_)
          rintro _ M4 _ hM4 ⟨rfl, A4, m4, c4, rfl, hA4⟩
          replace hd := hd.trans hM4
          replace hA3 := hA3.mono hM4
          refine tl_y rfl (y_move (v := .tuple _) rfl) ?_
          refine tl_y rfl (y_extract rfl) ?_
          refine tl_y rfl (y_extract rfl) ?_
          refine tl_y rfl (y_assign (v := .slice _ _ _) rfl) ?_
          refine tl_y rfl (y_assign (v := .int _ _) rfl) ?_
          refine tl_nil (.then_normal ?_)
          refine .sub (F' := [(3, _), (4, _), (5, _), (7, _), (8, _), (9, _), (10, _)]) (.cons rfl (.cons rfl (.cons rfl (.cons rfl (.cons rfl (.cons rfl (.cons rfl .nil))))))) ?_
          refine x_seq (x_region ?_)
          refine tl_y rfl (y_loadAgg rfl rfl (.own inferInstance inferInstance)) ?_
          refine tl_y rfl (y_loadAgg rfl rfl (.own inferInstance inferInstance)) ?_
          refine tl_y rfl (y_fieldAddr rfl) ?_
          refine tl_y rfl (y_load rfl rfl (.own inferInstance inferInstance)) ?_
          refine tl_y rfl (y_fieldAddr rfl) ?_
          refine tl_y rfl (y_load rfl rfl (.own inferInstance inferInstance)) ?_
          refine tl_e rfl (e_call' rfl (Sign_lspec (hg.mono hd) x (hname.mono hd) (hsec.mono hd) q (htext.mono hd)) ?_)
          rintro _ M5 _ hM5 ⟨rfl, A5, m5, c5, rfl, hA5⟩
          replace hd := hd.trans hM5
          replace hA3 := hA3.mono hM5
          replace hA4 := hA4.mono hM5
          refine tl_y rfl (y_move (v := .tuple _) rfl) ?_
          refine tl_y rfl (y_extract rfl) ?_
          refine tl_y rfl (y_extract rfl) ?_
          refine tl_y rfl (y_assign (v := .slice _ _ _) rfl) ?_
          refine tl_y rfl (y_assign (v := .int _ _) rfl) ?_
          refine tl_nil (.then_normal ?_)
          refine .sub (F' := [(3, _), (4, _), (5, _), (7, _), (8, _), (9, _), (10, _), (11, _), (12, _)]) (.cons rfl (.cons rfl (.cons rfl (.cons rfl (.cons rfl (.cons rfl (.cons rfl (.cons rfl (.cons rfl .nil))))))))) ?_
          refine x_seq (x_region ?_)
          refine tl_y rfl (y_loadAgg rfl rfl (.own inferInstance inferInstance)) ?_
          refine tl_y rfl (y_loadAgg rfl rfl (.own inferInstance inferInstance)) ?_
          refine tl_y rfl (y_fieldAddr rfl) ?_
          refine tl_y rfl (y_load rfl rfl (.own inferInstance inferInstance)) ?_
          refine tl_y rfl (y_fieldAddr rfl) ?_
          refine tl_y rfl (y_load rfl rfl (.own inferInstance inferInstance)) ?_
          refine tl_e rfl (e_call' rfl (RSign_spec x (hname.mono hd) (hsec.mono hd) q (htext.mono hd)) ?_)
          rintro _ M6 _ hM6 ⟨rfl, A6, m6, c6, rfl, hA6⟩
          replace hd := hd.trans hM6
          replace hA3 := hA3.mono hM6
          replace hA4 := hA4.mono hM6
          replace hA5 := hA5.mono hM6
          refine tl_y rfl (y_move (v := .tuple _) rfl) ?_
          refine tl_y rfl (y_extract rfl) ?_
          refine tl_y rfl (y_extract rfl) ?_
          refine tl_y rfl (y_assign (v := .slice _ _ _) rfl) ?_
          refine tl_y rfl (y_assign (v := .int _ _) rfl) ?_
          refine tl_nil (.then_normal ?_)
          refine .sub (F' := [(3, _), (7, _), (8, _), (9, _), (10, _), (11, _), (12, _), (13, _), (14, _)]) (.cons rfl (.cons rfl (.cons rfl (.cons rfl (.cons rfl (.cons rfl (.cons rfl (.cons rfl (.cons rfl .nil))))))))) ?_
          refine x_seq (x_region ?_)
          refine tl_y rfl (y_loadAgg rfl rfl (.own inferInstance inferInstance)) ?_
          refine tl_e rfl (e_call' rfl (Sizes_spec (hg.mono hd) x) ?_)
          rintro _ M7 _ hM7 ⟨rfl, rfl⟩
          replace hd := hd.trans hM7
          refine tl_y rfl (y_move (v := .tuple _) rfl) ?_
          refine tl_y rfl (y_extract rfl) ?_
          refine tl_y rfl (y_extract rfl) ?_
          refine tl_y rfl (y_assign (v := .int _ _) rfl) ?_
          refine tl_y rfl (y_assign (v := .int _ _) rfl) ?_
          refine tl_nil (.then_normal ?_)
          refine .sub (F' := [(3, _), (7, _), (8, _), (9, _), (10, _), (11, _), (12, _), (13, _), (14, _), (15, _), (16, _)]) (.cons rfl (.cons rfl (.cons rfl (.cons rfl (.cons rfl (.cons rfl (.cons rfl (.cons rfl (.cons rfl (.cons rfl (.cons rfl .nil))))))))))) ?_
          refine x_seq (x_region ?_)
          refine tl_y rfl (y_loadAgg rfl rfl (.own inferInstance inferInstance)) ?_
          refine tl_e rfl (e_call' rfl (RSizes_spec x) ?_)
          rintro _ _ _ _ ⟨rfl, rfl, rfl⟩
          refine tl_y rfl (y_move (v := .tuple _) rfl) ?_
          refine tl_y rfl (y_extract rfl) ?_
          refine tl_y rfl (y_extract rfl) ?_
          refine tl_y rfl (y_assign (v := .int _ _) rfl) ?_
          refine tl_y rfl (y_assign (v := .int _ _) rfl) ?_
          refine tl_nil (.then_normal ?_)
          refine .sub (F' := [(3, _), (7, _), (8, _), (9, _), (10, _), (11, _), (12, _), (13, _), (14, _), (15, _), (16, _), (17, _), (18, _)]) (.cons rfl (.cons rfl (.cons rfl (.cons rfl (.cons rfl (.cons rfl (.cons rfl (.cons rfl (.cons rfl (.cons rfl (.cons rfl (.cons rfl (.cons rfl .nil))))))))))))) ?_
          refine x_seq (x_region ?_)
          refine tl_y rfl (y_loadAgg rfl rfl (.own inferInstance inferInstance)) ?_
          refine tl_e rfl (e_call' rfl (RSets12_spec x) ?_)
          rintro _ _ _ _ ⟨rfl, rfl, rfl⟩
          refine tl_y rfl (y_move (v := .tuple _) rfl) ?_
          refine tl_y rfl (y_extract rfl) ?_
          refine tl_y rfl (y_extract rfl) ?_
          refine tl_y rfl (y_extract rfl) ?_
          refine tl_e rfl (e_alloc (fun b4 => ?_))
          refine tl_e rfl (e_alloc (fun b5 => ?_))
          refine tl_e rfl (e_store rfl rfl (by rfl) (by rfl) inferInstance inferInstance inferInstance ?_)
          refine tl_e rfl (e_store rfl rfl (by rfl) (by rfl) inferInstance inferInstance inferInstance ?_)
          refine tl_y rfl (y_assign (v := .bool _) rfl) ?_
          refine tl_nil (.then_normal ?_)
          refine .sub (F' := [(3, _), (7, _), (8, _), (9, _), (10, _), (11, _), (12, _), (13, _), (14, _), (15, _), (16, _), (17, _), (18, _), (21, _)]) (.cons rfl (.cons rfl (.cons rfl (.cons rfl (.cons rfl (.cons rfl (.cons rfl (.cons rfl (.cons rfl (.cons rfl (.cons rfl (.cons rfl (.cons rfl (.cons rfl .nil)))))))))))))) ?_
          refine x_seq (x_region ?_)
          refine tl_y rfl (y_move (v := .slice _ _ _) rfl) ?_
          refine tl_y rfl (y_move (v := .slice _ _ _) rfl) ?_
          refine tl_e rfl (e_call' rfl (same_spec (hA3.mono hM7) (hA4.mono hM7)) ?_)
          rintro _ _ _ _ ⟨rfl, rfl, rfl⟩
          refine tl_y rfl (y_move (v := .bool _) rfl) ?_
          refine tl_set (s := 96) (u := .bool true) rfl (congrArg Value.bool (decide_eq_true rfl)) ?_
          refine tl_y rfl (y_move (v := .int _ _) rfl) ?_
          refine tl_y rfl (y_move (v := .int _ _) rfl) ?_
          refine tl_y rfl (y_eql rfl rfl) ?_
          refine tl_y rfl (y_pickT rfl rfl) ?_
          refine tl_y rfl (y_move (v := .bool _) rfl) ?_
          refine tl_set (s := 101) (u := .bool true) rfl (congrArg Value.bool (decide_eq_true rfl)) ?_
          refine tl_y rfl (y_move (v := .slice _ _ _) rfl) ?_
          refine tl_y rfl (y_move (v := .slice _ _ _) rfl) ?_
          refine tl_e rfl (e_call' rfl (same_spec (hA5.mono hM7) (hA6.mono hM7)) ?_)
          rintro _ _ _ _ ⟨rfl, rfl, rfl⟩
          refine tl_y rfl (y_pickT rfl rfl) ?_
          refine tl_y rfl (y_move (v := .bool _) rfl) ?_
          refine tl_set (s := 106) (u := .bool true) rfl (congrArg Value.bool (decide_eq_true rfl)) ?_
          refine tl_y rfl (y_move (v := .int _ _) rfl) ?_
          refine tl_y rfl (y_move (v := .int _ _) rfl) ?_
          refine tl_y rfl (y_eql rfl rfl) ?_
          refine tl_y rfl (y_pickT rfl rfl) ?_
          refine tl_y rfl (y_move (v := .bool _) rfl) ?_
          refine tl_set (s := 111) (u := .bool true) rfl (congrArg Value.bool (decide_eq_true rfl)) ?_
          refine tl_y rfl (y_move (v := .int _ _) rfl) ?_
          refine tl_y rfl (y_move (v := .int _ _) rfl) ?_
          refine tl_y rfl (y_eql rfl rfl) ?_
          refine tl_y rfl (y_pickT rfl rfl) ?_
          refine tl_y rfl (y_move (v := .bool _) rfl) ?_
          refine tl_set (s := 116) (u := .bool true) rfl (congrArg Value.bool (decide_eq_true rfl)) ?_
          refine tl_y rfl (y_move (v := .int _ _) rfl) ?_
          refine tl_y rfl (y_move (v := .int _ _) rfl) ?_
          refine tl_y rfl (y_eql rfl rfl) ?_
          refine tl_y rfl (y_pickT rfl rfl) ?_
          refine tl_y rfl (y_move (v := .bool _) rfl) ?_
          refine tl_set (s := 121) (u := .bool true) rfl (congrArg Value.bool (decide_eq_true rfl)) ?_
          refine tl_y rfl (y_loadAgg rfl rfl (.own inferInstance inferInstance)) ?_
          refine tl_e rfl (e_call' rfl (lMay_spec (hg.mono hd).hs x) ?_)
          rintro _ M8 _ hM8 ⟨rfl, rfl⟩
          replace hd := hd.trans hM8
          refine tl_y rfl (y_move (v := .bool _) rfl) ?_
          refine tl_y rfl (y_eqlBool rfl rfl) ?_
          refine tl_y rfl (y_pickT rfl rfl) ?_
          refine tl_y rfl (y_assign (v := .bool _) rfl) ?_
          refine tl_nil (.then_normal ?_)
          refine .sub (F' := [(6, _)]) (.cons rfl .nil) ?_
          refine x_ret (ret1 rfl rfl hd (by simp))
end
end Go.Proofs.YtiimjodbaogjbaaGreatDoor
