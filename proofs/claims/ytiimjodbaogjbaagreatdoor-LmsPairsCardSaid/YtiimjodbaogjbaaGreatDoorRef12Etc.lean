/-
From a contract to a statement; what came in. What is listed of package-level variables.
-/
import Derived.Test.YtiimjodbaogjbaaGreatDoorLmsPureEtc
import Derived.Test.YtiimjodbaogjbaaGreatDoorShakeEtc
import Derived.Test.YtiimjodbaogjbaaGreatDoorChain3Etc
import Derived.Test.YtiimjodbaogjbaaGreatDoorSetsEtc
import Derived.Test.YtiimjodbaogjbaaGreatDoorOnce1Etc
import Derived.Test.YtiimjodbaogjbaaGreatDoorBaseEtc
import Derived.Test.YtiimjodbaogjbaaGreatDoorEngIEtc
import Derived.Test.YtiimjodbaogjbaaGreatDoorEngXEtc
import Derived.Test.YtiimjodbaogjbaaGreatDoorMerkle2Etc
import Derived.WalkKit
import Derived.ProofKit
import Derived.OpenShut
import Derived.ShutString
import Derived.ChangeOld
import Derived.Below
import Derived.Deep.Slices
import Derived.LaidMore
import Derived.LaidLaws
import Derived.MakeChecks
import Derived.Stop.Joined
import Derived.SevenTiedAt
import Derived.Test.YtiimjodbaogjbaaGreatDoorTypes1
import Derived.Test.YtiimjodbaogjbaaGreatDoorShaEtc
import Derived.Test.YtiimjodbaogjbaaGreatDoorChecked
import Derived.Test.YtiimjodbaogjbaaGreatDoorRows
set_option linter.unusedVariables false
set_option linter.unusedSimpArgs false
set_option linter.constructorNameAsVariable false
namespace Go.Proofs.YtiimjodbaogjbaaGreatDoor
open Go Go.Eng
section
variable {G : World} {M : Mem} {L : Own}
theorem RSets12_spec (p : PairV) :
    Con Tryz.prog 16 #[.agg (List.toArray p.cells)] G M L (fun v M' L' => M = M' ∧ L = L' ∧ v = .tuple #[.agg (List.toArray (otsV p.o).cells), .agg (List.toArray (treeV p.t).cells), .bool (decide (okP p))]) noPanic := by
  refine enter (args := [_]) (fn := Tryz.f16) ⟨Tryz.func16, rfl, by kernel_rfl, by kernel_rfl⟩ 43 rfl ?_
  refine x_seq (x_region ?_)
  refine tl_e rfl (e_box rfl (fun b1 => ?_))
  refine tl_e rfl (e_alloc (fun b2 => ?_))
  refine tl_e rfl (e_alloc (fun b3 => ?_))
  refine tl_y rfl (y_assign rfl) ?_
  refine tl_nil (.then_normal ?_)
  refine x_seq (x_region ?_)
  refine tl_y rfl (y_fieldAddr rfl) ?_
  refine tl_y rfl (y_load rfl rfl (.own inferInstance inferInstance)) ?_
  refine tl_e rfl (e_call' rfl (ROts_spec p.o) ?_)
  rintro _ _ _ _ ⟨rfl, rfl, rfl⟩
  refine tl_y rfl (y_move (v := .tuple _) rfl) ?_
  refine tl_y rfl (y_extract rfl) ?_
  refine tl_y rfl (y_extract rfl) ?_
  refine tl_e rfl (e_alloc (fun b4 => ?_))
  refine tl_e rfl (e_store rfl rfl (by rfl) (by rfl) inferInstance inferInstance inferInstance ?_)
  refine tl_y rfl (y_assign (v := .int _ _) rfl) ?_
  refine tl_nil (.then_normal ?_)
  refine .sub (F' := [(1, _), (2, _), (3, _), (5, _), (6, _)]) (.cons rfl (.cons rfl (.cons rfl (.cons rfl (.cons rfl .nil))))) ?_
  refine x_seq (x_region ?_)
  refine tl_y rfl (y_fieldAddr rfl) ?_
  refine tl_y rfl (y_load rfl rfl (.own inferInstance inferInstance)) ?_
  refine tl_e rfl (e_call' rfl (RTree_spec p.t) ?_)
  rintro _ _ _ _ ⟨rfl, rfl, rfl⟩
  refine tl_y rfl (y_move (v := .tuple _) rfl) ?_
  refine tl_y rfl (y_extract rfl) ?_
  refine tl_y rfl (y_extract rfl) ?_
  refine tl_e rfl (e_alloc (fun b5 => ?_))
  refine tl_e rfl (e_store rfl rfl (by rfl) (by rfl) inferInstance inferInstance inferInstance ?_)
  refine tl_y rfl (y_assign (v := .int _ _) rfl) ?_
  refine tl_nil (.then_normal ?_)
  refine .sub (F' := [(2, _), (3, _), (5, _), (6, _), (7, _), (8, _)]) (.cons rfl (.cons rfl (.cons rfl (.cons rfl (.cons rfl (.cons rfl .nil)))))) ?_
  refine x_seq ?_
  refine x_draw0 24 ([(b5, .cells (List.toArray (treeV p.t).cells) 29 (0, 0)), (b4, .cells (List.toArray (otsV p.o).cells) 27 (0, 0))]) Keeps.mem hmix rfl ?_
  refine to_y 0 rfl (by kernel_rfl) rfl (y_loadAgg rfl rfl (.own inferInstance inferInstance)) ?_
  refine to_y 1 rfl (by kernel_rfl) rfl (y_loadAgg rfl rfl (.own inferInstance inferInstance)) ?_
  refine to_p 2 rfl (by kernel_rfl) rfl (y_move (v := .int _ _) rfl) ?_
  refine to_p 3 rfl (by kernel_rfl) rfl (y_eql rfl rfl) ?_
  refine to_p 4 rfl (by kernel_rfl) rfl (y_move (v := .bool _) rfl) ?_
  refine to_cases (s := 25) rfl (fun hk1 => ?_) (fun hk1 => ?_)
  ·
    refine to_p 5 rfl (by kernel_rfl) rfl (y_move (v := .int _ _) rfl) ?_
    refine to_p 6 rfl (by kernel_rfl) rfl (y_eql rfl rfl) ?_
    refine to_p 7 rfl (by kernel_rfl) rfl (y_pickT rfl rfl) ?_
    refine to_p 8 rfl (by kernel_rfl) rfl (y_move (v := .bool _) rfl) ?_
    refine to_cases (s := 29) rfl (fun hk2 => ?_) (fun hk2 => ?_)
    ·
      refine to_p 9 rfl (by kernel_rfl) rfl (y_fieldAddr rfl) ?_
      refine to_y 10 rfl (by kernel_rfl) rfl (y_load rfl rfl (.own inferInstance inferInstance)) ?_
      refine to_p 11 rfl (by kernel_rfl) rfl (y_fieldAddr rfl) ?_
      refine to_y 12 rfl (by kernel_rfl) rfl (y_load rfl rfl (.own inferInstance inferInstance)) ?_
      refine to_p 13 rfl (by kernel_rfl) rfl (y_eql rfl rfl) ?_
      refine to_p 14 rfl (by kernel_rfl) rfl (y_pickT rfl rfl) ?_
      refine to_p 15 rfl (by kernel_rfl) rfl (y_move (v := .bool _) rfl) ?_
      refine to_cases (s := 36) rfl (fun hk3 => ?_) (fun hk3 => ?_)
      ·
        refine to_p 16 rfl (by kernel_rfl) rfl (y_fieldAddr rfl) ?_
        refine to_y 17 rfl (by kernel_rfl) rfl (y_load rfl rfl (.own inferInstance inferInstance)) ?_
        refine to_p 18 rfl (by kernel_rfl) rfl (y_fieldAddr rfl) ?_
        refine to_y 19 rfl (by kernel_rfl) rfl (y_load rfl rfl (.own inferInstance inferInstance)) ?_
        refine to_p 20 rfl (by kernel_rfl) rfl (y_eql rfl rfl) ?_
        refine to_p 21 rfl (by kernel_rfl) rfl (y_pickT rfl rfl) ?_
        refine to_e 22 rfl (by kernel_rfl) rfl (e_store rfl rfl (by rfl) (by rfl) inferInstance inferInstance inferInstance ?_)
        refine ⟨⟨(by first | exact Le.refl _ | assumption), Keeps.mem⟩, ?_⟩
        refine to_e 23 rfl (by kernel_rfl) rfl (e_store rfl rfl (by rfl) (by rfl) inferInstance inferInstance inferInstance ?_)
        refine ⟨⟨(by first | exact Le.refl _ | assumption), Keeps.mem⟩, ?_⟩
        refine to_y1 24 rfl (by kernel_rfl) rfl (y_assign (v := .bool _) rfl) ?_
        refine to_nil (by kernel_rfl) (.then_normal ?_)
        refine .sub (F' := [(2, _), (3, _), (4, _)]) (.cons rfl (.cons rfl (.cons rfl .nil))) ?_
        refine x_ret (retRV (L' := L) (rv3 rfl (rc_cellAgg (by rfl) rfl (.own inferInstance inferInstance)) (rc_cellAgg (by rfl) rfl (.own inferInstance inferInstance)) (rc_tmp (by rfl))) inferInstance (Le.refl _) ⟨rfl, rfl, by simp_all [okP]⟩)
      ·
        refine to_skip 16 rfl (by kernel_rfl) rfl ?_
        refine to_skip 17 rfl (by kernel_rfl) rfl ?_
        refine to_skip 18 rfl (by kernel_rfl) rfl ?_
        refine to_skip 19 rfl (by kernel_rfl) rfl ?_
        refine to_skip 20 rfl (by kernel_rfl) rfl ?_
        refine to_p 21 rfl (by kernel_rfl) rfl (y_pickF rfl rfl) ?_
        refine to_e 22 rfl (by kernel_rfl) rfl (e_store rfl rfl (by rfl) (by rfl) inferInstance inferInstance inferInstance ?_)
        refine ⟨⟨(by first | exact Le.refl _ | assumption), Keeps.mem⟩, ?_⟩
        refine to_e 23 rfl (by kernel_rfl) rfl (e_store rfl rfl (by rfl) (by rfl) inferInstance inferInstance inferInstance ?_)
        refine ⟨⟨(by first | exact Le.refl _ | assumption), Keeps.mem⟩, ?_⟩
        refine to_y1 24 rfl (by kernel_rfl) rfl (y_assign (v := .bool _) rfl) ?_
        refine to_nil (by kernel_rfl) (.then_normal ?_)
        refine .sub (F' := [(2, _), (3, _), (4, _)]) (.cons rfl (.cons rfl (.cons rfl .nil))) ?_
        refine x_ret (retRV (L' := L) (rv3 rfl (rc_cellAgg (by rfl) rfl (.own inferInstance inferInstance)) (rc_cellAgg (by rfl) rfl (.own inferInstance inferInstance)) (rc_tmp (by rfl))) inferInstance (Le.refl _) ⟨rfl, rfl, by simp_all [okP]⟩)
    ·
      refine to_skip 9 rfl (by kernel_rfl) rfl ?_
      refine to_skip 10 rfl (by kernel_rfl) rfl ?_
      refine to_skip 11 rfl (by kernel_rfl) rfl ?_
      refine to_skip 12 rfl (by kernel_rfl) rfl ?_
      refine to_skip 13 rfl (by kernel_rfl) rfl ?_
      refine to_p 14 rfl (by kernel_rfl) rfl (y_pickF rfl rfl) ?_
      refine to_p 15 rfl (by kernel_rfl) rfl (y_move (v := .bool _) rfl) ?_
      refine to_skip 16 rfl (by kernel_rfl) rfl ?_
      refine to_skip 17 rfl (by kernel_rfl) rfl ?_
      refine to_skip 18 rfl (by kernel_rfl) rfl ?_
      refine to_skip 19 rfl (by kernel_rfl) rfl ?_
      refine to_skip 20 rfl (by kernel_rfl) rfl ?_
      refine to_p 21 rfl (by kernel_rfl) rfl (y_pickF rfl rfl) ?_
      refine to_e 22 rfl (by kernel_rfl) rfl (e_store rfl rfl (by rfl) (by rfl) inferInstance inferInstance inferInstance ?_)
      refine ⟨⟨(by first | exact Le.refl _ | assumption), Keeps.mem⟩, ?_⟩
      refine to_e 23 rfl (by kernel_rfl) rfl (e_store rfl rfl (by rfl) (by rfl) inferInstance inferInstance inferInstance ?_)
      refine ⟨⟨(by first | exact Le.refl _ | assumption), Keeps.mem⟩, ?_⟩
      refine to_y1 24 rfl (by kernel_rfl) rfl (y_assign (v := .bool _) rfl) ?_
      refine to_nil (by kernel_rfl) (.then_normal ?_)
      refine .sub (F' := [(2, _), (3, _), (4, _)]) (.cons rfl (.cons rfl (.cons rfl .nil))) ?_
      refine x_ret (retRV (L' := L) (rv3 rfl (rc_cellAgg (by rfl) rfl (.own inferInstance inferInstance)) (rc_cellAgg (by rfl) rfl (.own inferInstance inferInstance)) (rc_tmp (by rfl))) inferInstance (Le.refl _) ⟨rfl, rfl, by simp_all [okP]⟩)
  ·
    refine to_skip 5 rfl (by kernel_rfl) rfl ?_
    refine to_skip 6 rfl (by kernel_rfl) rfl ?_
    refine to_p 7 rfl (by kernel_rfl) rfl (y_pickF rfl rfl) ?_
    refine to_p 8 rfl (by kernel_rfl) rfl (y_move (v := .bool _) rfl) ?_
    refine to_skip 9 rfl (by kernel_rfl) rfl ?_
    refine to_skip 10 rfl (by kernel_rfl) rfl ?_
    refine to_skip 11 rfl (by kernel_rfl) rfl ?_
    refine to_skip 12 rfl (by kernel_rfl) rfl ?_
    refine to_skip 13 rfl (by kernel_rfl) rfl ?_
    refine to_p 14 rfl (by kernel_rfl) rfl (y_pickF rfl rfl) ?_
    refine to_p 15 rfl (by kernel_rfl) rfl (y_move (v := .bool _) rfl) ?_
    refine to_skip 16 rfl (by kernel_rfl) rfl ?_
    refine to_skip 17 rfl (by kernel_rfl) rfl ?_
    refine to_skip 18 rfl (by kernel_rfl) rfl ?_
    refine to_skip 19 rfl (by kernel_rfl) rfl ?_
    refine to_skip 20 rfl (by kernel_rfl) rfl ?_
    refine to_p 21 rfl (by kernel_rfl) rfl (y_pickF rfl rfl) ?_
    refine to_e 22 rfl (by kernel_rfl) rfl (e_store rfl rfl (by rfl) (by rfl) inferInstance inferInstance inferInstance ?_)
    refine ⟨⟨(by first | exact Le.refl _ | assumption), Keeps.mem⟩, ?_⟩
    refine to_e 23 rfl (by kernel_rfl) rfl (e_store rfl rfl (by rfl) (by rfl) inferInstance inferInstance inferInstance ?_)
    refine ⟨⟨(by first | exact Le.refl _ | assumption), Keeps.mem⟩, ?_⟩
    refine to_y1 24 rfl (by kernel_rfl) rfl (y_assign (v := .bool _) rfl) ?_
    refine to_nil (by kernel_rfl) (.then_normal ?_)
    refine .sub (F' := [(2, _), (3, _), (4, _)]) (.cons rfl (.cons rfl (.cons rfl .nil))) ?_
    refine x_ret (retRV (L' := L) (rv3 rfl (rc_cellAgg (by rfl) rfl (.own inferInstance inferInstance)) (rc_cellAgg (by rfl) rfl (.own inferInstance inferInstance)) (rc_tmp (by rfl))) inferInstance (Le.refl _) ⟨rfl, rfl, by simp_all [okP]⟩)
end
end Go.Proofs.YtiimjodbaogjbaaGreatDoor
set_option linter.unusedVariables false
set_option linter.unusedSimpArgs false
set_option linter.constructorNameAsVariable false
namespace Go.Proofs.YtiimjodbaogjbaaGreatDoor
open Go Go.Eng
def p12 : PairV := ⟨7, 4026531846⟩
theorem f12 : okP p12 ∧ (treeV p12.t).h = 2 ∧ (otsV p12.o).n = 24 ∧ szP p12 = 48 ∧ szS p12 = 1308 ∧ takeE p12 1310 = 0 ∧ sigN p12 = 1308 := by decide +kernel
theorem f12b : ¬ okP ⟨3, 4026531846⟩ ∧ pairE [0, 0, 0, 5, 0, 0, 0, 3] = 5 ∧ mayC ⟨0, 0⟩ 0 0 = 4 ∧ ¬ okP ⟨3, 25⟩ ∧ okP ⟨3, 9⟩ := by decide +kernel
section
variable {G : World} {M : Mem} {L : Own}
theorem awake12_spec (hg : LmG M) : Con Tryz.prog 15 #[] G M L (fun v M' L' => L' = L ∧ v = .bool true) noPanic := by
  obtain ⟨fok, fh, fn, fz, fs, ft, fsn⟩ := f12
  obtain ⟨g1, g2, g3, g4, g5⟩ := f12b
  refine enter (args := []) (fn := Tryz.f15) ⟨Tryz.func15, rfl, by kernel_rfl, by kernel_rfl⟩ 88 rfl ?_
  refine x_seq (x_region ?_)
  refine tl_y rfl (y_assign rfl) ?_
  refine tl_nil (.then_normal ?_)
  refine x_seq (x_region ?_)
  refine tl_y rfl (y_build rfl) ?_
  refine tl_e rfl (e_call' rfl (Sizes_spec hg p12) ?_)
  rintro _ M1 L hM1 ⟨rfl, rfl⟩
  have hd := hM1
  rw [fz, fs]
  refine tl_y rfl (y_move (v := .tuple _) rfl) ?_
  refine tl_y rfl (y_extract rfl) ?_
  refine tl_y rfl (y_extract rfl) ?_
  refine tl_y rfl (y_assign (v := .int _ _) rfl) ?_
  refine tl_y rfl (y_assign (v := .int _ _) rfl) ?_
  refine tl_nil (.then_normal ?_)
  refine .sub (F' := [(1, _), (2, _)]) (.cons rfl (.cons rfl .nil)) ?_
  refine x_seq (x_region ?_)
  refine tl_y rfl (y_build rfl) ?_
  refine tl_e rfl (e_call' rfl (Sizes_spec (hg.mono hd) ⟨3, 4026531846⟩) ?_)
  rintro _ M2 L hM2 ⟨rfl, rfl⟩
  replace hd := hd.trans hM2
  rw [show szP ⟨3, 4026531846⟩ = 0 by rw [szP, if_neg g1], show szS ⟨3, 4026531846⟩ = 0 by rw [szS, if_neg g1]]
  refine tl_y rfl (y_move (v := .tuple _) rfl) ?_
  refine tl_y rfl (y_extract rfl) ?_
  refine tl_y rfl (y_extract rfl) ?_
  refine tl_y rfl (y_assign (v := .int _ _) rfl) ?_
  refine tl_y rfl (y_assign (v := .int _ _) rfl) ?_
  refine tl_nil (.then_normal ?_)
  refine .sub (F' := [(1, _), (2, _), (3, _), (4, _)]) (.cons rfl (.cons rfl (.cons rfl (.cons rfl .nil)))) ?_
  refine x_seq (x_region ?_)
  refine tl_e rfl (e_buildSlice rfl (by decide) (fun b1 => ?_))
  refine .pub b1 inferInstance (fun M3 hM3 hb1 => ?_)
  replace hd := hd.trans hM3
  refine tl_e rfl (e_call' rfl (Pair_spec (bs := [0, 0, 0, 5, 0, 0, 0, 3]) (hg.mono hd) (Row.whole hb1 rfl (by omega)) (by omega)) ?_)
  rintro _ M4 L hM4 ⟨rfl, rfl⟩
  replace hd := hd.trans hM4
  rw [g2]
  refine tl_y rfl (y_move (v := .tuple _) rfl) ?_
  refine tl_y rfl (y_extract rfl) ?_
  refine tl_y rfl (y_extract rfl) ?_
  refine tl_e rfl (e_alloc (fun b1 => ?_))
  refine tl_e rfl (e_store rfl rfl (by rfl) (by rfl) inferInstance inferInstance inferInstance ?_)
  refine tl_y rfl (y_assign (v := .int _ _) rfl) ?_
  refine tl_nil (.then_normal ?_)
  refine .sub (F' := [(1, _), (2, _), (3, _), (4, _), (6, _)]) (.cons rfl (.cons rfl (.cons rfl (.cons rfl (.cons rfl .nil))))) ?_
  refine x_seq (x_region ?_)
  refine tl_y rfl (y_build rfl) ?_
  refine tl_y rfl (y_build rfl) ?_
  refine tl_e rfl (e_call' rfl (Public_lspec (hg.mono hd) ⟨0, 0⟩ (name := []) (sec := []) (NA := none) (nl := 0) (nc := 0) (SA := none) (sl := 0) (sc := 0) (Row.nil _ _) (Row.nil _ _)) ?_)
  rintro _ M5 _ hM5 ⟨rfl, A5, m5, c5, rfl, hA5⟩
  replace hd := hd.trans hM5
  rw [g3]
  refine tl_y rfl (y_move (v := .tuple _) rfl) ?_
  refine tl_y rfl (y_extract rfl) ?_
  refine tl_y rfl (y_extract rfl) ?_
  refine tl_y rfl (y_assign (v := .slice _ _ _) rfl) ?_
  refine tl_y rfl (y_assign (v := .int _ _) rfl) ?_
  refine tl_nil (.then_normal ?_)
  refine .sub (F' := [(1, _), (2, _), (3, _), (4, _), (6, _), (8, _)]) (.cons rfl (.cons rfl (.cons rfl (.cons rfl (.cons rfl (.cons rfl .nil)))))) ?_
  refine x_seq (x_region ?_)
  refine tl_y rfl (y_build rfl) ?_
  refine tl_y rfl (y_move (v := .int _ _) rfl) ?_
  refine tl_y rfl (y_addI rfl rfl (by omega)) ?_
  refine tl_e rfl (e_make1 rfl rfl (by omega) (by omega) (by omega) (by omega) (fun b3 => ?_))
  rw [show (((1308 : Nat) : Int) + 2).toNat = 1310 from rfl]
  refine .pub b3 inferInstance (fun M6 hM6 hb3 => ?_)
  replace hd := hd.trans hM6
  have hz : Bytes M6 (some ⟨b3, 0, none⟩) 1310 1310 (List.replicate 1310 0) := Bytes.zeros hb3 (by omega)
  refine tl_e rfl (e_call' rfl (Take_spec (hg.mono hd) p12 hz (by omega)) ?_)
  rintro _ M7 _ hM7 ⟨rfl, A7, n7, c7, A8, n8, c8, rfl, hA7, hA8⟩
  replace hd := hd.trans hM7
  rw [if_pos ft, fsn] at hA7 hA8
  have hs7 := hA7.size
  have hs8 := hA8.size
  rw [List.length_take, List.length_replicate] at hs7
  rw [List.length_drop, List.length_replicate] at hs8
  obtain rfl : n7 = 1308 := by omega
  obtain rfl : n8 = 2 := by omega
  rw [ft]
  refine tl_y rfl (y_move (v := .tuple _) rfl) ?_
  refine tl_y rfl (y_extract rfl) ?_
  refine tl_y rfl (y_extract rfl) ?_
  refine tl_y rfl (y_extract rfl) ?_
  refine tl_y rfl (y_assign (v := .slice _ _ _) rfl) ?_
  refine tl_y rfl (y_assign (v := .slice _ _ _) rfl) ?_
  refine tl_y rfl (y_assign (v := .int _ _) rfl) ?_
  refine tl_nil (.then_normal ?_)
  refine .sub (F' := [(1, _), (2, _), (3, _), (4, _), (6, _), (8, _), (9, _), (10, _), (11, _)]) (.cons rfl (.cons rfl (.cons rfl (.cons rfl (.cons rfl (.cons rfl (.cons rfl (.cons rfl (.cons rfl .nil))))))))) ?_
  refine x_seq (x_region ?_)
  refine tl_y rfl (y_move (v := .int _ _) rfl) ?_
  refine tl_y rfl (y_eql rfl rfl) ?_
  refine tl_y rfl (y_move (v := .bool _) rfl) ?_
  refine tl_set (s := 44) (u := .bool true) rfl (rfl) ?_
  refine tl_y rfl (y_move (v := .int _ _) rfl) ?_
  refine tl_y rfl (y_eql rfl rfl) ?_
  refine tl_y rfl (y_pickT rfl rfl) ?_
  refine tl_y rfl (y_move (v := .bool _) rfl) ?_
  refine tl_set (s := 48) (u := .bool true) rfl (rfl) ?_
  refine tl_y rfl (y_move (v := .int _ _) rfl) ?_
  refine tl_y rfl (y_eql rfl rfl) ?_
  refine tl_y rfl (y_pickT rfl rfl) ?_
  refine tl_y rfl (y_move (v := .bool _) rfl) ?_
  refine tl_set (s := 52) (u := .bool true) rfl (rfl) ?_
  refine tl_y rfl (y_move (v := .int _ _) rfl) ?_
  refine tl_y rfl (y_eql rfl rfl) ?_
  refine tl_y rfl (y_pickT rfl rfl) ?_
  refine tl_y rfl (y_move (v := .bool _) rfl) ?_
  refine tl_set (s := 56) (u := .bool true) rfl (rfl) ?_
  refine tl_y rfl (y_move (v := .int _ _) rfl) ?_
  refine tl_y rfl (y_eql rfl rfl) ?_
  refine tl_y rfl (y_pickT rfl rfl) ?_
  refine tl_y rfl (y_move (v := .bool _) rfl) ?_
  refine tl_set (s := 60) (u := .bool true) rfl (rfl) ?_
  refine tl_y rfl (y_move (v := .int _ _) rfl) ?_
  refine tl_y rfl (y_eql rfl rfl) ?_
  refine tl_y rfl (y_pickT rfl rfl) ?_
  refine tl_y rfl (y_move (v := .bool _) rfl) ?_
  refine tl_set (s := 64) (u := .bool true) rfl (rfl) ?_
  refine tl_y rfl (y_move (v := .int _ _) rfl) ?_
  refine tl_y rfl (y_eql rfl rfl) ?_
  refine tl_y rfl (y_pickT rfl rfl) ?_
  refine tl_y rfl (y_move (v := .bool _) rfl) ?_
  refine tl_set (s := 68) (u := .bool true) rfl (rfl) ?_
  refine tl_y rfl (y_move (v := .slice _ _ _) rfl) ?_
  refine tl_y rfl (y_len rfl) ?_
  refine tl_y rfl (y_move (v := .int _ _) rfl) ?_
  refine tl_y rfl (y_eql rfl rfl) ?_
  refine tl_y rfl (y_pickT rfl rfl) ?_
  refine tl_y rfl (y_move (v := .bool _) rfl) ?_
  refine tl_set (s := 74) (u := .bool true) rfl (rfl) ?_
  refine tl_y rfl (y_move (v := .slice _ _ _) rfl) ?_
  refine tl_y rfl (y_len rfl) ?_
  refine tl_y rfl (y_eql rfl rfl) ?_
  refine tl_y rfl (y_pickT rfl rfl) ?_
  refine tl_y rfl (y_move (v := .bool _) rfl) ?_
  refine tl_set (s := 79) (u := .bool true) rfl (rfl) ?_
  refine tl_y rfl (y_build rfl) ?_
  refine tl_e rfl (e_call' rfl (lMay_spec (hg.mono hd).hs ⟨3, 25⟩) ?_)
  rintro _ M8 _ hM8 ⟨rfl, rfl⟩
  replace hd := hd.trans hM8
  rw [decide_eq_false g4]
  refine tl_y rfl (y_eqlBool rfl rfl) ?_
  refine tl_y rfl (y_pickT rfl rfl) ?_
  refine tl_y rfl (y_move (v := .bool _) rfl) ?_
  refine tl_set (s := 84) (u := .bool true) rfl (rfl) ?_
  refine tl_y rfl (y_build rfl) ?_
  refine tl_e rfl (e_call' rfl (lMay_spec (hg.mono hd).hs ⟨3, 9⟩) ?_)
  rintro _ M9 _ hM9 ⟨rfl, rfl⟩
  replace hd := hd.trans hM9
  rw [decide_eq_true g5]
  refine tl_y rfl (y_pickT rfl rfl) ?_
  refine tl_y rfl (y_assign (v := .bool _) rfl) ?_
  refine tl_nil (.then_normal ?_)
  refine .sub (F' := [(0, _)]) (.cons rfl .nil) ?_
  refine x_ret (.dropTo L inferInstance (ret1 rfl rfl hd ⟨rfl, rfl⟩))
end
end Go.Proofs.YtiimjodbaogjbaaGreatDoor
set_option linter.unusedVariables false
set_option linter.unusedSimpArgs false
namespace Go.Proofs.YtiimjodbaogjbaaGreatDoor
open Go Go.Eng
def lend (M : Mem) : Own → Mem
  | [] => M
  | p :: E => pub (lend M E) p.1 p.2
def back (M : Mem) (E : Own) : Mem := fun i => if i ∈ E.map Prod.fst then none else M i
structure Lent (M0 M : Mem) (E : Own) : Prop where
  le : Le M0 M
  at_ : ∀ p ∈ E, M p.1 = some p.2
  no : ∀ p ∈ E, M0 p.1 = none
  nd : (E.map Prod.fst).Nodup
theorem Lent.mono {M0 M M' : Mem} {E : Own} (h : Lent M0 M E) (hle : Le M M') : Lent M0 M' E := ⟨h.le.trans hle, fun p hp => hle _ _ (h.at_ p hp), h.no, h.nd⟩
theorem lend_other (M : Mem) : ∀ (E : Own) (i : Nat), i ∉ E.map Prod.fst → lend M E i = M i
  | [], i, _ => rfl
  | p :: E, i, h => by
    simp only [List.map_cons, List.mem_cons, not_or] at h
    rw [lend, pub, if_neg h.1]
    exact lend_other M E i h.2
theorem lend_at (M : Mem) : ∀ (E : Own), (E.map Prod.fst).Nodup → ∀ p ∈ E, lend M E p.1 = some p.2
  | [], _, p, hp => by cases hp
  | q :: E, h, p, hp => by
    simp only [List.map_cons, List.nodup_cons] at h
    rcases List.mem_cons.1 hp with rfl | hp
    · rw [lend, pub, if_pos rfl]
    · have hne : p.1 ≠ q.1 := fun he => h.1 (he ▸ List.mem_map_of_mem hp)
      rw [lend, pub, if_neg hne]
      exact lend_at M E h.2 p hp
theorem St.lend {G : World} {M : Mem} {E R : Own} {w : World} (h : St G M (E ++ R) w) : St G (lend M E) R w ∧ Lent M (lend M E) E := by
  have hnd := h.nd
  rw [List.map_append, List.nodup_append] at hnd
  obtain ⟨n1, n2, n3⟩ := hnd
  have hno : ∀ p ∈ E, M p.1 = none := fun p hp => (h.own p (List.mem_append_left _ hp)).2
  refine ⟨⟨h.os, h.tape, h.output, fun b o x => ?_, fun p hp => ?_, n2⟩, ⟨fun b o x => ?_, lend_at M E n1, hno, n1⟩⟩
  · by_cases hb : b ∈ E.map Prod.fst
    · obtain ⟨p, hp, rfl⟩ := List.mem_map.1 hb
      rw [lend_at M E n1 p hp] at x
      cases x
      exact (h.own p (List.mem_append_left _ hp)).1
    · rw [lend_other M E b hb] at x
      exact h.ro b o x
  · have hx := h.own p (List.mem_append_right _ hp)
    refine ⟨hx.1, ?_⟩
    rw [lend_other M E p.1 (fun hm => n3 _ hm _ (List.mem_map_of_mem hp) rfl)]
    exact hx.2
  · by_cases hb : b ∈ E.map Prod.fst
    · obtain ⟨p, hp, rfl⟩ := List.mem_map.1 hb
      rw [hno p hp] at x; cases x
    · rw [lend_other M E b hb]; exact x
theorem St.back {G : World} {M0 M : Mem} {E R : Own} {w : World} (h : St G M R w) (hl : Lent M0 M E) : St G (back M E) (E ++ R) w ∧ Le M0 (back M E) := by
  refine ⟨⟨h.os, h.tape, h.output, fun b o x => ?_, fun p hp => ?_, ?_⟩, fun b o x => ?_⟩
  · unfold Go.Proofs.YtiimjodbaogjbaaGreatDoor.back at x
    split at x
    · cases x
    · exact h.ro b o x
  · rcases List.mem_append.1 hp with hp | hp
    · exact ⟨h.ro _ _ (hl.at_ p hp), by unfold Go.Proofs.YtiimjodbaogjbaaGreatDoor.back; rw [if_pos (List.mem_map_of_mem hp)]⟩
    · have hx := h.own p hp
      refine ⟨hx.1, ?_⟩
      unfold Go.Proofs.YtiimjodbaogjbaaGreatDoor.back
      split
      · rfl
      · exact hx.2
  · rw [List.map_append, List.nodup_append]
    refine ⟨hl.nd, h.nd, fun a ha b hb he => ?_⟩
    subst he
    obtain ⟨p, hp, rfl⟩ := List.mem_map.1 ha
    obtain ⟨q, hq, he⟩ := List.mem_map.1 hb
    have h1 := (h.own q hq).2
    rw [he, hl.at_ p hp] at h1
    cases h1
  · unfold Go.Proofs.YtiimjodbaogjbaaGreatDoor.back
    split
    · rename_i hb
      obtain ⟨p, hp, rfl⟩ := List.mem_map.1 hb
      rw [hl.no p hp] at x; cases x
    · exact hl.le b o x
section
variable {P : Program} {n : Nat} {Q : Post} {F : Fr} {D : List Deferred} {G : World} {M M0 : Mem} {R E : Own} {ops : Array Oper} {rest : List Oper}
theorem T.lend {c : Code} (E : Own) (h : ∀ M', Lent M M' E → T P n c Q F D G M' R) : T P n c Q F D G M (E ++ R) := fun hok w a hw ha => h _ (St.lend hw).2 hok w a (St.lend hw).1 ha
theorem TL.lend (E : Own) (h : ∀ M', Lent M M' E → TL P n ops rest Q F D G M' R) : TL P n ops rest Q F D G M (E ++ R) := fun hok w a hw ha => h _ (St.lend hw).2 hok w a (St.lend hw).1 ha
theorem TQ.lend {x : Exit} (E : Own) (h : ∀ M', Lent M M' E → TQ Q x F D G M' R) : TQ Q x F D G M (E ++ R) := fun w hw => h _ (St.lend hw).2 w (St.lend hw).1
theorem T.back {c : Code} (hl : Lent M0 M E) (h : ∀ M', Le M0 M' → T P n c Q F D G M' (E ++ R)) : T P n c Q F D G M R := fun hok w a hw ha => h _ (St.back hw hl).2 hok w a (St.back hw hl).1 ha
theorem TL.back (hl : Lent M0 M E) (h : ∀ M', Le M0 M' → TL P n ops rest Q F D G M' (E ++ R)) : TL P n ops rest Q F D G M R := fun hok w a hw ha => h _ (St.back hw hl).2 hok w a (St.back hw hl).1 ha
theorem TQ.back {x : Exit} (hl : Lent M0 M E) (h : ∀ M', Le M0 M' → TQ Q x F D G M' (E ++ R)) : TQ Q x F D G M R := fun w hw => h _ (St.back hw hl).2 w (St.back hw hl).1
end
theorem Lent.row {M0 M : Mem} {E E1 : Own} (h : Lent M0 M E) (hs : ∀ p ∈ E1, p ∈ E) {e : TypeId} {s n cap : Nat} {A : Option Addr} {vs : List Value} (ho : OwnRow e s A n cap vs E1) : Row M s A n cap vs := by
  cases ho with
  | nil => exact Row.nil _ _
  | @row g n cap pre vs slack h1 h2 h3 h4 =>
    refine ⟨h1, h3, h4, fun _ => ⟨g, pre.length, _, e, (0, 0), rfl, h.at_ _ (hs _ List.mem_cons_self), fun j v hj => ?_⟩⟩
    rw [List.getElem?_toArray, List.getElem?_append_right (by omega), Nat.add_sub_cancel_left, List.getElem?_append_left (List.getElem?_eq_some_iff.1 hj).1]
    exact hj
end Go.Proofs.YtiimjodbaogjbaaGreatDoor
set_option linter.unusedVariables false
set_option linter.unusedSimpArgs false
namespace Go.Proofs.YtiimjodbaogjbaaGreatDoor
open Go Go.Eng
section
variable {P : Program} {n : Nat} {Q : Post} {F : Fr} {D : List Deferred} {G : World} {M : Mem} {L : Own} {d : Option Tmp} {ty : TypeId} {K : Fr → List Deferred → Mem → Own → Prop}
theorem zeroC_rep (z : Value) (m : Nat) : (Builtin.zeroCells #[z] m) = (List.replicate m z).toArray := zeroCells_one m
theorem run_appendZ {w : World} {t ti2 e : TypeId} {z z0 z2 : Value} {b0 s0 b00 s2 b2 : Nat} {de : TypeDesc} (ti : TI P t (.slice e) z0 s0 b00) (te : TI P e de z 1 b0) (t2 : TI P ti2 (.int .i64) z2 s2 b2) (tc : z.cells = #[z]) (ho1 : one z = true) {E R : Own} {A : Option Addr} {nn cap m : Nat} {vs : List Value} (ho : OwnRow e 1 A nn cap vs E) (hw : St G M (E ++ R) w)
    (hA : nn ≤ 140737488355328) (hm : m ≤ 140737488355328) (hby : (nn + m) * b0 ≤ 140737488355328) :
    ∃ A' cap' E' w', (Builtin.append_ #[t, ti2] ty #[.slice A nn cap, .int .i64 (m : Int)]).run P w = .ok (.slice A' (nn + m) cap') w' ∧ OwnRow e 1 A' (nn + m) cap' (vs ++ List.replicate m z) E' ∧ St G M (E' ++ R) w' := by
  obtain ⟨j, hj, hjz, hjs, hjb⟩ := te.parts
  subst hjb
  have hwrap : IntKind.i64.wrap (m : Int) = m := IntWalk.i64_in _ (by omega)
  have k0 : ¬ ((m : Int) < 0) := by omega
  have hmb : m * j.bytes ≤ 140737488355328 := Nat.le_trans (Nat.mul_le_mul_right _ (by omega)) hby
  have kb : (m : Int) * (j.bytes : Int) = ((m * j.bytes : Nat) : Int) := by simp
  have kk : ¬ (((m : Int) * (j.bytes : Int)) > 281474976710656) := by rw [kb]; omega
  have hall : (List.replicate m z).all one = true := by rw [List.all_eq_true]; intro v hv; rw [List.eq_of_mem_replicate hv]; exact ho1
  have holds : ∀ dr, (Builtin.firstCells 1 nn (.slice A nn cap)).run P { w with drawn := dr } = .ok vs.toArray { w with drawn := dr } := by
    intro dr
    refine run_firstCells ho.len fun hp => ?_
    cases ho with
    | nil => simp at hp
    | @row g _ _ pre _ slack k1 k2 k3 k4 =>
      refine ⟨_, rfl, fun i v hi => ?_⟩
      rw [add_plain]
      refine cell_of (w := { w with drawn := dr }) (hw.own _ List.mem_cons_self).1 ?_
      rw [List.getElem?_toArray, List.getElem?_append_right (by omega), Nat.add_sub_cancel_left, List.getElem?_append_left (List.getElem?_eq_some_iff.1 hi).1]
      exact hi
  by_cases hroom : nn + m ≤ cap
  · cases ho with
    | nil =>
      obtain rfl : m = 0 := by omega
      refine ⟨none, 0, [], w, ?_, by simpa using OwnRow.nil, hw⟩
      have w0 : IntKind.i64.wrap 0 = 0 := rfl
      simp [Builtin.append_, run_underlying ti.und, run_underlying t2.und, sizeOf, typeInfo, hj, asInt, asIntOf, w0]
    | @row g _ _ pre _ slack k1 k2 k3 k4 =>
      have hg := (hw.own _ (show (g, Obj.cells (pre ++ (vs ++ slack)).toArray e (0, 0)) ∈ _ from List.mem_cons_self)).1
      simp only [List.length_append] at k2
      have hfit : pre.length + nn + 0 + (List.replicate m z).length ≤ (pre ++ (vs ++ slack)).toArray.size := by simp; omega
      have hst := run_storeCells_at P g (pre.length + nn) e (List.replicate m z) 0 (pre ++ (vs ++ slack)).toArray w hg hfit (fun u hu => List.all_eq_true.1 hall u hu)
      simp only [Nat.add_zero] at hst
      have hrow : ((pre ++ (vs ++ slack)).toArray.toList.take (pre.length + nn) ++ List.replicate m z ++ (pre ++ (vs ++ slack)).toArray.toList.drop (pre.length + nn + (List.replicate m z).length)) = pre ++ ((vs ++ List.replicate m z) ++ slack.drop (List.replicate m z).length) := by
        have k1' : nn = vs.length := by omega
        simp only []
        rw [List.take_append, List.take_of_length_le (by omega : pre.length ≤ _), Nat.add_sub_cancel_left, k1', List.take_left, Nat.add_assoc, List.drop_append, List.drop_of_length_le (by omega : pre.length ≤ _), Nat.add_sub_cancel_left, List.drop_append, List.drop_of_length_le (by omega : vs.length ≤ _), Nat.add_sub_cancel_left]
        simp
      rw [hrow] at hst
      refine ⟨some ⟨g, pre.length, none⟩, cap, [(g, .cells (pre ++ ((vs ++ List.replicate m z) ++ slack.drop (List.replicate m z).length)).toArray e (0, 0))], w.setRow g (pre ++ ((vs ++ List.replicate m z) ++ slack.drop (List.replicate m z).length)).toArray, ?_, ?_, ?_⟩
      · by_cases hm0 : m = 0
        · subst hm0
          have w0 : IntKind.i64.wrap 0 = 0 := rfl
          simp only [List.replicate_zero] at hst ⊢
          simp [Builtin.append_, run_underlying ti.und, run_underlying t2.und, sizeOf, typeInfo, hj, hjs, asInt, asIntOf, k3, w0, add_plain]
          simp at hst
          simp [hst]
        · have e1 : ¬ (m * 1 = 0) := by omega
          simp [Builtin.append_, run_underlying ti.und, run_underlying t2.und, sizeOf, typeInfo, zeroValue, hj, hjz, hjs, asInt, asIntOf, hwrap, k0, kk, hm0, hroom, tc, zeroC_rep, add_plain, hst]
      · refine OwnRow.row (by simp; omega) ?_ hroom k4
        simp; omega
      · exact St.set hw rfl rfl rfl (setRow_heap w g _ _ e _ hg) (fun i hi => setRow_other w g i _ hi)
  · have h63' : ¬ ((nn + m : Nat) : Int) > IntKind.i64.max := by simp [IntKind.max, IntKind.signed, IntKind.bits]; omega
    have hle := ho.le
    have hm0 : ¬ m = 0 := by omega
    have hfit : ¬ (Builtin.nextslicecap (nn + m) cap * j.bytes > 2 ^ 48) := by
      have := growslice_fits (need := nn + m) (old := cap) (bytes := j.bytes) (by omega) hby
      omega
    have hcap := grownCap_ge w (nn + m) cap e
    have hcapm := grownCap_le_maxLen w (nn + m) cap e (by simp only [maxLen]; omega)
    simp only [maxLen] at hcapm
    refine ⟨some ⟨w.heap.size, 0, none⟩, grownCap w (nn + m) cap e, [(w.heap.size, .cells ([] ++ ((vs ++ List.replicate m z) ++ List.replicate (grownCap w (nn + m) cap e - (nn + m)) z)).toArray e (0, 0))],
      { w with drawn := w.drawn + 1, heap := w.heap.push (.cells ([] ++ ((vs ++ List.replicate m z) ++ List.replicate (grownCap w (nn + m) cap e - (nn + m)) z)).toArray e (0, 0)) }, ?_, ?_, ?_⟩
    · have h2 : (Builtin.firstCells 1 nn (.slice A nn cap)).run P w.drew = .ok vs.toArray w.drew := holds (w.drawn + 1)
      have k1 : ¬ (9223372036854775807 < ((nn : Int) + (m : Int))) := by omega
      have k2 : ¬ (281474976710656 < Builtin.nextslicecap (nn + m) cap * j.bytes) := by omega
      simp [Builtin.append_, run_underlying ti.und, run_underlying t2.und, sizeOf, typeInfo, zeroValue, hj, hjz, hjs, asInt, asIntOf, hwrap, k0, kk, hm0, hroom, k1, k2, Question.forced, h2, newRow, grownCap, tc, zeroC_rep]
      have hz' : ∀ k, vs.toArray ++ Array.replicate k z = (vs ++ List.replicate k z).toArray := fun k => by apply Array.ext'; simp
      rw [hz']
      rfl
    · refine OwnRow.row (pre := []) (by have := ho.len; simp; omega) (by have := ho.len; simp; omega) hcap (by omega)
    · have hd : St G M R w := hw.dropAll
      exact St.alloc hd rfl rfl rfl rfl
theorem e_appendZO {t ti2 : TypeId} {e : TypeId} {x y : Operand} {z z0 z2 : Value} {b0 s0 b00 s2 b2 : Nat} {de : TypeDesc} [ti : TI P t (.slice e) z0 s0 b00] [te : TI P e de z 1 b0] [t2 : TI P ti2 (.int .i64) z2 s2 b2] [tc : CellsOf z [z]] {E R : Own} {A : Option Addr} {nn cap m : Nat} {vs : List Value}
    (hx : ev F x = some (.slice A nn cap)) (hy : ev F y = some (.int .i64 (m : Int))) (ho1 : one z = true) (ho : OwnRow e 1 A nn cap vs E) (hA : nn ≤ 140737488355328) (hm : m ≤ 140737488355328) (hby : (nn + m) * b0 ≤ 140737488355328)
    (h : ∀ A' cap' E', OwnRow e 1 A' (nn + m) cap' (vs ++ List.replicate m z) E' → K (putF d (.slice A' (nn + m) cap') F) D M (E' ++ R)) :
    Tr P n d (.call ⟨.builtin .append, #[x, y], #[t, ti2]⟩) ty Q F D G M (E ++ R) K := tr_value (fun c h => by cases h) fun w ρ hw hρ => by
  obtain ⟨A', cap', E', w', hr, hO, hS⟩ := run_appendZ (P := P) (ty := ty) ti te t2 tc.eq ho1 ho hw (m := m) hA hm hby
  refine ⟨_, w', M, _, ?_, hS, h A' cap' E' hO⟩
  simp only [execOp, resolve, invoke, builtin, Sem.run_bind, Sem.run_pure, Result.andThen_ok, List.map_toArray, List.map_cons, List.map_nil, hρ _ _ hx, hρ _ _ hy, hr]
end
end Go.Proofs.YtiimjodbaogjbaaGreatDoor
set_option linter.unusedVariables false
set_option linter.unusedSimpArgs false
set_option linter.constructorNameAsVariable false
namespace Go.Proofs.YtiimjodbaogjbaaGreatDoor
open Go Go.Eng
section
variable {G : World} {M : Mem} {L R : Own}
theorem RPut_own (v : UInt64) (n : Nat) (hn : n ≤ 8) :
    Con Tryz.prog 19 #[.int .u64 (v.toNat : Int), .int .i64 (n : Int)] G M L (fun r M' L' => M = M' ∧ ∃ A c E, r = .slice A n c ∧ OwnRow 5 1 A n c ((putB v.toNat n).map bv) E ∧ L' = E ++ L) noPanic := by
  have hv := v.toNat_lt
  refine enter (args := [_, _]) (fn := Tryz.f19) ⟨Tryz.func19, rfl, by kernel_rfl, by kernel_rfl⟩ 28 rfl ?_
  refine x_seq (x_region ?_)
  refine tl_y rfl (y_assign rfl) ?_
  refine tl_nil (.then_normal ?_)
  refine x_seq (x_seq (x_region ?_))
  refine tl_y rfl (y_move (v := .int _ _) rfl) ?_
  refine tl_y rfl (y_lss rfl rfl) ?_
  refine tl_y rfl (y_move (v := .bool _) rfl) ?_
  refine tl_set (s := 9) (u := .bool false) rfl (by rw [decide_eq_false]; omega) ?_
  refine tl_y rfl (y_move (v := .int _ _) rfl) ?_
  refine tl_y rfl (y_gtr rfl rfl) ?_
  refine tl_y rfl (y_pickF rfl rfl) ?_
  refine tl_nil (.then_normal ?_)
  refine .sub (F' := [(0, _), (1, _), (12, _)]) (.cons rfl (.cons rfl (.cons rfl .nil))) ?_
  refine x_false rfl (by rw [decide_eq_false]; omega) ?_
  refine x_skip (.then_normal ?_)
  refine x_seq (x_region ?_)
  refine tl_e rfl (e_buildSlice0 (fun b1 => ?_))
  refine tl_y rfl (y_assign (v := .slice _ _ _) rfl) ?_
  refine tl_nil (.then_normal ?_)
  refine x_seq (x_seq (x_region ?_))
  refine tl_y rfl (y_assign rfl) ?_
  refine tl_nil (.then_normal ?_)
  refine x_block ?_
  refine x_loop (I := fun m' F D M1 L1 => ∃ (k q : Nat) (A : Option Addr) (c : Nat) (E : Own), m' = n - k ∧ k ≤ n ∧ q = v.toNat / 256 ^ k ∧ q ≤ v.toNat ∧ OwnRow 5 1 A k c ((putB v.toNat k).map bv) E ∧ D = [] ∧ M = M1 ∧ L1 = E ++ L ∧ F = [(0, .int .u64 (q : Int)), (1, .int .i64 n), (5, .slice A k c), (6, .int .i64 k)]) (n) (F0 := [(0, _), (1, _), (5, _), (6, _)]) ?_ (.cons rfl (.cons rfl (.cons rfl (.cons rfl .nil)))) ?_  -- slots [0, 1, 5, 6], written [0, 5, 6]
  · exact ⟨0, v.toNat, _, _, _, rfl, by omega, by rw [Nat.pow_zero, Nat.div_one], Nat.le_refl _, OwnRow.made00, rfl, rfl, rfl, rfl⟩
  rintro m _ _ M1 L1 ⟨k, q, A, c, E, rfl, hk, hq, hqv, hE, rfl, rfl, rfl, rfl⟩
  refine x_seq (x_seq (x_region ?_))
  refine tl_y rfl (y_move (v := .int _ _) rfl) ?_
  refine tl_y rfl (y_move (v := .int _ _) rfl) ?_
  refine tl_y rfl (y_lss rfl rfl) ?_
  refine tl_nil (.then_normal ?_)
  refine x_cond rfl (fun hc2 => ?_) (fun hc2 => ?_)
  ·
    have hkn : k < n := by omega
    have hq2 : q / 256 = v.toNat / 256 ^ (k + 1) := by rw [hq, Nat.div_div_eq_div_mul, Nat.pow_succ]
    refine x_skip (.then_normal ?_)
    refine x_seq ?_
    refine x_block ?_
    refine x_seq (x_region ?_)
    refine tl_y rfl (y_move (v := .int _ _) rfl) ?_
    refine tl_y rfl (y_remI rfl rfl (by omega)) ?_
    refine tl_y rfl (y_convN8 rfl (by omega)) ?_
    rw [show (q : Int) % 256 = (((UInt8.ofNat (q % 256)).toNat : Nat) : Int) by rw [UInt8.toNat_ofNat']; omega]
    refine tl_e rfl (e_buildSlice rfl (by decide) (fun b2 => ?_))
    refine tl_y rfl (y_move (v := .slice _ _ _) rfl) ?_
    refine tl_e rfl (e_append1 (by decide) rfl rfl (OwnRow.made (n := 1) rfl (by omega)) (src_in (hE.in_ inferInstance (by omega))) (all_one_bv _) (by omega) (by omega) (fun A2 c2 E2 hE2 => ?_))
    rw [show 1 + k = k + 1 by omega] at hE2 ⊢
    refine .dropTo (E2 ++ L) inferInstance ?_
    refine tl_y rfl (y_assign (v := .slice _ _ _) rfl) ?_
    refine tl_nil (.then_normal ?_)
    refine .sub (F' := [(0, _), (1, _), (5, _), (6, _)]) (.cons rfl (.cons rfl (.cons rfl (.cons rfl .nil)))) ?_
    refine x_region ?_
    refine tl_y rfl (y_move (v := .int _ _) rfl) ?_
    refine tl_y rfl (y_quoN64 rfl rfl (by omega)) ?_
    refine tl_y rfl (y_assign (v := .int _ _) rfl) ?_
    refine tl_nil (.block_normal (.then_normal ?_))
    refine x_region ?_
    refine tl_y rfl (y_move (v := .int _ _) rfl) ?_
    refine tl_y rfl (y_addI rfl rfl (by omega)) ?_
    refine tl_y rfl (y_assign (v := .int _ _) rfl) ?_
    refine tl_nil (.loop_next (m' := n - (k + 1)) (by omega) (F' := [(0, _), (1, _), (5, _), (6, _)]) (.cons rfl (.cons rfl (.cons rfl (.cons rfl .nil)))) ?_)
    exact ⟨k + 1, q / 256, A2, c2, E2, rfl, by omega, hq2, by omega, by rw [putB_cons, ← hq]; exact hE2, rfl, rfl, rfl, rfl⟩
  ·
    refine x_exit (.then_exit (.loop_exit (.block_exit (.then_normal ?_))))
    refine .sub (F' := [(5, _)]) (.cons rfl .nil) ?_
    refine x_seq (x_region ?_)
    refine tl_y rfl (y_move (v := .slice _ _ _) rfl) ?_
    refine tl_y rfl (y_assign (v := .slice _ _ _) rfl) ?_
    refine tl_nil (.then_normal ?_)
    obtain rfl : k = n := by omega
    refine x_ret (ret1 rfl rfl (Le.refl _) ⟨rfl, _, _, _, rfl, hE, rfl⟩)
end
theorem zeros_bv (bs : List UInt8) (k : Nat) : bs.map bv ++ List.replicate k (.int .u8 0) = (bs ++ List.replicate k 0).map bv := by
  rw [List.map_append, List.map_replicate]; rfl
section
variable {G : World} {M : Mem} {L : Own}
theorem RPutVO_spec (v n : Nat) (hv : v < 18446744073709551616) (hn : n ≤ 8) :
    Con Tryz.prog 19 #[.int .u64 (v : Int), .int .i64 (n : Int)] G M L (fun r M' L' => M = M' ∧ ∃ A c E, r = .slice A n c ∧ OwnRow 5 1 A n c ((putB v n).map bv) E ∧ L' = E ++ L) noPanic := by
  have h := RPut_own (G := G) (M := M) (L := L) (UInt64.ofNat v) n hn
  rw [UInt64.toNat_ofNat', Nat.mod_eq_of_lt hv] at h
  exact h
end
end Go.Proofs.YtiimjodbaogjbaaGreatDoor
set_option linter.unusedVariables false
set_option linter.unusedSimpArgs false
set_option linter.constructorNameAsVariable false
namespace Go.Proofs.YtiimjodbaogjbaaGreatDoor
open Go Go.Eng
section
variable {G : World} {M : Mem} {L : Own}
theorem treeV_n (c : UInt32) : ∃ N : Nat, (treeV c).n = (N : Int) ∧ N ≤ 32 := by
  by_cases h : treeE c = 0
  · have := (treeV_facts h).1.2
    rcases this with h | h
    · exact ⟨24, h, by omega⟩
    · exact ⟨32, h, by omega⟩
  · refine ⟨0, ?_, by omega⟩
    unfold treeE at h
    unfold treeV
    cases e : treeOf c with
    | none => rfl
    | some y => rw [e] at h; exact absurd rfl h
theorem pairC_put (x : PairV) (X : List UInt8) : pairC (putB x.t.toNat 4 ++ putB x.o.toNat 4 ++ X) = x := by
  have p1 : (putB x.t.toNat 4).length = 4 := putB_length 4 _
  have p2 : (putB x.o.toNat 4).length = 4 := putB_length 4 _
  have h1 := x.o.toNat_lt
  have h2 := x.t.toNat_lt
  rw [List.append_assoc, pairC, drop_at p1, take_at p1, take_at p2, getB_put, getB_put, Nat.mod_eq_of_lt (by omega), Nat.mod_eq_of_lt (by omega), UInt32.ofNat_toNat, UInt32.ofNat_toNat]
theorem LmsPairs_spec (hg : LmG M) (x : PairV) :
    Con Tryz.prog 3 #[.agg (List.toArray x.cells)] G M L (fun v M' L' => v = .bool true) noPanic := by
  obtain ⟨N, hN, hN32⟩ := treeV_n x.t
  have hxt := x.t.toNat_lt
  have hxo := x.o.toNat_lt
  have hP : decide (((szP x : Nat) : Int) > 0) = decide (okP x) := by
    rw [decide_eq_decide, szP]
    split
    · rename_i h; exact iff_of_true (by rw [pubN]; omega) h
    · rename_i h; exact iff_of_false (by simp) h
  have hS : decide (((szS x : Nat) : Int) > 0) = decide (okP x) := by
    rw [decide_eq_decide, szS]
    split
    · rename_i h; exact iff_of_true (by rw [sigN]; omega) h
    · rename_i h; exact iff_of_false (by simp) h
  obtain ⟨B, hB⟩ : ∃ B, B = putB x.t.toNat 4 ++ putB x.o.toNat 4 ++ List.replicate (16 + N) (0 : UInt8) := ⟨_, rfl⟩
  have hBl : B.length = 24 + N := by rw [hB, List.length_append, List.length_append, putB_length, putB_length, List.length_replicate]; omega
  have hBp : pairC B = x := by rw [hB]; exact pairC_put x _
  have hBp2 : pairC (B ++ [0]) = x := by rw [hB, List.append_assoc]; exact pairC_put x _
  have hpn : okP x → pubN x = 24 + N := fun h => by rw [pubN, hN]; rfl
  have hE1 : pairE B = if okP x then 0 else 4 := by
    rw [pairE, if_neg (by omega), hBp]
    by_cases h : okP x
    · rw [if_pos h, if_neg (fun h' => h' h), if_neg (by rw [hpn h]; omega)]
    · rw [if_neg h, if_pos h]
  have hE2 : pairE (B ++ [0]) = if okP x then 5 else 4 := by
    rw [pairE, if_neg (by rw [List.length_append]; omega), hBp2]
    by_cases h : okP x
    · rw [if_pos h, if_neg (fun h' => h' h), if_pos (by rw [hpn h, List.length_append, List.length_singleton]; omega)]
    · rw [if_neg h, if_pos h]
  refine enter (args := [_]) (fn := Tryz.f3) ⟨Tryz.func3, rfl, by kernel_rfl, by kernel_rfl⟩ 92 rfl ?_
  refine x_seq (x_region ?_)
  refine tl_e rfl (e_box rfl (fun b1 => ?_))
  refine tl_y rfl (y_assign rfl) ?_
  refine tl_nil (.then_normal ?_)
  refine x_seq (x_seq (x_region ?_))
  refine tl_e rfl (e_call' rfl (awake12_spec hg) ?_)
  rintro _ M1 _ hM1 ⟨rfl, rfl⟩
  have hd := hM1
  refine tl_y rfl (y_not rfl) ?_
  refine tl_nil (.then_normal ?_)
  refine x_false rfl (rfl) ?_
  refine x_skip (.then_normal ?_)
  refine .sub (F' := [(1, _)]) (.cons rfl .nil) ?_
  refine x_seq (x_region ?_)
  refine tl_y rfl (y_loadAgg rfl rfl (.own inferInstance inferInstance)) ?_
  refine tl_e rfl (e_call' rfl (RSets12_spec x) ?_)
  rintro _ _ _ _ ⟨rfl, rfl, rfl⟩
  refine tl_y rfl (y_move (v := .tuple _) rfl) ?_
  refine tl_y rfl (y_extract rfl) ?_
  refine tl_y rfl (y_extract rfl) ?_
  refine tl_y rfl (y_extract rfl) ?_
  refine tl_e rfl (e_alloc (fun b2 => ?_))
  refine tl_e rfl (e_alloc (fun b3 => ?_))
  refine tl_e rfl (e_store rfl rfl (by rfl) (by rfl) inferInstance inferInstance inferInstance ?_)
  refine tl_e rfl (e_store rfl rfl (by rfl) (by rfl) inferInstance inferInstance inferInstance ?_)
  refine tl_y rfl (y_assign (v := .bool _) rfl) ?_
  refine tl_nil (.then_normal ?_)
  refine .sub (F' := [(1, _), (4, _), (5, _)]) (.cons rfl (.cons rfl (.cons rfl .nil))) ?_
  refine x_seq (x_region ?_)
  refine tl_y rfl (y_loadAgg rfl rfl (.own inferInstance inferInstance)) ?_
  refine tl_e rfl (e_call' rfl (Sizes_spec (hg.mono hd) x) ?_)
  rintro _ M2 _ hM2 ⟨rfl, rfl⟩
  replace hd := hd.trans hM2
  refine tl_y rfl (y_move (v := .tuple _) rfl) ?_
  refine tl_y rfl (y_extract rfl) ?_
  refine tl_y rfl (y_extract rfl) ?_
  refine tl_y rfl (y_assign (v := .int _ _) rfl) ?_
  refine tl_y rfl (y_assign (v := .int _ _) rfl) ?_
  refine tl_nil (.then_normal ?_)
  refine .sub (F' := [(1, _), (4, _), (5, _), (6, _), (7, _)]) (.cons rfl (.cons rfl (.cons rfl (.cons rfl (.cons rfl .nil))))) ?_
  refine x_seq (x_seq (x_region ?_))
  refine tl_y rfl (y_loadAgg rfl rfl (.own inferInstance inferInstance)) ?_
  refine tl_e rfl (e_call' rfl (lMay_spec (hg.mono hd).hs x) ?_)
  rintro _ M3 _ hM3 ⟨rfl, rfl⟩
  replace hd := hd.trans hM3
  refine tl_y rfl (y_move (v := .bool _) rfl) ?_
  refine tl_y rfl (y_neqBool rfl rfl) ?_
  refine tl_y rfl (y_move (v := .bool _) rfl) ?_
  refine tl_set (s := 30) (u := .bool false) rfl (congrArg Value.bool (by simp)) ?_
  refine tl_y rfl (y_move (v := .int _ _) rfl) ?_
  refine tl_y rfl (y_gtr rfl rfl) ?_
  rw [hP]
  refine tl_y rfl (y_move (v := .bool _) rfl) ?_
  refine tl_y rfl (y_neqBool rfl rfl) ?_
  refine tl_y rfl (y_pickF rfl rfl) ?_
  refine tl_y rfl (y_move (v := .bool _) rfl) ?_
  refine tl_set (s := 36) (u := .bool false) rfl (congrArg Value.bool (by simp)) ?_
  refine tl_y rfl (y_move (v := .int _ _) rfl) ?_
  refine tl_y rfl (y_gtr rfl rfl) ?_
  rw [hS]
  refine tl_y rfl (y_move (v := .bool _) rfl) ?_
  refine tl_y rfl (y_neqBool rfl rfl) ?_
  refine tl_y rfl (y_pickF rfl rfl) ?_
  refine tl_nil (.then_normal ?_)
  refine .sub (F' := [(1, _), (4, _), (5, _), (6, _), (41, _)]) (.cons rfl (.cons rfl (.cons rfl (.cons rfl (.cons rfl .nil))))) ?_
  refine x_false rfl (by simp) ?_
  refine x_skip (.then_normal ?_)
  refine x_seq ?_
  refine x_meet (I := fun F D M4 L4 => ∃ (A8 : Option Addr) (c8 : Nat) (E8 : Own), F = [(1, .pointer (some ⟨b1, 0, none⟩)), (5, .bool (decide (okP x))), (6, .int .i64 ((szP x : Nat) : Int)), (8, .slice A8 (24 + N) c8)] ∧ D = [] ∧ Le M3 M4 ∧ OwnRow 5 1 A8 (24 + N) c8 (B.map bv) E8 ∧ DropTo L4 (E8 ++ ((b1, .cells (List.toArray x.cells) 24 (0, 0)) :: L))) ?_ (fun Jd7 => ?_)
  ·
    rintro _ _ M4 L4 ⟨A8, c8, E8, rfl, rfl, hM4, hE8, hdr⟩  -- slots [1, 5, 6, 8]
    refine .dropTo _ hdr ?_
    replace hd := hd.trans hM4
    refine x_seq (x_region ?_)
    refine tl_y rfl (y_move (v := .slice _ _ _) rfl) ?_
    refine TL.lend E8 (fun M5 hlent => ?_)
    have hd5 := hd.trans hlent.le
    have hb5 : Bytes M5 A8 (24 + N) c8 B := hlent.row (fun p hp => hp) hE8
    refine tl_e rfl (e_call' rfl (Pair_spec (hg.mono hd5) hb5 (by omega)) ?_)
    rintro _ M6 _ hM6 ⟨rfl, rfl⟩
    refine TL.back (hlent.mono hM6) (fun M7 hM7 => ?_)
    have hd7 := hd.trans hM7
    refine tl_y rfl (y_move (v := .tuple _) rfl) ?_
    refine tl_y rfl (y_extract rfl) ?_
    refine tl_y rfl (y_extract rfl) ?_
    refine tl_e rfl (e_alloc (fun b4 => ?_))
    refine tl_e rfl (e_store rfl rfl (by rfl) (by rfl) inferInstance inferInstance inferInstance ?_)
    refine tl_y rfl (y_assign (v := .int _ _) rfl) ?_
    refine tl_nil (.then_normal ?_)
    refine .sub (F' := [(1, _), (5, _), (6, _), (8, _), (9, _), (10, _)]) (.cons rfl (.cons rfl (.cons rfl (.cons rfl (.cons rfl (.cons rfl .nil)))))) ?_
    refine x_seq (x_region ?_)
    refine tl_y rfl (y_move (v := .slice _ _ _) rfl) ?_
    refine tl_e rfl (e_buildSlice rfl (by decide) (fun b5 => ?_))
    refine .pub b5 inferInstance (fun M8 hM8 hb8 => ?_)
    have hd8 := hd7.trans hM8
    refine .bringE E8 inferInstance ?_
    refine tl_e rfl (e_append (by decide) rfl rfl hE8 (.row (Row.whole (s := 1) (vs := [UInt8.ofNat 0].map bv) hb8 rfl (by omega))) rfl (by omega) (by omega) (fun A9 c9 E9 hE9 => ?_))
    rw [← List.map_append] at hE9
    refine .pubRow hE9 (fun M9 hM9 hb9 => ?_)
    have hd9 := hd8.trans hM9
    refine tl_e rfl (e_call' rfl (Pair_spec (hg.mono hd9) hb9 (by omega)) ?_)
    rintro _ M10 _ hM10 ⟨rfl, rfl⟩
    have hd10 := hd9.trans hM10
    rw [show [UInt8.ofNat 0] = [0] from rfl, hE1, hE2]
    refine tl_y rfl (y_move (v := .tuple _) rfl) ?_
    refine tl_y rfl (y_extract rfl) ?_
    refine tl_y rfl (y_extract rfl) ?_
    refine tl_e rfl (e_alloc (fun b5 => ?_))
    refine tl_e rfl (e_store rfl rfl (by rfl) (by rfl) inferInstance inferInstance inferInstance ?_)
    refine tl_y rfl (y_assign (v := .int _ _) rfl) ?_
    refine tl_nil (.then_normal ?_)
    refine .sub (F' := [(1, _), (5, _), (6, _), (8, _), (9, _), (10, _), (12, _)]) (.cons rfl (.cons rfl (.cons rfl (.cons rfl (.cons rfl (.cons rfl (.cons rfl .nil))))))) ?_
    refine x_seq (x_seq (x_region ?_))
    refine tl_y rfl (y_move (v := .bool _) rfl) ?_
    refine tl_y rfl (y_notd rfl) ?_
    refine tl_nil (.then_normal ?_)
    refine x_cond rfl (fun hc3 => ?_) (fun hc3 => ?_)
    ·
      rw [if_neg hc3, if_neg hc3]
      refine x_seq (x_region ?_)
      refine tl_y rfl (y_move (v := .int _ _) rfl) ?_
      refine tl_y rfl (y_eql rfl rfl) ?_
      refine tl_y rfl (y_move (v := .bool _) rfl) ?_
      refine tl_set (s := 71) (u := .bool true) rfl (rfl) ?_
      refine tl_y rfl (y_move (v := .int _ _) rfl) ?_
      refine tl_y rfl (y_eql rfl rfl) ?_
      refine tl_y rfl (y_pickT rfl rfl) ?_
      refine tl_y rfl (y_assign (v := .bool _) rfl) ?_
      refine tl_nil (.then_normal ?_)
      refine .sub (F' := [(2, _)]) (.cons rfl .nil) ?_
      refine x_ret (.then_ret (ret1 rfl rfl hd10 rfl))
    ·
      have hok : okP x := Classical.not_not.1 hc3
      rw [if_pos hok, if_pos hok]
      refine x_skip (.then_normal ?_)
      refine x_seq (x_region ?_)
      refine tl_y rfl (y_move (v := .int _ _) rfl) ?_
      refine tl_y rfl (y_eql rfl rfl) ?_
      refine tl_y rfl (y_move (v := .bool _) rfl) ?_
      refine tl_set (s := 77) (u := .bool true) rfl (rfl) ?_
      refine tl_y rfl (y_loadAgg rfl rfl (.own inferInstance inferInstance)) ?_
      refine tl_y rfl (y_loadAgg rfl rfl (.own inferInstance inferInstance)) ?_
      refine tl_y rfl (y_eqlS rfl rfl eqs24) ?_
      refine tl_y rfl (y_pickT rfl rfl) ?_
      refine tl_y rfl (y_move (v := .bool _) rfl) ?_
      refine tl_set (s := 82) (u := .bool true) rfl (by
        have : pairX B = x := by rw [pairX, hE1, if_pos hok, if_pos rfl, hBp]
        rw [this]; simp) ?_
      refine tl_y rfl (y_move (v := .slice _ _ _) rfl) ?_
      refine tl_y rfl (y_len rfl) ?_
      refine tl_y rfl (y_move (v := .int _ _) rfl) ?_
      refine tl_y rfl (y_eql rfl rfl) ?_
      refine tl_y rfl (y_pickT rfl rfl) ?_
      refine tl_y rfl (y_move (v := .bool _) rfl) ?_
      refine tl_set (s := 88) (u := .bool true) rfl (congrArg Value.bool (decide_eq_true (by rw [szP, if_pos hok, hpn hok]))) ?_
      refine tl_y rfl (y_move (v := .int _ _) rfl) ?_
      refine tl_y rfl (y_eql rfl rfl) ?_
      refine tl_y rfl (y_pickT rfl rfl) ?_
      refine tl_y rfl (y_assign (v := .bool _) rfl) ?_
      refine tl_nil (.then_normal ?_)
      refine .sub (F' := [(2, _)]) (.cons rfl .nil) ?_
      refine x_ret (ret1 rfl rfl hd10 rfl)
  ·
    have he : Le M3 M3 := Le.refl _
    refine x_draw0 14 ([(b3, .cells (List.toArray (treeV x.t).cells) 29 (0, 0)), (b1, .cells (List.toArray x.cells) 24 (0, 0))]) Keeps.mem hmix rfl ?_
    refine to_p 0 rfl (by kernel_rfl) rfl (y_fieldAddr rfl) ?_
    refine to_y 1 rfl (by kernel_rfl) rfl (y_load rfl rfl (.own inferInstance inferInstance)) ?_
    refine to_p 2 rfl (by kernel_rfl) rfl (y_convN64 rfl (by omega)) ?_
    refine to_p 4 rfl (by kernel_rfl) rfl (y_fieldAddr rfl) ?_
    refine to_y 5 rfl (by kernel_rfl) rfl (y_load rfl rfl (.own inferInstance inferInstance)) ?_
    refine to_p 6 rfl (by kernel_rfl) rfl (y_convN64 rfl (by omega)) ?_
    refine to_p 9 rfl (by kernel_rfl) rfl (y_fieldAddr rfl) ?_
    refine to_y 10 rfl (by kernel_rfl) rfl (y_load (v := .int .i64 (N : Int)) rfl rfl (by rw [← hN]; exact .own inferInstance inferInstance)) ?_
    refine to_p 11 rfl (by kernel_rfl) rfl (y_addI rfl rfl (by omega)) ?_
    rw [show (16 : Int) + (N : Int) = ((16 + N : Nat) : Int) by omega]
    refine to_e 3 rfl (by kernel_rfl) rfl (e_call' rfl (RPutVO_spec x.t.toNat 4 (by omega) (by omega)) ?_)
    rintro _ _ _ _ ⟨rfl, A2, c2, E2, rfl, hE2, rfl⟩
    refine ⟨⟨he, Keeps.mem⟩, ?_⟩
    refine to_e 7 rfl (by kernel_rfl) rfl (e_call' rfl (RPutV_spec x.o.toNat 4 (by omega) (by omega)) ?_)
    rintro _ M5 _ hM5 ⟨rfl, A5, c5, rfl, hA5⟩
    replace he := he.trans hM5
    refine ⟨⟨he, Keeps.mem⟩, ?_⟩
    refine to_e 8 rfl (by kernel_rfl) rfl (e_append (by decide) rfl rfl hE2 (.row hA5) (all_one_bv _) (by omega) (by omega) (fun A6 c6 E6 hE6 => ?_))
    rw [← List.map_append] at hE6
    refine ⟨⟨he, Keeps.mem⟩, ?_⟩
    refine to_e 12 rfl (by kernel_rfl) rfl (e_appendZO (m := 16 + N) rfl rfl rfl hE6 (by omega) (by omega) (by omega) (fun A8 c8 E8 hE8 => ?_))
    rw [zeros_bv, ← hB, show 4 + 4 + (16 + N) = 24 + N by omega] at hE8
    rw [show 4 + 4 + (16 + N) = 24 + N by omega]
    refine ⟨⟨he, Keeps.mem⟩, ?_⟩
    refine to_p 13 rfl (by kernel_rfl) rfl (y_assign (v := .slice _ _ _) rfl) ?_
    refine to_nil (by kernel_rfl) (.then_normal (.sub (F' := [(1, _), (5, _), (6, _), (8, _)]) (.cons rfl (.cons rfl (.cons rfl (.cons rfl .nil)))) (Jd7 _ _ _ _ ?_)))
    exact ⟨A8, c8, E8, rfl, rfl, he, hE8, inferInstance⟩
end
end Go.Proofs.YtiimjodbaogjbaaGreatDoor
set_option linter.unusedVariables false
set_option linter.unusedSimpArgs false
namespace Go.Eng
open Go.ChangeShapes Go.WideShapes Go.ChangeAt Go.RowKit
def memOf (W : World) : Mem := fun b => W.heap[b]?
theorem st_start (W : World) : St W (memOf W) [] W := ⟨rfl, rfl, rfl, fun b o h => h, fun p hp => (by cases hp), by simp⟩
theorem below_of {W W' : World} {M' : Mem} {L' : Own} (hle : Le (memOf W) M') (h : St W M' L' W') : Below W.heap.size W W' := by
  have hb : ∀ k, k < W.heap.size → W'.heap[k]? = W.heap[k]? := fun k hk => by
    have h1 : W.heap[k]? = some W.heap[k] := Array.getElem?_eq_getElem hk
    rw [h1]
    exact h.ro k _ (hle k _ h1)
  refine ⟨h.os, h.tape, h.output, ?_, hb⟩
  rcases Nat.eq_zero_or_pos W.heap.size with h0 | h0
  · omega
  · have h2 := hb (W.heap.size - 1) (by omega)
    have hlt : W.heap.size - 1 < W.heap.size := by omega
    rw [Array.getElem?_eq_getElem hlt] at h2
    have h3 := (Array.getElem?_eq_some_iff.1 h2).1
    omega
theorem calls_of_con {P : Program} {f : FuncId} {args : Array Value} {W : World} (h : Con P f args W (memOf W) [] (fun v _ _ => v = .bool true) noPanic) : Calls P f args W fun e W' => e = .returned (.bool true) ∧ Below W.heap.size W W' :=
  (h.calls W (st_start W)).mono fun e W' he => by
    cases e with
    | returned v => obtain ⟨M', L', a, b, rfl⟩ := he; exact ⟨rfl, below_of a b⟩
    | panicked c => obtain ⟨M', L', a, b, c⟩ := he; exact c.elim
    | outgrown => exact he.elim
section
variable {H : Type} {enc : TypeId × Value → H} {P : Program} {W : World} {t : TypeId} {cs : List Value}
def Rd (enc : TypeId × Value → H) (P : Program) (W : World) (t : TypeId) (cs : List Value) : Prop := ∃ fuel x, DataW.trod enc P W 0 (fun _ => true) true fuel t cs = some x
theorem TI.cellsOf {d : TypeDesc} {z : Value} {s b : Nat} (h : TI P t d z s b) : P.cellsOf t = s := by
  obtain ⟨i, hi, _, hs, _⟩ := h.parts
  simp [Program.cellsOf, hi, hs]
theorem Rd.int {k : IntKind} {z : Value} {s b : Nat} [ti : TI P t (.int k) z s b] (h : Rd enc P W t cs) : ∃ n, cs = [.int k n] ∧ (Lit.int k n).wf = true := by
  obtain ⟨fuel, x, h⟩ := h
  cases fuel with
  | zero => cases h
  | succ fuel =>
    unfold DataW.trod at h
    simp only [ti.und] at h
    split at h <;> simp_all
theorem Rd.bool {z : Value} {s b : Nat} [ti : TI P t .bool z s b] (h : Rd enc P W t cs) : ∃ n, cs = [.bool n] := by
  obtain ⟨fuel, x, h⟩ := h
  cases fuel with
  | zero => cases h
  | succ fuel =>
    unfold DataW.trod at h
    simp only [ti.und] at h
    split at h <;> simp_all
theorem Rd.string {z : Value} {s b : Nat} [ti : TI P t .string z s b] (h : Rd enc P W t cs) : ∃ n : ByteArray, cs = [.string n] ∧ n.size ≤ maxLen := by
  obtain ⟨fuel, x, h⟩ := h
  cases fuel with
  | zero => cases h
  | succ fuel =>
    unfold DataW.trod at h
    simp only [ti.und] at h
    split at h <;> simp_all
theorem mapM_some {α β : Type} {f : α → Option β} : ∀ {l : List α} {r : List β}, l.mapM f = some r → ∀ a ∈ l, ∃ b, f a = some b
  | [], _, _, a, ha => by cases ha
  | x :: l, r, h, a, ha => by
    rw [List.mapM_cons] at h
    simp only [Option.bind_eq_bind, Option.bind_eq_some_iff] at h
    obtain ⟨b, hb, rs, hrs, _⟩ := h
    rcases List.mem_cons.1 ha with rfl | ha
    · exact ⟨b, hb⟩
    · exact mapM_some hrs a ha
theorem Rd.array {m : Nat} {e : TypeId} {z z' : Value} {s b s' b' : Nat} {d' : TypeDesc} [ti : TI P t (.array m e) z s b] [te : TI P e d' z' s' b'] (h : Rd enc P W t cs) : cs.length = s ∧ ∀ i, i < m → Rd enc P W e ((cs.drop (i * s')).take s') := by
  obtain ⟨fuel, x, h⟩ := h
  cases fuel with
  | zero => cases h
  | succ fuel =>
    unfold DataW.trod at h
    simp only [ti.und, ti.cellsOf, te.cellsOf] at h
    split at h
    · rename_i hl
      obtain ⟨y, hy, _⟩ := Option.map_eq_some_iff.1 h
      refine ⟨hl, fun i hi => ?_⟩
      obtain ⟨b, hb⟩ := mapM_some hy i (List.mem_range.2 hi)
      exact ⟨fuel, b, hb⟩
    · cases h
theorem Rd.struct {fs : Array Field} {z : Value} {s b : Nat} [ti : TI P t (.struct fs) z s b] (h : Rd enc P W t cs) : cs.length = s ∧ ∀ f ∈ fs.toList, Rd enc P W f.type ((cs.drop f.offset).take (P.cellsOf f.type)) := by
  obtain ⟨fuel, x, h⟩ := h
  cases fuel with
  | zero => cases h
  | succ fuel =>
    unfold DataW.trod at h
    simp only [ti.und, ti.cellsOf] at h
    split at h
    · rename_i hl
      obtain ⟨y, hy, _⟩ := Option.map_eq_some_iff.1 h
      refine ⟨hl, fun f hf => ?_⟩
      obtain ⟨b, hb⟩ := mapM_some hy f hf
      exact ⟨fuel, b, hb⟩
    · cases h
theorem Rd.slice {e : TypeId} {z z' : Value} {s b s' b' : Nat} {d' : TypeDesc} [ti : TI P t (.slice e) z s b] [te : TI P e d' z' s' b'] (hs : 0 < s') (h : Rd enc P W t cs) :
    ∃ A len cap vs, cs = [.slice A len cap] ∧ Row (memOf W) s' A len cap vs ∧ ∀ i, i < len → Rd enc P W e ((vs.drop (i * s')).take s') := by
  obtain ⟨fuel, x, h⟩ := h
  rcases Deep.open_slice ti.und h with ⟨rfl, _⟩ | ⟨a, len, cap, m, n, D, Pl, rfl, hb, hl, hm, hmm, _, hx⟩
  · exact ⟨none, 0, 0, [], rfl, Row.nil _ _, fun i hi => by omega⟩
  · rw [te.cellsOf] at hx
    have hcap : cap ≤ 9223372036854775807 := by unfold maxLen at hm; omega
    have hlm : len ≤ m := by rw [hmm]; split <;> omega
    have hx : ∀ i, i < len → ∃ cs', W.cells? 0 (a.add (i * s')) s' = some cs' ∧ DataW.trod enc P W 0 (fun _ => true) true n e cs' = some (D i, Pl i) := fun i hi => hx i (by omega)
    rcases Nat.eq_zero_or_pos len with h0 | h0
    · subst h0
      exact ⟨some a, 0, cap, [], rfl, Row.empty _ _ _ hcap, fun i hi => by omega⟩
    · have hspot : a.spot = none := by
        obtain ⟨cs', h1, _⟩ := hx 0 h0
        obtain ⟨_, hlen, hc⟩ := World.cells?_some h1
        have := hc 0 hs
        have hg : cs'[0]? = some (cs'[0]'(by omega)) := List.getElem?_eq_getElem (by omega)
        rw [hg] at this
        have := World.cell?_spot this
        revert this
        unfold Addr.add
        simp
      obtain ⟨bl, off, sp⟩ := a
      simp only at hspot
      subst hspot
      simp only [add_plain] at hx
      -- the cells
      have hcell : ∀ i, i < len * s' → ∃ v, W.cell? ⟨bl, off + i, none⟩ = some v := fun i hi => by
        obtain ⟨cs', h1, _⟩ := hx (i / s') (Nat.div_lt_of_lt_mul (by rwa [Nat.mul_comm]))
        obtain ⟨_, hlen, hc⟩ := World.cells?_some h1
        have hmod := Nat.mod_lt i hs
        have := hc (i % s') hmod
        rw [add_plain, Nat.add_assoc, Nat.add_comm (i / s' * s'), Nat.mod_add_div' i s', List.getElem?_eq_getElem (by omega)] at this
        exact ⟨_, this⟩
      have hblock : ∃ c T fr, W.heap[bl]? = some (.cells c T fr) := by
        obtain ⟨v, hv⟩ := hcell 0 (Nat.mul_pos h0 hs)
        unfold World.cell? at hv
        split at hv
        · rename_i c T fr hh; exact ⟨c, T, fr, hh⟩
        · cases hv
      obtain ⟨c, T, fr, hh⟩ := hblock
      have hc : ∀ i, i < len * s' → c[off + i]? = some (c.getD (off + i) default) ∧ W.cell? ⟨bl, off + i, none⟩ = some (c.getD (off + i) default) := fun i hi => by
        obtain ⟨v, hv⟩ := hcell i hi
        have hv' := hv
        unfold World.cell? at hv
        simp only [hh, Option.isSome_none, Bool.false_eq_true, if_false] at hv
        have : c.getD (off + i) default = v := by simp [Array.getD_eq_getD_getElem?, hv]
        rw [this]
        exact ⟨hv, hv'⟩
      refine ⟨some ⟨bl, off, none⟩, len, cap, (List.range (len * s')).map fun i => c.getD (off + i) default, rfl, ⟨by simp, hl, hcap, fun _ => ⟨bl, off, c, T, fr, rfl, hh, fun j v hj => ?_⟩⟩, fun i hi => ?_⟩
      · rw [List.getElem?_map] at hj
        obtain ⟨k, hk, rfl⟩ := Option.map_eq_some_iff.1 hj
        have hlt := (List.getElem?_eq_some_iff.1 hk).1
        rw [List.getElem?_range (by simpa using hlt)] at hk
        cases hk
        exact (hc _ (by simpa using hlt)).1
      · obtain ⟨cs', h1, h2⟩ := hx i hi
        have : ((((List.range (len * s')).map fun i => c.getD (off + i) default).drop (i * s')).take s') = cs' := by
          obtain ⟨_, hlen, hcc⟩ := World.cells?_some h1
          have hle : (i + 1) * s' ≤ len * s' := Nat.mul_le_mul_right _ hi
          rw [Nat.add_mul, Nat.one_mul] at hle
          apply List.ext_getElem?
          intro j
          rw [List.getElem?_take]
          split
          · rename_i hj
            rw [List.getElem?_drop, List.getElem?_map, List.getElem?_range (by omega)]
            have h3 := hcc j hj
            rw [add_plain, Nat.add_assoc] at h3
            rw [← h3, (hc (i * s' + j) (by omega)).2]
            rfl
          · rw [List.getElem?_eq_none (by omega)]
        rw [this]
        exact ⟨n, _, h2⟩
theorem agg_of {v : Value} {base : Nat} {r : Reach} {d : TypeDesc} {z : Value} {s b : Nat} [ti : TI P t d z s b] (hd : aggD d = true) (h : Value.okWide P W r base t v) : v = .agg v.cells.toList.toArray := by
  simp only [Value.okWide, ti.und] at h
  cases d <;> simp_all [aggD]
  all_goals (obtain ⟨cs, rfl, _⟩ := h; simp [Value.cells])
theorem u8_of {n : Int} (h : (Lit.int .u8 n).wf = true) : ∃ c : UInt8, n = (c.toNat : Int) := by
  simp [Lit.wf, IntKind.min, IntKind.max, IntKind.signed, IntKind.bits] at h
  exact ⟨UInt8.ofNat n.toNat, by simp [UInt8.toNat_ofNat']; omega⟩
theorem ints_of {k : IntKind} : ∀ (vs : List Value), (∀ i, i < vs.length → ∃ n, (vs.drop i).take 1 = [.int k n] ∧ (Lit.int k n).wf = true) → ∃ ts : List Int, vs = ts.map (.int k) ∧ ∀ t ∈ ts, (Lit.int k t).wf = true
  | [], _ => ⟨[], rfl, fun t h => by cases h⟩
  | v :: vs, h => by
    obtain ⟨n, h1, h2⟩ := h 0 (by simp)
    obtain ⟨ts, rfl, ht⟩ := ints_of vs (fun i hi => by simpa using h (i + 1) (by simpa using hi))
    refine ⟨n :: ts, by simpa using h1, fun t hm => ?_⟩
    rcases List.mem_cons.1 hm with rfl | hm
    · exact h2
    · exact ht t hm
theorem Rd.ints {k : IntKind} {e : TypeId} {z z' : Value} {s b b' : Nat} [ti : TI P t (.slice e) z s b] [te : TI P e (.int k) z' 1 b'] (h : Rd enc P W t cs) :
    ∃ (A : Option Addr) (len cap : Nat) (ts : List Int), cs = [.slice A len cap] ∧ Row (memOf W) 1 A len cap (ts.map (.int k)) ∧ ∀ n ∈ ts, (Lit.int k n).wf = true := by
  obtain ⟨A, len, cap, vs, rfl, hr, hx⟩ := h.slice (by omega)
  have hl := hr.len
  obtain ⟨ts, rfl, ht⟩ := ints_of (k := k) vs (fun i hi => by
    have := (hx i (by omega)).int
    simpa using this)
  exact ⟨A, len, cap, ts, rfl, hr, ht⟩
theorem u8s_of : ∀ (ts : List Int), (∀ t ∈ ts, (Lit.int .u8 t).wf = true) → ∃ bs : List UInt8, ts.map (Value.int .u8) = bs.map bv
  | [], _ => ⟨[], rfl⟩
  | t :: ts, h => by
    obtain ⟨c, rfl⟩ := u8_of (h t List.mem_cons_self)
    obtain ⟨bs, hb⟩ := u8s_of ts (fun x hx => h x (List.mem_cons_of_mem _ hx))
    exact ⟨c :: bs, by rw [List.map_cons, List.map_cons, hb]; rfl⟩
theorem Rd.bytes {e : TypeId} {z z' : Value} {s b b' : Nat} [ti : TI P t (.slice e) z s b] [te : TI P e (.int .u8) z' 1 b'] (h : Rd enc P W t cs) :
    ∃ (A : Option Addr) (len cap : Nat) (bs : List UInt8), cs = [.slice A len cap] ∧ Bytes (memOf W) A len cap bs := by
  obtain ⟨A, len, cap, ts, rfl, hr, ht⟩ := h.ints (k := .u8)
  obtain ⟨bs, hb⟩ := u8s_of ts ht
  exact ⟨A, len, cap, bs, rfl, by rw [Bytes, ← hb]; exact hr⟩
end
end Go.Eng
set_option linter.unusedVariables false
set_option linter.unusedSimpArgs false
namespace Go.Eng
open Go.ChangeShapes Go.WideShapes Go.ChangeAt Go.RowKit
section
variable {P : Program} {W : World}
theorem laidVars_mem : ∀ {laid : List (String × DataW Unit)} {ps : List MemPlace}, DataW.LaidVars P W laid ps → ∀ {n d}, (n, d) ∈ laid → ∃ g t cs fuel p, P.globalNamed n = some g ∧ (P.globals[g]?).map (·.type) = some t ∧ W.var? P n = some cs ∧ DataW.trod (fun _ => ()) P W 0 (fun _ => true) false fuel t cs.toList = some (d, p)
  | [], _, _, n, d, hm => by cases hm
  | (n0, d0) :: r, ps, h, n, d, hm => by
    obtain ⟨g, t, cs, fuel, p, q, h1, h2, h3, h4, h5, _⟩ := h
    rcases List.mem_cons.1 hm with he | hm
    · cases he; exact ⟨g, t, cs, fuel, p, h1, h2, h3, h4⟩
    · exact laidVars_mem h5 hm
theorem var_heap {n : String} {g : Nat} {cs : Array Value} (hg : P.globalNamed n = some g) (h : W.var? P n = some cs) : ∃ T fr, memOf W g = some (.cells cs T fr) := by
  simp only [World.var?, hg, Option.bind_some] at h
  unfold memOf
  split at h
  · rename_i c t fr hb
    cases h
    exact ⟨t, fr, hb⟩
  · cases h
theorem map_lits {k : IntKind} : ∀ {ns : List Int} {cs : List Value}, cs.length = ns.length → (∀ i, i < ns.length → ∃ x, (cs.drop i).take 1 = [Value.int k x] ∧ ns[i]? = some x) → cs = ns.map (.int k)
  | [], [], _, _ => rfl
  | [], _ :: _, h, _ => by simp at h
  | _ :: _, [], h, _ => by simp at h
  | n :: ns, c :: cs, h, hx => by
    obtain ⟨x, h1, h2⟩ := hx 0 (by simp)
    simp at h1 h2
    have h3 := map_lits (k := k) (ns := ns) (cs := cs) (by simpa using h) (fun i hi => by simpa using hx (i + 1) (by simpa using hi))
    rw [h1, h2, h3]
    rfl
theorem trod_ints {t e : TypeId} {m : Nat} {k : IntKind} {z z' : Value} {s b b' fuel : Nat} [ti : TI P t (.array m e) z s b] [te : TI P e (.int k) z' 1 b'] {ns : List Int} {cs : List Value} {p : List MemPlace} {sp : Nat → Bool} {held : Bool} {enc : TypeId × Value → Unit}
    (h : DataW.trod enc P W 0 sp held fuel t cs = some (.agg (ns.map fun x => .lit (.int k x)), p)) (hs : s = m) : cs = ns.map (.int k) := by
  obtain ⟨xs, m', rfl, hx, hl, hn, hel⟩ := DataW.trod_array ti.und h
  rw [ti.cellsOf, hs] at hl
  simp only [Prod.mk.injEq, DataW.agg.injEq] at hx
  have hln : ns.length = m := by rw [← hn]; simpa using congrArg List.length hx.1
  refine map_lits (by omega) (fun i hi => ?_)
  have h1 := hel i (by omega)
  rw [te.cellsOf, Nat.mul_one] at h1
  rw [List.getElem?_eq_getElem (show i < xs.length by omega)] at h1
  obtain ⟨x, e1, e2, _⟩ := DataW.trod_int te.und h1
  refine ⟨x, e1, ?_⟩
  have h2 := congrArg (fun l => l[i]?) hx.1
  simp only [List.getElem?_map] at h2
  rw [List.getElem?_eq_getElem (show i < xs.length by omega), List.getElem?_eq_getElem hi] at h2
  simp only [Option.map_some, Option.some.injEq, e2, DataW.lit.injEq, Lit.int.injEq, true_and] at h2
  rw [List.getElem?_eq_getElem hi, h2]
theorem laid_ints {laid : List (String × DataW Unit)} (h : laidMet P laid W) {n : String} {g : Nat} {t e : TypeId} {m : Nat} {k : IntKind} {z z' : Value} {s b b' : Nat} (ns : List Int) (hm : (n, DataW.agg (ns.map fun x => .lit (.int k x))) ∈ laid) (hg : P.globalNamed n = some g)
    (ht : (P.globals[g]?).map (·.type) = some t) (ti : TI P t (.array m e) z s b) (te : TI P e (.int k) z' 1 b') (hs : s = m) : ∃ T fr, memOf W g = some (.cells (ns.map (.int k)).toArray T fr) := by
  obtain ⟨ps, hv, _⟩ := h
  obtain ⟨g', t', cs, fuel, p, h1, h2, h3, h4⟩ := laidVars_mem hv hm
  obtain rfl := Option.some.inj (hg.symm.trans h1)
  obtain rfl := Option.some.inj (ht.symm.trans h2)
  obtain ⟨T, fr, hh⟩ := var_heap hg h3
  have := trod_ints h4 hs
  refine ⟨T, fr, ?_⟩
  rw [hh, ← this]
end
end Go.Eng
set_option linter.unusedVariables false
namespace Go.Proofs.YtiimjodbaogjbaaGreatDoor
open Go Go.Eng Go.ChangeShapes Go.WideShapes Go.ChangeAt Go.RowKit
theorem own : ownKnob Tryz.prog.godebug = none := by kernel_rfl
theorem laidOut : laidOutB Tryz.prog = true := by kernel_rfl
set_option maxRecDepth 100000 in
theorem shutBool {H : Type} {enc : TypeId × Value → H} {W : World} {base : Nat} {sp : Nat → Bool} {held : Bool} (b : Bool) : DataW.Trod enc Tryz.prog W base sp held 4 (.bool b) (.lit (.bool b)) [] := ⟨1, by simp [DataW.trod, Value.cells, Tryz.underlying4]⟩
end Go.Proofs.YtiimjodbaogjbaaGreatDoor
set_option linter.unusedVariables false
namespace Go.Proofs.YtiimjodbaogjbaaGreatDoor
open Go Go.Eng Go.ChangeShapes Go.WideShapes Go.ChangeAt Go.RowKit
section
variable {W : World}
theorem shaG_of {laid : List (String × DataW Unit)} (h : laidMet Tryz.prog laid W) (h1 : ("tearoff/sha2.k", Rows.laid_tearoff_sha2_k) ∈ laid) (h2 : ("tearoff/sha2.first", Rows.laid_tearoff_sha2_first) ∈ laid) : ShaG (memOf W) := by
  refine ⟨?_, ?_⟩
  · obtain ⟨T, fr, hc⟩ := laid_ints h (kT.map fun x => (x.toNat : Int)) h1 (show Tryz.prog.globalNamed "tearoff/sha2.k" = some 6 by kernel_rfl) (show (Tryz.prog.globals[6]?).map (·.type) = some 244 by kernel_rfl) ti244 ti22 rfl
    refine ⟨_, T, fr, hc, fun j hj => ?_⟩
    rw [List.getElem?_toArray, List.map_map]
    exact get_u32' kT j hj
  · obtain ⟨T, fr, hc⟩ := laid_ints h (H8.init.list.map fun x => (x.toNat : Int)) h2 (show Tryz.prog.globalNamed "tearoff/sha2.first" = some 5 by kernel_rfl) (show (Tryz.prog.globals[5]?).map (·.type) = some 230 by kernel_rfl) ti230 ti22 rfl
    exact ⟨T, fr, hc⟩
end
end Go.Proofs.YtiimjodbaogjbaaGreatDoor
