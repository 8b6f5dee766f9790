/-
Contracts of functions, each proved by a walk through its code.
-/
import Derived.Test.YtlednbmmchalkaaLaw19
set_option linter.unusedVariables false
set_option linter.unusedSimpArgs false
namespace Go.Proofs.Ytlednbmmchalkaa
open Go Go.Eng
section
variable {G : World} {M : Mem} {L R : Own}
def tS1 (old : UInt8) : DS := { sure := [zeros], pend := [(0, rowB old 64)], fail := [], stop := 0, count := 1, down := false }
def tS2 (old : UInt8) : DS := { sure := [rowB old 64], pend := [], fail := [], stop := 0, count := 2, down := false }
def tS3 (old b : UInt8) (dn : Bool) : DS := { sure := [rowB old 64], pend := [(0, rowB b 64)], fail := [], stop := 0, count := 3, down := dn }
def tS4 (old b c : UInt8) : DS := { sure := [afterF (rowB old 64) (rowB b 64) c], pend := [], fail := [], stop := 0, count := 0, down := false }
theorem t1 (old : UInt8) : writeRes (fresh 1) 0 (rowB old 64) = (tS1 old, 0) := by
  simp [writeRes, doingRes, fresh, rowB_length, tS1, added]
theorem t2 (old : UInt8) : flushRes (tS1 old) = (tS2 old, 0) := by
  simp [flushRes, doingRes, tS1, tS2, flushed, flushTo]
theorem t3 (old b : UInt8) : writeRes (tS2 old) 0 (rowB b 64) = (tS3 old b false, 0) := by
  simp [writeRes, doingRes, rowB_length, tS2, tS3, added]
theorem t4 (old b c : UInt8) (dn : Bool) : upped (tS3 old b dn) [c] [] 0 = tS4 old b c := by
  simp [upped, tS3, tS4, upGo, nextC]
theorem t5 (old b c : UInt8) : readRes (tS4 old b c) 0 = (afterF (rowB old 64) (rowB b 64) c, 0) := by
  simp [readRes, tS4, lastW]
theorem DiskTorn_spec (old b c x : UInt8) :
    Con Try.prog 4 #[.int .u8 old.toNat, .int .u8 b.toNat, .agg #[.int .u8 c.toNat, .int .u8 x.toNat]] G M L (fun v M' L' => v = .bool true) noPanic := by
  have hc := c.toNat_lt
  have hk : (if (64 : Int) < (c.toNat : Int) / 4 then (64 : Int) else (c.toNat : Int) / 4) = ((min (c.toNat / 4) 64 : Nat) : Int) := by split <;> omega
  have hk64 : min (c.toNat / 4) 64 ≤ 64 := by omega
  refine enter (args := [_, _, _]) (fn := Try.f4) ⟨Try.func4, rfl, by kernel_rfl, by kernel_rfl⟩ 108 rfl ?_
  refine x_seq (x_region ?_)
  refine tl_e rfl (e_box rfl (fun b1 => ?_))
  refine tl_y rfl (y_assign rfl) ?_
  refine tl_nil (.then_normal ?_)
  refine x_seq (x_seq (x_region ?_))
  refine tl_e rfl (e_call' rfl awake_spec ?_)
  rintro _ M1 L1 hM1 ⟨rfl, rfl⟩
  have hm := hM1
  refine tl_y rfl (y_not rfl) ?_
  refine tl_nil (.then_normal ?_)
  refine x_false rfl (rfl) ?_
  refine x_skip (.then_normal ?_)
  refine .sub (F' := [(0, _), (1, _), (5, _)]) (.cons rfl (.cons rfl (.cons rfl .nil))) ?_
  refine x_seq (x_region ?_)
  refine tl_y rfl (y_indexArrK 0 rfl rfl (by omega)) ?_
  refine tl_y rfl (y_load rfl rfl (.own inferInstance inferInstance)) ?_
  refine tl_y rfl (y_assign (v := .int _ _) rfl) ?_
  refine tl_nil (.then_normal ?_)
  refine x_seq (x_region ?_)
  refine tl_y rfl (y_indexArrK 1 rfl rfl (by omega)) ?_
  refine tl_y rfl (y_load rfl rfl (.own inferInstance inferInstance)) ?_
  refine tl_y rfl (y_remI rfl rfl (by omega)) ?_
  refine tl_y rfl (y_eql rfl rfl) ?_
  refine tl_y rfl (y_assign (v := .bool _) rfl) ?_
  refine tl_nil (.then_normal ?_)
  refine .sub (F' := [(0, _), (1, _), (7, _), (8, _)]) (.cons rfl (.cons rfl (.cons rfl (.cons rfl .nil)))) ?_
  refine x_seq (x_region ?_)
  refine tl_e rfl (e_call' rfl (New_spec 1) ?_)
  intro _ M2 L2 hM2 hv
  replace hm := hm.trans hM2
  rw [if_neg (by omega)] at hv
  obtain ⟨p, ⟨r2, hd2, rfl⟩, rfl⟩ := hv
  refine tl_y rfl (y_move (v := .tuple _) rfl) ?_
  refine tl_y rfl (y_extract rfl) ?_
  refine tl_y rfl (y_extract rfl) ?_
  refine tl_y rfl (y_assign (v := .pointer _) rfl) ?_
  refine tl_y rfl (y_assign (v := .int _ _) rfl) ?_
  refine tl_nil (.then_normal ?_)
  refine .sub (F' := [(0, _), (1, _), (7, _), (8, _), (9, _), (10, _)]) (.cons rfl (.cons rfl (.cons rfl (.cons rfl (.cons rfl (.cons rfl .nil)))))) ?_
  refine x_seq (x_seq (x_region ?_))
  refine tl_y rfl (y_move (v := .pointer _) rfl) ?_
  refine tl_y rfl (y_eqNilPtr rfl rfl) ?_
  refine tl_y rfl (y_move (v := .bool _) rfl) ?_
  refine tl_set (s := 31) (u := .bool false) rfl (rfl) ?_
  refine tl_y rfl (y_move (v := .int _ _) rfl) ?_
  refine tl_y rfl (y_neq rfl rfl) ?_
  refine tl_y rfl (y_pickF rfl rfl) ?_
  refine tl_nil (.then_normal ?_)
  refine .sub (F' := [(0, _), (1, _), (7, _), (8, _), (9, _), (34, _)]) (.cons rfl (.cons rfl (.cons rfl (.cons rfl (.cons rfl (.cons rfl .nil)))))) ?_
  refine x_false rfl (rfl) ?_
  refine x_skip (.then_normal ?_)
  refine x_seq (x_seq (x_region ?_))
  refine tl_y rfl (y_move (v := .pointer _) rfl) ?_
  refine tl_y rfl (y_move (v := .int _ _) rfl) ?_
  refine tl_e rfl (e_call' rfl (row64_spec _ old rfl) ?_)
  rintro _ M3 L3 hM3 ⟨rfl, A3, rfl, hA3⟩
  replace hm := hm.trans hM3
  refine tl_e rfl (e_call' rfl (Write_spec (hd2.mono hM3) (by simp [fresh]) (by simp [fresh]) hA3) ?_)
  rintro _ M4 L4 hM4 ⟨⟨r4, hd4, rfl⟩, rfl⟩
  replace hm := hm.trans hM4
  rw [show writeRes (fresh (1 : Int).toNat) 0 (rowB old 64) = (tS1 old, 0) from t1 old] at hd4 ⊢
  refine tl_y rfl (y_neq rfl rfl) ?_
  refine tl_y rfl (y_move (v := .bool _) rfl) ?_
  refine tl_set (s := 40) (u := .bool false) rfl (rfl) ?_
  refine tl_y rfl (y_move (v := .pointer _) rfl) ?_
  refine tl_e rfl (e_call' rfl (Flush_spec (S := tS1 old) hd4 (by simp [tS1]) (by simp [tS1])) ?_)
  rintro _ M5 L5 hM5 ⟨⟨r5, hd5, rfl⟩, rfl⟩
  replace hm := hm.trans hM5
  rw [t2] at hd5 ⊢
  refine tl_y rfl (y_neq rfl rfl) ?_
  refine tl_y rfl (y_pickF rfl rfl) ?_
  refine tl_y rfl (y_move (v := .bool _) rfl) ?_
  refine tl_set (s := 45) (u := .bool false) rfl (rfl) ?_
  refine tl_y rfl (y_move (v := .pointer _) rfl) ?_
  refine tl_y rfl (y_move (v := .int _ _) rfl) ?_
  refine tl_e rfl (e_call' rfl (row64_spec _ b rfl) ?_)
  rintro _ M6 L6 hM6 ⟨rfl, A6, rfl, hA6⟩
  replace hm := hm.trans hM6
  refine tl_e rfl (e_call' rfl (Write_spec (S := tS2 old) (hd5.mono hM6) (by simp [tS2]) (by simp [tS2]) hA6) ?_)
  rintro _ M7 L7 hM7 ⟨⟨r7, hd7, rfl⟩, rfl⟩
  replace hm := hm.trans hM7
  rw [t3] at hd7 ⊢
  refine tl_y rfl (y_neq rfl rfl) ?_
  refine tl_y rfl (y_pickF rfl rfl) ?_
  refine tl_nil (.then_normal ?_)
  refine .sub (F' := [(0, _), (1, _), (7, _), (8, _), (9, _), (51, _)]) (.cons rfl (.cons rfl (.cons rfl (.cons rfl (.cons rfl (.cons rfl .nil)))))) ?_
  refine x_false rfl (rfl) ?_
  refine x_skip (.then_normal ?_)
  refine x_join (I := fun F D M1 L1 => D = [] ∧ Le M M1 ∧ ∃ dn r' X, IsDisk M1 r' (tS3 old b dn) ∧ L1 = dL p r' (tS3 old b dn) X ∧ F = [(0, .int .u8 old.toNat), (1, .int .u8 b.toNat), (7, .int .u8 c.toNat), (9, .pointer (some ⟨p, 0, none⟩))]) ?_ (fun Jj1 => ?_)
  ·
    rintro _ _ M8 L8 ⟨rfl, hM8, dn, r8, X, hd8, rfl, rfl⟩  -- slots [0, 1, 7, 9]
    refine x_seq (x_region ?_)
    refine tl_y rfl (y_move (v := .pointer _) rfl) ?_
    refine tl_y rfl (y_move (v := .int _ _) rfl) ?_
    refine tl_e rfl (e_buildSlice rfl (by decide) (fun b2 => ?_))
    refine tl_y rfl (y_build rfl) ?_
    refine .pub b2 inferInstance (fun M9 hM9 hb2 => ?_)
    have hm := hM8.trans hM9
    have hcs : Bytes M9 (some ⟨b2, 0, none⟩) 1 1 [c] := Row.whole hb2 rfl (by omega)
    refine tl_e rfl (e_call' rfl (Up_spec (S := tS3 old b dn) (hd8.mono hM9) (by simp [tS3]) hcs (xs := []) (Row.nil _ _) (by omega) 0) ?_)
    rintro _ M10 L10 hM10 ⟨r10, hd10, rfl⟩
    replace hm := hm.trans hM10
    rw [t4] at hd10 ⊢
    refine tl_nil (.then_normal ?_)
    refine .sub (F' := [(0, _), (1, _), (7, _), (9, _)]) (.cons rfl (.cons rfl (.cons rfl (.cons rfl .nil)))) ?_
    refine x_seq (x_region ?_)
    refine tl_y rfl (y_move (v := .pointer _) rfl) ?_
    refine tl_e rfl (e_call' rfl (Read_spec (S := tS4 old b c) hd10 0) ?_)
    rintro _ M11 L11 hM11 ⟨rfl, A11, n11, c11, rfl, hA11⟩
    replace hm := hm.trans hM11
    rw [t5] at hA11 ⊢
    refine tl_y rfl (y_move (v := .tuple _) rfl) ?_
    refine tl_y rfl (y_extract rfl) ?_
    refine tl_y rfl (y_extract rfl) ?_
    refine tl_y rfl (y_assign (v := .slice _ _ _) rfl) ?_
    refine tl_y rfl (y_assign (v := .int _ _) rfl) ?_
    refine tl_nil (.then_normal ?_)
    refine .sub (F' := [(0, _), (1, _), (7, _), (11, _), (12, _)]) (.cons rfl (.cons rfl (.cons rfl (.cons rfl (.cons rfl .nil))))) ?_
    refine x_seq (x_region ?_)
    refine tl_y rfl (y_move (v := .int _ _) rfl) ?_
    refine tl_y rfl (y_convI rfl (by omega)) ?_
    refine tl_y rfl (y_quoI rfl rfl (by omega)) ?_
    refine tl_y rfl (y_min rfl rfl) ?_
    rw [hk]; generalize hke : min (c.toNat / 4) 64 = k at hk64
    refine tl_y rfl (y_assign (v := .int _ _) rfl) ?_
    refine tl_nil (.then_normal ?_)
    refine .sub (F' := [(0, _), (1, _), (7, _), (11, _), (12, _), (13, _)]) (.cons rfl (.cons rfl (.cons rfl (.cons rfl (.cons rfl (.cons rfl .nil)))))) ?_
    refine x_seq (x_region ?_)
    refine tl_y rfl (y_move (v := .int _ _) rfl) ?_
    refine tl_e rfl (e_call' rfl (row64_spec _ old rfl) ?_)
    rintro _ M12 L12 hM12 ⟨rfl, A12, rfl, hA12⟩
    replace hm := hm.trans hM12
    refine tl_y rfl (y_assign (v := .slice _ _ _) rfl) ?_
    refine tl_nil (.then_normal ?_)
    refine x_seq (x_region ?_)
    refine tl_y rfl (y_move (v := .int _ _) rfl) ?_
    refine tl_e rfl (e_call' rfl (row64_spec _ b rfl) ?_)
    rintro _ M13 L13 hM13 ⟨rfl, A13, rfl, hA13⟩
    replace hm := hm.trans hM13
    replace hA11 := hA11.mono (hM12.trans hM13)
    replace hA12 := hA12.mono hM13
    refine tl_y rfl (y_assign (v := .slice _ _ _) rfl) ?_
    refine tl_nil (.then_normal ?_)
    refine .sub (F' := [(7, _), (11, _), (12, _), (13, _), (14, _), (15, _)]) (.cons rfl (.cons rfl (.cons rfl (.cons rfl (.cons rfl (.cons rfl .nil)))))) ?_
    refine x_seq (x_region ?_)
    refine tl_y rfl (y_move (v := .slice _ _ _) rfl) ?_
    refine tl_y rfl (y_assign (v := .slice _ _ _) rfl) ?_
    refine tl_nil (.then_normal ?_)
    refine x_join (I := fun F D M1 L1 => D = [] ∧ Le M13 M1 ∧ L1 = dL p r10 (tS4 old b c) X ∧ ∃ A n cc, Bytes M1 A n cc (afterF (rowB old 64) (rowB b 64) c) ∧ F = [(11, .slice A11 n11 c11), (12, .int .i64 0), (16, .slice A n cc)]) ?_ (fun Jj2 => ?_)
    ·
      rintro _ _ M14 L14 ⟨rfl, hM14, rfl, A14, n14, c14, hA14, rfl⟩  -- slots [11, 12, 16]
      refine x_seq (x_region ?_)
      refine tl_y rfl (y_move (v := .int _ _) rfl) ?_
      refine tl_y rfl (y_eql rfl rfl) ?_
      refine tl_y rfl (y_move (v := .bool _) rfl) ?_
      refine tl_set (s := 103) (u := .bool true) rfl (rfl) ?_
      refine tl_y rfl (y_move (v := .slice _ _ _) rfl) ?_
      refine tl_y rfl (y_move (v := .slice _ _ _) rfl) ?_
      refine tl_e rfl (e_call' rfl (same_spec (hA11.mono hM14) hA14) ?_)
      rintro _ M15 L15 hM15 ⟨rfl, rfl, rfl⟩
      refine tl_y rfl (y_pickT rfl rfl) ?_
      refine tl_y rfl (y_assign (v := .bool _) rfl) ?_
      refine tl_nil (.then_normal ?_)
      refine .sub (F' := [(6, _)]) (.cons rfl .nil) ?_
      refine x_ret (ret1 rfl rfl (hm.trans hM14) (by simp))
    ·
      refine x_seq (x_region ?_)
      refine tl_y rfl (y_move (v := .int _ _) rfl) ?_
      refine tl_y rfl (y_remI rfl rfl (by omega)) ?_
      refine tl_nil (.then_normal ?_)
      refine x_block ?_
      refine x_seq (x_region ?_)
      refine tl_y rfl (y_eql rfl rfl) ?_
      refine tl_y rfl (y_assign (v := .bool _) rfl) ?_
      refine tl_nil (.then_normal ?_)
      refine .sub (F' := [(11, _), (12, _), (13, _), (14, _), (15, _), (16, _), (75, _), (76, _)]) (.cons rfl (.cons rfl (.cons rfl (.cons rfl (.cons rfl (.cons rfl (.cons rfl (.cons rfl .nil)))))))) ?_
      refine x_cond rfl (fun hc4 => ?_) (fun hc4 => ?_)
      ·
        refine x_region ?_
        refine tl_y rfl (y_move (v := .slice _ _ _) rfl) ?_
        refine tl_y rfl (y_assign (v := .slice _ _ _) rfl) ?_
        refine tl_nil (.block_normal (.then_normal (.sub (F' := [(11, _), (12, _), (16, _)]) (.cons rfl (.cons rfl (.cons rfl .nil))) (Jj2 _ _ _ _ ?_))))
        exact ⟨rfl, Le.refl _, rfl, _, _, _, (by rw [afterF, if_neg (by omega), if_pos (by omega)]; exact hA13), rfl⟩
      ·
        refine x_seq (x_region ?_)
        refine tl_y rfl (y_eql rfl rfl) ?_
        refine tl_y rfl (y_assign (v := .bool _) rfl) ?_
        refine tl_nil (.then_normal ?_)
        refine x_cond rfl (fun hc5 => ?_) (fun hc5 => ?_)
        ·
          refine x_draw 4 hmix rfl ?_
          refine to_p 1 rfl (by kernel_rfl) rfl (y_move (v := .slice _ _ _) rfl) ?_
          refine to_p 2 rfl (by kernel_rfl) rfl (y_move (v := .int _ _) rfl) ?_
          refine to_p 3 rfl (by kernel_rfl) rfl (y_sliceH rfl rfl (by omega) (by omega)) ?_
          simp only [Int.toNat_natCast]
          refine to_p 5 rfl (by kernel_rfl) rfl (y_move (v := .slice _ _ _) rfl) ?_
          refine to_p 6 rfl (by kernel_rfl) rfl (y_move (v := .int _ _) rfl) ?_
          refine to_p 7 rfl (by kernel_rfl) rfl (y_sliceL rfl rfl (by omega)) ?_
          simp only [Int.toNat_natCast]
          refine to_e 0 rfl (by kernel_rfl) rfl (e_buildSlice0 (fun b3 => ?_))
          refine ⟨⟨(by first | exact Le.refl _ | assumption), Keeps.mem⟩, ?_⟩
          refine to_t 4 rfl (by kernel_rfl) (by kernel_rfl) rfl (e_append1 (by decide) rfl rfl OwnRow.made00 (.row (Bytes.take hA13 k hk64)) (all_one_bv _) (by omega) (by omega) (fun A1 cap1 E1 hE1 => ?_))
          refine to_t 8 rfl (by kernel_rfl) (by kernel_rfl) rfl (e_append (E := E1) (by decide) rfl rfl hE1 (.row (Bytes.drop hA12 k hk64)) (all_one_bv _) (by omega) (by omega) (fun A2 cap2 E2 hE2 => ?_))
          refine to_p 9 rfl (by kernel_rfl) rfl (y_assign (v := .slice _ _ _) rfl) ?_
          refine to_nil (by kernel_rfl) (.block_normal (.then_normal (.pubRow hE2 fun M15 hM15 hr => .sub (F' := [(11, _), (12, _), (16, _)]) (.cons rfl (.cons rfl (.cons rfl .nil))) (Jj2 _ _ _ _ ?_))))
          exact ⟨rfl, hM15, rfl, _, _, _, (by
  rw [afterF, if_neg (by omega), if_neg (by omega), if_pos (by omega), hke]
  rw [List.nil_append, ← List.map_append] at hr
  exact hr), rfl⟩
        ·
          refine x_seq (x_region ?_)
          refine tl_y rfl (y_eql rfl rfl) ?_
          refine tl_y rfl (y_assign (v := .bool _) rfl) ?_
          refine tl_nil (.then_normal ?_)
          refine .sub (F' := [(11, _), (12, _), (13, _), (14, _), (15, _), (16, _), (90, _)]) (.cons rfl (.cons rfl (.cons rfl (.cons rfl (.cons rfl (.cons rfl (.cons rfl .nil))))))) ?_
          refine x_cond rfl (fun hc6 => ?_) (fun hc6 => ?_)
          ·
            refine x_draw 4 hmix rfl ?_
            refine to_p 1 rfl (by kernel_rfl) rfl (y_move (v := .slice _ _ _) rfl) ?_
            refine to_p 2 rfl (by kernel_rfl) rfl (y_move (v := .int _ _) rfl) ?_
            refine to_p 3 rfl (by kernel_rfl) rfl (y_sliceH rfl rfl (by omega) (by omega)) ?_
            simp only [Int.toNat_natCast]
            refine to_p 5 rfl (by kernel_rfl) rfl (y_move (v := .slice _ _ _) rfl) ?_
            refine to_p 6 rfl (by kernel_rfl) rfl (y_move (v := .int _ _) rfl) ?_
            refine to_p 7 rfl (by kernel_rfl) rfl (y_sliceL rfl rfl (by omega)) ?_
            simp only [Int.toNat_natCast]
            refine to_e 0 rfl (by kernel_rfl) rfl (e_buildSlice0 (fun b4 => ?_))
            refine ⟨⟨(by first | exact Le.refl _ | assumption), Keeps.mem⟩, ?_⟩
            refine to_t 4 rfl (by kernel_rfl) (by kernel_rfl) rfl (e_append1 (by decide) rfl rfl OwnRow.made00 (.row (Bytes.take hA12 k hk64)) (all_one_bv _) (by omega) (by omega) (fun A1 cap1 E1 hE1 => ?_))
            refine to_t 8 rfl (by kernel_rfl) (by kernel_rfl) rfl (e_append (E := E1) (by decide) rfl rfl hE1 (.row (Bytes.drop hA13 k hk64)) (all_one_bv _) (by omega) (by omega) (fun A2 cap2 E2 hE2 => ?_))
            refine to_p 9 rfl (by kernel_rfl) rfl (y_assign (v := .slice _ _ _) rfl) ?_
            refine to_nil (by kernel_rfl) (.block_normal (.then_normal (.pubRow hE2 fun M15 hM15 hr => .sub (F' := [(11, _), (12, _), (16, _)]) (.cons rfl (.cons rfl (.cons rfl .nil))) (Jj2 _ _ _ _ ?_))))
            exact ⟨rfl, hM15, rfl, _, _, _, (by
  rw [afterF, if_neg (by omega), if_neg (by omega), if_neg (by omega), hke]
  rw [List.nil_append, ← List.map_append] at hr
  exact hr), rfl⟩
          ·
            refine x_skip (.block_normal (.then_normal (.sub (F' := [(11, _), (12, _), (16, _)]) (.cons rfl (.cons rfl (.cons rfl .nil))) (Jj2 _ _ _ _ ?_))))
            exact ⟨rfl, Le.refl _, rfl, _, _, _, (by rw [afterF, if_pos (by omega)]; exact hA12), rfl⟩
  ·
    refine x_seq (x_region ?_)
    refine tl_y rfl (y_move (v := .bool _) rfl) ?_
    refine tl_nil (.then_normal ?_)
    refine x_cond rfl (fun hc7 => ?_) (fun hc7 => ?_)
    ·
      refine x_region ?_
      refine tl_y rfl (y_move (v := .pointer _) rfl) ?_
      refine tl_e rfl (e_call' rfl (Stop_spec (S := tS3 old b false) hd7) ?_)
      rintro _ M8 L8 hM8 ⟨rfl, r8, hd8, rfl⟩
      refine tl_nil (.then_normal (.sub (F' := [(0, _), (1, _), (7, _), (9, _)]) (.cons rfl (.cons rfl (.cons rfl (.cons rfl .nil)))) (Jj1 _ _ _ _ ?_)))
      exact ⟨rfl, hm, true, r8, _, hd8, rfl, rfl⟩
    ·
      refine x_skip (.then_normal (.sub (F' := [(0, _), (1, _), (7, _), (9, _)]) (.cons rfl (.cons rfl (.cons rfl (.cons rfl .nil)))) (Jj1 _ _ _ _ ?_)))
      exact ⟨rfl, hm, false, r7, _, hd7, rfl, rfl⟩
end
end Go.Proofs.Ytlednbmmchalkaa
