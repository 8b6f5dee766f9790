/-
Contracts of functions, each proved by a walk through its code.
-/
import Derived.Test.YtlednbmmchalkaaLaw19
set_option linter.unusedVariables false
set_option linter.unusedSimpArgs false
namespace Go.Proofs.Ytlednbmmchalkaa
open Go Go.Eng
section
variable {G : World} {M : Mem} {L R : Own}
theorem u8_cast (j : Nat) : IntKind.u8.wrap (j : Int) = ((UInt8.ofNat j).toNat : Int) := by
  rw [IntKind.wrap_u8, UInt8.toNat_ofNat']
  omega
def wPend : Nat → List (Int × List UInt8)
  | 0 => []
  | m + 1 => wPend m ++ [(0, rowB (UInt8.ofNat (m + 1)) 64)]
theorem wPend_length : ∀ m, (wPend m).length = m
  | 0 => rfl
  | m + 1 => by simp [wPend, wPend_length m]
def dD (k at_ m : Nat) (c : Int) (dn : Bool) : DS := { sure := List.replicate k zeros, pend := wPend m, fail := [], stop := at_, count := c, down := dn }
theorem dD_write {k at_ m : Nat} (hk : 0 < k) (hm : m + 1 < at_) : writeRes (dD k at_ m m false) 0 (rowB (UInt8.ofNat (m + 1)) 64) = (dD k at_ (m + 1) (m + 1 : Nat) false, 0) := by
  have h1 : ¬ ((dD k at_ m m false).down = false ∧ (¬ (0 ≤ (0 : Int) ∧ (0 : Int) < (dD k at_ m m false).sure.length) ∨ (rowB (UInt8.ofNat (m + 1)) 64).length ≠ 64)) := by
    simp [dD, rowB_length]; omega
  rw [writeRes, if_neg h1, doingRes, if_neg (by simp [dD]), if_neg (by show ¬ ((m : Int) + 1 = at_); omega), if_neg (by simp [dD])]
  simp [dD, wPend, added]
theorem dD_flush {k at_ m : Nat} (hm : m + 1 = at_) : flushRes (dD k at_ m m false) = (dD k at_ m (m + 1 : Nat) true, 6) := by
  rw [flushRes, doingRes, if_neg (by simp [dD]), if_pos (by show (m : Int) + 1 = at_; omega)]
  simp [dD]
theorem dD_read {k at_ m : Nat} {c : Int} (i : Int) : (readRes (dD k at_ m c true) i).2 = 6 := by simp [readRes, dD]
theorem dD_no {k at_ m : Nat} {c : Int} (i : Int) (bs : List UInt8) : writeRes (dD k at_ m c true) i bs = (dD k at_ m c true, 6) := by
  rw [writeRes, if_neg (by simp [dD]), doingRes, if_pos (by simp [dD])]
theorem dD_up {k at_ m : Nat} {c : Int} (hk : 0 < k) (cs : List UInt8) : (readRes (upped (dD k at_ m c true) cs [] 0) 0).2 = 0 := by
  rw [readRes, if_neg (by simp [upped]), if_pos ⟨by omega, by simp [upped, upGo_length, dD]; omega⟩]
theorem DiskDown_spec (n x : UInt8) (i : Int) :
    Con Try.prog 5 #[.int .u8 n.toNat, .int .i64 i, .int .u8 x.toNat] G M L (fun v M' L' => v = .bool true) noPanic := by
  have hn := n.toNat_lt
  have hx := x.toNat_lt
  refine enter (args := [_, _, _]) (fn := Try.f5) ⟨Try.func5, rfl, by kernel_rfl, by kernel_rfl⟩ 116 rfl ?_
  refine x_seq (x_region ?_)
  refine tl_y rfl (y_assign rfl) ?_
  refine tl_nil (.then_normal ?_)
  refine x_seq (x_seq (x_region ?_))
  refine tl_e rfl (e_call' rfl awake_spec ?_)
  rintro _ M1 L1 hM1 ⟨rfl, rfl⟩
  have hm := hM1
  refine tl_y rfl (y_not rfl) ?_
  refine tl_nil (.then_normal ?_)
  refine x_false rfl (rfl) ?_
  refine x_skip (.then_normal ?_)
  refine x_seq (x_region ?_)
  refine tl_y rfl (y_move (v := .int _ _) rfl) ?_
  refine tl_y rfl (y_convI rfl (by omega)) ?_
  refine tl_y rfl (y_remI rfl rfl (by omega)) ?_
  refine tl_y rfl (y_addI rfl rfl (by omega)) ?_
  refine tl_y rfl (y_assign (v := .int _ _) rfl) ?_
  refine tl_nil (.then_normal ?_)
  refine .sub (F' := [(1, _), (2, _), (6, _), (7, _)]) (.cons rfl (.cons rfl (.cons rfl (.cons rfl .nil)))) ?_
  refine x_seq (x_region ?_)
  refine tl_y rfl (y_move (v := .int _ _) rfl) ?_
  refine tl_e rfl (e_call' rfl (New_spec _) ?_)
  intro _ M2 L2 hM2 hv
  replace hm := hm.trans hM2
  rw [if_neg (by omega)] at hv
  obtain ⟨p, ⟨r2, hd2, rfl⟩, rfl⟩ := hv
  obtain ⟨K, hK, hK0⟩ : ∃ K, (1 + (n.toNat : Int) % 20).toNat = K ∧ 0 < K := ⟨_, rfl, by omega⟩
  rw [hK] at hd2 ⊢
  refine tl_y rfl (y_move (v := .tuple _) rfl) ?_
  refine tl_y rfl (y_extract rfl) ?_
  refine tl_y rfl (y_extract rfl) ?_
  refine tl_y rfl (y_assign (v := .pointer _) rfl) ?_
  refine tl_y rfl (y_assign (v := .int _ _) rfl) ?_
  refine tl_nil (.then_normal ?_)
  refine .sub (F' := [(1, _), (2, _), (6, _), (8, _)]) (.cons rfl (.cons rfl (.cons rfl (.cons rfl .nil)))) ?_
  refine x_seq (x_seq (x_region ?_))
  refine tl_y rfl (y_move (v := .pointer _) rfl) ?_
  refine tl_y rfl (y_eqNilPtr rfl rfl) ?_
  refine tl_nil (.then_normal ?_)
  refine x_false rfl (rfl) ?_
  refine x_skip (.then_normal ?_)
  refine x_seq (x_region ?_)
  refine tl_y rfl (y_move (v := .int _ _) rfl) ?_
  refine tl_y rfl (y_convI rfl (by omega)) ?_
  refine tl_y rfl (y_remI rfl rfl (by omega)) ?_
  refine tl_y rfl (y_addI rfl rfl (by omega)) ?_
  refine tl_y rfl (y_assign (v := .int _ _) rfl) ?_
  obtain ⟨a, ha, ha0⟩ : ∃ a : Nat, 1 + (x.toNat : Int) % 5 = a ∧ 0 < a ∧ a ≤ 5 := ⟨(1 + (x.toNat : Int) % 5).toNat, by omega, by omega⟩
  rw [ha]
  refine tl_nil (.then_normal ?_)
  refine .sub (F' := [(1, _), (6, _), (8, _), (10, _)]) (.cons rfl (.cons rfl (.cons rfl (.cons rfl .nil)))) ?_
  refine x_seq (x_region ?_)
  refine tl_y rfl (y_move (v := .pointer _) rfl) ?_
  refine tl_y rfl (y_move (v := .int _ _) rfl) ?_
  refine tl_y rfl (y_build rfl) ?_
  refine tl_e rfl (e_call' rfl (Plan_spec hd2 (xs := []) (Row.nil _ _) (by omega) a) ?_)
  rintro _ M3 L3 hM3 ⟨r3, hd3, rfl⟩
  replace hm := hm.trans hM3
  change IsDisk _ _ (dD K a 0 0 false) at hd3
  refine tl_nil (.then_normal ?_)
  refine .sub (F' := [(1, _), (6, _), (8, _), (10, _)]) (.cons rfl (.cons rfl (.cons rfl (.cons rfl .nil)))) ?_
  refine x_seq (x_seq (x_region ?_))
  refine tl_y rfl (y_assign rfl) ?_
  refine tl_nil (.then_normal ?_)
  refine x_block ?_
  refine x_loop (I := fun m' F D M1 L1 => ∃ (m : Nat) (r' : DRep), m' = a - m ∧ m + 1 ≤ a ∧ Le M M1 ∧ IsDisk M1 r' (dD K a m m false) ∧ D = [] ∧ L1 = dL p r' (dD K a m m false) L ∧ F = [(1, .int .i64 i), (6, .bool false), (8, .pointer (some ⟨p, 0, none⟩)), (10, .int .i64 a), (11, .int .i64 ((m + 1 : Nat) : Int))]) (a) (F0 := [(1, _), (6, _), (8, _), (10, _), (11, _)]) ?_ (.cons rfl (.cons rfl (.cons rfl (.cons rfl (.cons rfl .nil))))) ?_  -- slots [1, 6, 8, 10, 11], written [6, 11]
  · exact ⟨0, r3, rfl, by omega, hm, hd3, rfl, rfl, rfl⟩
  rintro m _ _ M4 L4 ⟨m, r4, rfl, hma, hm4, hd4, rfl, rfl, rfl⟩
  refine x_seq (x_seq (x_region ?_))
  refine tl_y rfl (y_move (v := .int _ _) rfl) ?_
  refine tl_y rfl (y_move (v := .int _ _) rfl) ?_
  refine tl_y rfl (y_lss rfl rfl) ?_
  refine tl_nil (.then_normal ?_)
  refine x_cond rfl (fun hc3 => ?_) (fun hc3 => ?_)
  ·
    have hma1 : m + 1 < a := by omega
    refine x_skip (.then_normal ?_)
    refine x_seq ?_
    refine x_block ?_
    refine x_seq (x_region ?_)
    refine tl_y rfl (y_move (v := .pointer _) rfl) ?_
    refine tl_y rfl (y_move (v := .int _ _) rfl) ?_
    refine tl_y rfl (y_conv rfl) ?_
    refine tl_e rfl (e_call' rfl (row64_spec _ _ (u8_cast (m + 1))) ?_)
    rintro _ M5 L5 hM5 ⟨rfl, A5, rfl, hA5⟩
    refine tl_e rfl (e_call' rfl (Write_spec (hd4.mono hM5) (by show _ ≤ (m : Int) ∧ (m : Int) ≤ _; omega) (by show (wPend m).length ≤ _; rw [wPend_length]; omega) hA5) ?_)
    rintro _ M6 L6 hM6 ⟨⟨r6, hd6, rfl⟩, rfl⟩
    rw [dD_write hK0 hma1] at hd6 ⊢
    refine tl_y rfl (y_neq rfl rfl) ?_
    refine tl_nil (.then_normal ?_)
    refine .sub (F' := [(1, _), (6, _), (8, _), (10, _), (11, _), (53, _)]) (.cons rfl (.cons rfl (.cons rfl (.cons rfl (.cons rfl (.cons rfl .nil)))))) ?_
    refine x_false rfl (rfl) ?_
    refine x_skip (.block_normal (.then_normal ?_))
    refine x_region ?_
    refine tl_y rfl (y_move (v := .int _ _) rfl) ?_
    refine tl_y rfl (y_addI rfl rfl (by omega)) ?_
    refine tl_y rfl (y_assign (v := .int _ _) rfl) ?_
    refine tl_nil (.loop_next (m' := a - (m + 1)) (by omega) (F' := [(1, _), (6, _), (8, _), (10, _), (11, _)]) (.cons rfl (.cons rfl (.cons rfl (.cons rfl (.cons rfl .nil))))) ?_)
    exact ⟨m + 1, r6, rfl, by omega, hm4.trans (hM5.trans hM6), hd6, rfl, rfl, rfl⟩
  ·
    refine x_exit (.then_exit (.loop_exit (.block_exit (.then_normal ?_))))
    refine .sub (F' := [(1, _), (8, _), (10, _)]) (.cons rfl (.cons rfl (.cons rfl .nil))) ?_
    refine x_seq (x_region ?_)
    refine tl_y rfl (y_move (v := .pointer _) rfl) ?_
    refine tl_e rfl (e_call' rfl (Flush_spec hd4 (by show _ ≤ (m : Int) ∧ (m : Int) ≤ _; omega) (by show (wPend m).length ≤ _; rw [wPend_length]; omega)) ?_)
    rintro _ M5 L5 hM5 ⟨⟨r5, hd5, rfl⟩, rfl⟩
    have hm := hm4.trans hM5
    rw [dD_flush (by omega)] at hd5 ⊢
    refine tl_y rfl (y_assign (v := .int _ _) rfl) ?_
    refine tl_nil (.then_normal ?_)
    refine x_seq (x_region ?_)
    refine tl_y rfl (y_move (v := .pointer _) rfl) ?_
    refine tl_y rfl (y_move (v := .int _ _) rfl) ?_
    refine tl_e rfl (e_call' rfl (Read_spec (S := dD K a m (m + 1 : Nat) true) hd5 i) ?_)
    rintro _ M6 L6 hM6 ⟨rfl, A6, n6, c6, rfl, hA6⟩
    replace hm := hm.trans hM6
    rw [dD_read]
    refine tl_y rfl (y_move (v := .tuple _) rfl) ?_
    refine tl_y rfl (y_extract rfl) ?_
    refine tl_y rfl (y_extract rfl) ?_
    refine tl_y rfl (y_assign (v := .slice _ _ _) rfl) ?_
    refine tl_y rfl (y_assign (v := .int _ _) rfl) ?_
    refine tl_nil (.then_normal ?_)
    refine .sub (F' := [(8, _), (10, _), (12, _), (14, _)]) (.cons rfl (.cons rfl (.cons rfl (.cons rfl .nil)))) ?_
    refine x_seq (x_region ?_)
    refine tl_y rfl (y_move (v := .pointer _) rfl) ?_
    refine tl_e rfl (e_call' rfl (row64_spec 1 1 rfl) ?_)
    rintro _ M7 L7 hM7 ⟨rfl, A7, rfl, hA7⟩
    replace hm := hm.trans hM7
    refine tl_e rfl (e_call' rfl (Write_spec (S := dD K a m (m + 1 : Nat) true) (hd5.mono (hM6.trans hM7)) (by show _ ≤ ((m + 1 : Nat) : Int) ∧ ((m + 1 : Nat) : Int) ≤ _; omega) (by show (wPend m).length ≤ _; rw [wPend_length]; omega) hA7) ?_)
    rintro _ M8 L8 hM8 ⟨⟨r8, hd8, rfl⟩, rfl⟩
    replace hm := hm.trans hM8
    rw [dD_no] at hd8 ⊢
    refine tl_y rfl (y_assign (v := .int _ _) rfl) ?_
    refine tl_nil (.then_normal ?_)
    refine x_seq (x_region ?_)
    refine tl_y rfl (y_move (v := .pointer _) rfl) ?_
    refine tl_e rfl (e_call' rfl (Count_spec (S := dD K a m (m + 1 : Nat) true) hd8) ?_)
    rintro _ M9 L9 hM9 ⟨rfl, rfl, rfl⟩
    rw [show (dD K a m (m + 1 : Nat) true).count = ((m + 1 : Nat) : Int) from rfl, show (dD K a m (m + 1 : Nat) true).pend.length = m from wPend_length m]
    refine tl_y rfl (y_move (v := .tuple _) rfl) ?_
    refine tl_y rfl (y_extract rfl) ?_
    refine tl_y rfl (y_extract rfl) ?_
    refine tl_y rfl (y_assign (v := .int _ _) rfl) ?_
    refine tl_y rfl (y_assign (v := .int _ _) rfl) ?_
    refine tl_nil (.then_normal ?_)
    refine .sub (F' := [(8, _), (10, _), (12, _), (14, _), (15, _), (16, _), (17, _)]) (.cons rfl (.cons rfl (.cons rfl (.cons rfl (.cons rfl (.cons rfl (.cons rfl .nil))))))) ?_
    refine x_seq (x_region ?_)
    refine tl_y rfl (y_move (v := .pointer _) rfl) ?_
    refine tl_y rfl (y_build rfl) ?_
    refine tl_e rfl (e_call' rfl (Up_spec (S := dD K a m (m + 1 : Nat) true) hd8 (by show (wPend m).length ≤ _; rw [wPend_length]; omega) (cs := []) (Row.nil _ _) (xs := []) (Row.nil _ _) (by omega) 0) ?_)
    rintro _ M10 L10 hM10 ⟨r10, hd10, rfl⟩
    replace hm := hm.trans hM10
    refine tl_nil (.then_normal ?_)
    refine x_seq (x_region ?_)
    refine tl_y rfl (y_move (v := .pointer _) rfl) ?_
    refine tl_e rfl (e_call' rfl (Count_spec hd10) ?_)
    rintro _ M11 L11 hM11 ⟨rfl, rfl, rfl⟩
    rw [show (upped (dD K a m (m + 1 : Nat) true) [] [] 0).count = 0 from rfl, show (upped (dD K a m (m + 1 : Nat) true) [] [] 0).pend.length = 0 from rfl]
    refine tl_y rfl (y_move (v := .tuple _) rfl) ?_
    refine tl_y rfl (y_extract rfl) ?_
    refine tl_y rfl (y_extract rfl) ?_
    refine tl_y rfl (y_assign (v := .int _ _) rfl) ?_
    refine tl_y rfl (y_assign (v := .int _ _) rfl) ?_
    refine tl_nil (.then_normal ?_)
    refine .sub (F' := [(8, _), (10, _), (12, _), (14, _), (15, _), (16, _), (17, _), (18, _), (19, _)]) (.cons rfl (.cons rfl (.cons rfl (.cons rfl (.cons rfl (.cons rfl (.cons rfl (.cons rfl (.cons rfl .nil))))))))) ?_
    refine x_seq (x_region ?_)
    refine tl_y rfl (y_move (v := .pointer _) rfl) ?_
    refine tl_e rfl (e_call' rfl (Read_spec hd10 0) ?_)
    rintro _ M12 L12 hM12 ⟨rfl, A12, n12, c12, rfl, hA12⟩
    replace hm := hm.trans hM12
    rw [dD_up hK0]
    refine tl_y rfl (y_move (v := .tuple _) rfl) ?_
    refine tl_y rfl (y_extract rfl) ?_
    refine tl_y rfl (y_extract rfl) ?_
    refine tl_y rfl (y_assign (v := .slice _ _ _) rfl) ?_
    refine tl_y rfl (y_assign (v := .int _ _) rfl) ?_
    refine tl_nil (.then_normal ?_)
    refine .sub (F' := [(10, _), (12, _), (14, _), (15, _), (16, _), (17, _), (18, _), (19, _), (21, _)]) (.cons rfl (.cons rfl (.cons rfl (.cons rfl (.cons rfl (.cons rfl (.cons rfl (.cons rfl (.cons rfl .nil))))))))) ?_
    refine x_seq (x_region ?_)
    refine tl_y rfl (y_move (v := .int _ _) rfl) ?_
    refine tl_y rfl (y_eql rfl rfl) ?_
    refine tl_y rfl (y_move (v := .bool _) rfl) ?_
    refine tl_set (s := 85) (u := .bool true) rfl (rfl) ?_
    refine tl_y rfl (y_move (v := .int _ _) rfl) ?_
    refine tl_y rfl (y_eql rfl rfl) ?_
    refine tl_y rfl (y_pickT rfl rfl) ?_
    refine tl_y rfl (y_move (v := .bool _) rfl) ?_
    refine tl_set (s := 89) (u := .bool true) rfl (rfl) ?_
    refine tl_y rfl (y_move (v := .int _ _) rfl) ?_
    refine tl_y rfl (y_eql rfl rfl) ?_
    refine tl_y rfl (y_pickT rfl rfl) ?_
    refine tl_y rfl (y_move (v := .bool _) rfl) ?_
    refine tl_set (s := 93) (u := .bool true) rfl (rfl) ?_
    refine tl_y rfl (y_move (v := .int _ _) rfl) ?_
    refine tl_y rfl (y_move (v := .int _ _) rfl) ?_
    refine tl_y rfl (y_eql rfl rfl) ?_
    refine tl_y rfl (y_pickT rfl rfl) ?_
    refine tl_y rfl (y_move (v := .bool _) rfl) ?_
    refine tl_set (s := 98) (u := .bool true) rfl (by congr 1; rw [decide_eq_true]; omega) ?_
    refine tl_y rfl (y_move (v := .int _ _) rfl) ?_
    refine tl_y rfl (y_move (v := .int _ _) rfl) ?_
    refine tl_y rfl (y_subI rfl rfl (by omega)) ?_
    refine tl_y rfl (y_eql rfl rfl) ?_
    refine tl_y rfl (y_pickT rfl rfl) ?_
    refine tl_y rfl (y_move (v := .bool _) rfl) ?_
    refine tl_set (s := 104) (u := .bool true) rfl (by congr 1; rw [decide_eq_true]; omega) ?_
    refine tl_y rfl (y_move (v := .int _ _) rfl) ?_
    refine tl_y rfl (y_eql rfl rfl) ?_
    refine tl_y rfl (y_pickT rfl rfl) ?_
    refine tl_y rfl (y_move (v := .bool _) rfl) ?_
    refine tl_set (s := 108) (u := .bool true) rfl (rfl) ?_
    refine tl_y rfl (y_move (v := .int _ _) rfl) ?_
    refine tl_y rfl (y_eql rfl rfl) ?_
    refine tl_y rfl (y_pickT rfl rfl) ?_
    refine tl_y rfl (y_move (v := .bool _) rfl) ?_
    refine tl_set (s := 112) (u := .bool true) rfl (rfl) ?_
    refine tl_y rfl (y_move (v := .int _ _) rfl) ?_
    refine tl_y rfl (y_eql rfl rfl) ?_
    refine tl_y rfl (y_pickT rfl rfl) ?_
    refine tl_y rfl (y_assign (v := .bool _) rfl) ?_
    refine tl_nil (.then_normal ?_)
    refine .sub (F' := [(6, _)]) (.cons rfl .nil) ?_
    refine x_ret (ret1 rfl rfl hm rfl)
end
end Go.Proofs.Ytlednbmmchalkaa
