/-
Contracts of functions, each proved by a walk through its code.
-/
import Derived.Test.YtbgdjdhbejbhkaaDoorSlots4Etc
import Derived.Test.YtbgdjdhbejbhkaaDoorRef1Etc
import Derived.Test.YtbgdjdhbejbhkaaDoorReserve2Etc
import Derived.Test.YtbgdjdhbejbhkaaDoorDisk4Etc
set_option linter.unusedVariables false
set_option linter.unusedSimpArgs false
namespace Go.Proofs.YtbgdjdhbejbhkaaDoor
open Go Go.Eng
theorem fresh_len (n : Nat) : (fresh n).sure.length = n := by simp [fresh]
/-- New slots. -/
def s0 (first n : Nat) : SS := ⟨first, n, 0, 0, []⟩
theorem okS0 {S : DS} {first n : Nat} (hn : 1 ≤ n ∧ n ≤ 8) (h : first + 2 * n ≤ S.sure.length) : OkS S (s0 first n) := ⟨hn, h, Nat.zero_le _, by show 0 + 28 ≤ 64 * n; omega⟩
section
variable {G : World} {M : Mem} {L R : Own} {p d q : Nat} {r : DRep} {rr : RRep} {S : DS} {s : SS} {A0 : Option Addr} {l0 c0 : Nat}
/-- New slots that may be. -/
theorem sNew_ok (h : IsDisk M r S) (first n : Nat) (hn : 1 ≤ n ∧ n ≤ 8) (hf : first + 2 * n ≤ S.sure.length) :
    Con Tryd.prog 21 #[.pointer (some ⟨d, 0, none⟩), .int .i64 (first : Int), .int .i64 (n : Int)] G M (dL d r S R)
      (fun v M' L' => ∃ p, v = .tuple #[.pointer (some ⟨p, 0, none⟩), .int .i64 0] ∧ SK p d S (s0 first n) R M' L') noPanic := by
  refine (sNew2_spec h first n).post fun v M' L' hM hv => ?_
  rw [if_pos (by omega)] at hv
  exact hv
theorem RMay_spec (hr : IsRef M rr S) (first n : Int) :
    Con Tryd.prog 22 #[.pointer (some ⟨q, 0, none⟩), .int .i64 first, .int .i64 n] G M (rL q rr S R) (fun v M' L' => M = M' ∧ L' = rL q rr S R ∧ v = .bool (decide (1 ≤ n ∧ n ≤ 8 ∧ 0 ≤ first ∧ first + 2 * n ≤ S.sure.length))) noPanic := by
  have hsn := hr.sn
  have hsz := hr.sz
  refine enter (args := [_, _, _]) (fn := Tryd.f22) ⟨Tryd.func22, rfl, by kernel_rfl, by kernel_rfl⟩ 38 rfl ?_
  refine x_seq (x_region ?_)
  refine tl_y rfl (y_assign rfl) ?_
  refine tl_nil (.then_normal ?_)
  refine x_seq (x_region ?_)
  refine tl_y rfl (y_move (v := .int _ _) rfl) ?_
  refine tl_y rfl (y_geq rfl rfl) ?_
  refine tl_y rfl (y_move (v := .bool _) rfl) ?_
  refine tl_cases (s := 9) rfl (fun hk1 => ?_) (fun hk1 => ?_)
  ·
    refine tl_y rfl (y_move (v := .int _ _) rfl) ?_
    refine tl_y rfl (y_leq rfl rfl) ?_
    refine tl_y rfl (y_pickT rfl rfl) ?_
    refine tl_y rfl (y_move (v := .bool _) rfl) ?_
    refine tl_cases (s := 13) rfl (fun hk2 => ?_) (fun hk2 => ?_)
    ·
      refine tl_y rfl (y_move (v := .int _ _) rfl) ?_
      refine tl_y rfl (y_geq rfl rfl) ?_
      refine tl_y rfl (y_pickT rfl rfl) ?_
      refine tl_y rfl (y_move (v := .bool _) rfl) ?_
      refine tl_cases (s := 17) rfl (fun hk3 => ?_) (fun hk3 => ?_)
      ·
        refine tl_y rfl (y_move (v := .int _ _) rfl) ?_
        refine tl_y rfl (y_move (v := .pointer _) rfl) ?_
        refine tl_y rfl (y_nilCheck rfl) ?_
        refine tl_y rfl (y_fieldAddr rfl) ?_
        refine tl_y rfl (y_load rfl rfl (.own inferInstance inferInstance)) ?_
        refine tl_y rfl (y_len rfl) ?_
        refine tl_y rfl (y_leq rfl rfl) ?_
        refine tl_y rfl (y_pickT rfl rfl) ?_
        refine tl_y rfl (y_move (v := .bool _) rfl) ?_
        refine tl_cases (s := 26) rfl (fun hk4 => ?_) (fun hk4 => ?_)
        ·
          refine tl_y rfl (y_move (v := .int _ _) rfl) ?_
          refine tl_y rfl (y_move (v := .int _ _) rfl) ?_
          refine tl_y rfl (y_mulI rfl rfl (by omega)) ?_
          refine tl_y rfl (y_addI rfl rfl (by omega)) ?_
          refine tl_y rfl (y_move (v := .pointer _) rfl) ?_
          refine tl_y rfl (y_nilCheck rfl) ?_
          refine tl_y rfl (y_fieldAddr rfl) ?_
          refine tl_y rfl (y_load rfl rfl (.own inferInstance inferInstance)) ?_
          refine tl_y rfl (y_len rfl) ?_
          refine tl_y rfl (y_leq rfl rfl) ?_
          refine tl_y rfl (y_pickT rfl rfl) ?_
          refine tl_y rfl (y_assign (v := .bool _) rfl) ?_
          refine tl_nil (.then_normal ?_)
          refine .sub (F' := [(6, _)]) (.cons rfl .nil) ?_
          refine x_ret (ret1 rfl rfl (Le.refl _) ⟨rfl, rfl, by congr 1; rw [decide_eq_decide]; omega⟩)
        ·
          refine tl_skip rfl ?_
          refine tl_skip rfl ?_
          refine tl_skip rfl ?_
          refine tl_skip rfl ?_
          refine tl_skip rfl ?_
          refine tl_skip rfl ?_
          refine tl_skip rfl ?_
          refine tl_skip rfl ?_
          refine tl_skip rfl ?_
          refine tl_skip rfl ?_
          refine tl_y rfl (y_pickF rfl rfl) ?_
          refine tl_y rfl (y_assign (v := .bool _) rfl) ?_
          refine tl_nil (.then_normal ?_)
          refine .sub (F' := [(6, _)]) (.cons rfl .nil) ?_
          refine x_ret (ret1 rfl rfl (Le.refl _) ⟨rfl, rfl, by congr 1; symm; rw [decide_eq_false_iff_not]; omega⟩)
      ·
        refine tl_skip rfl ?_
        refine tl_skip rfl ?_
        refine tl_skip rfl ?_
        refine tl_skip rfl ?_
        refine tl_skip rfl ?_
        refine tl_skip rfl ?_
        refine tl_skip rfl ?_
        refine tl_y rfl (y_pickF rfl rfl) ?_
        refine tl_y rfl (y_move (v := .bool _) rfl) ?_
        refine tl_skip rfl ?_
        refine tl_skip rfl ?_
        refine tl_skip rfl ?_
        refine tl_skip rfl ?_
        refine tl_skip rfl ?_
        refine tl_skip rfl ?_
        refine tl_skip rfl ?_
        refine tl_skip rfl ?_
        refine tl_skip rfl ?_
        refine tl_skip rfl ?_
        refine tl_y rfl (y_pickF rfl rfl) ?_
        refine tl_y rfl (y_assign (v := .bool _) rfl) ?_
        refine tl_nil (.then_normal ?_)
        refine .sub (F' := [(6, _)]) (.cons rfl .nil) ?_
        refine x_ret (ret1 rfl rfl (Le.refl _) ⟨rfl, rfl, by congr 1; symm; rw [decide_eq_false_iff_not]; omega⟩)
    ·
      refine tl_skip rfl ?_
      refine tl_skip rfl ?_
      refine tl_y rfl (y_pickF rfl rfl) ?_
      refine tl_y rfl (y_move (v := .bool _) rfl) ?_
      refine tl_skip rfl ?_
      refine tl_skip rfl ?_
      refine tl_skip rfl ?_
      refine tl_skip rfl ?_
      refine tl_skip rfl ?_
      refine tl_skip rfl ?_
      refine tl_skip rfl ?_
      refine tl_y rfl (y_pickF rfl rfl) ?_
      refine tl_y rfl (y_move (v := .bool _) rfl) ?_
      refine tl_skip rfl ?_
      refine tl_skip rfl ?_
      refine tl_skip rfl ?_
      refine tl_skip rfl ?_
      refine tl_skip rfl ?_
      refine tl_skip rfl ?_
      refine tl_skip rfl ?_
      refine tl_skip rfl ?_
      refine tl_skip rfl ?_
      refine tl_skip rfl ?_
      refine tl_y rfl (y_pickF rfl rfl) ?_
      refine tl_y rfl (y_assign (v := .bool _) rfl) ?_
      refine tl_nil (.then_normal ?_)
      refine .sub (F' := [(6, _)]) (.cons rfl .nil) ?_
      refine x_ret (ret1 rfl rfl (Le.refl _) ⟨rfl, rfl, by congr 1; symm; rw [decide_eq_false_iff_not]; omega⟩)
  ·
    refine tl_skip rfl ?_
    refine tl_skip rfl ?_
    refine tl_y rfl (y_pickF rfl rfl) ?_
    refine tl_y rfl (y_move (v := .bool _) rfl) ?_
    refine tl_skip rfl ?_
    refine tl_skip rfl ?_
    refine tl_y rfl (y_pickF rfl rfl) ?_
    refine tl_y rfl (y_move (v := .bool _) rfl) ?_
    refine tl_skip rfl ?_
    refine tl_skip rfl ?_
    refine tl_skip rfl ?_
    refine tl_skip rfl ?_
    refine tl_skip rfl ?_
    refine tl_skip rfl ?_
    refine tl_skip rfl ?_
    refine tl_y rfl (y_pickF rfl rfl) ?_
    refine tl_y rfl (y_move (v := .bool _) rfl) ?_
    refine tl_skip rfl ?_
    refine tl_skip rfl ?_
    refine tl_skip rfl ?_
    refine tl_skip rfl ?_
    refine tl_skip rfl ?_
    refine tl_skip rfl ?_
    refine tl_skip rfl ?_
    refine tl_skip rfl ?_
    refine tl_skip rfl ?_
    refine tl_skip rfl ?_
    refine tl_y rfl (y_pickF rfl rfl) ?_
    refine tl_y rfl (y_assign (v := .bool _) rfl) ?_
    refine tl_nil (.then_normal ?_)
    refine .sub (F' := [(6, _)]) (.cons rfl .nil) ?_
    refine x_ret (ret1 rfl rfl (Le.refl _) ⟨rfl, rfl, by congr 1; symm; rw [decide_eq_false_iff_not]; omega⟩)
theorem RRoom_spec (n : Int) :
    Con Tryd.prog 25 #[.int .i64 n] G M L (fun v M' L' => M = M' ∧ L = L' ∧ v = .int .i64 (if n < 1 ∨ 8 < n then 0 else 64 * n - 28)) noPanic := by
  refine enter (args := [_]) (fn := Tryd.f25) ⟨Tryd.func25, rfl, by kernel_rfl, by kernel_rfl⟩ 12 rfl ?_
  refine x_seq (x_region ?_)
  refine tl_y rfl (y_assign rfl) ?_
  refine tl_nil (.then_normal ?_)
  refine x_seq (x_seq (x_region ?_))
  refine tl_y rfl (y_move (v := .int _ _) rfl) ?_
  refine tl_y rfl (y_lss rfl rfl) ?_
  refine tl_y rfl (y_move (v := .bool _) rfl) ?_
  refine tl_cases (s := 5) rfl (fun hk1 => ?_) (fun hk1 => ?_)
  ·
    refine tl_skip rfl ?_
    refine tl_skip rfl ?_
    refine tl_y rfl (y_pickT rfl rfl) ?_
    refine tl_nil (.then_normal ?_)
    refine .sub (F' := [(0, _), (8, _)]) (.cons rfl (.cons rfl .nil)) ?_
    refine x_true rfl rfl ?_
    refine x_seq (x_region ?_)
    refine tl_y rfl (y_assign rfl) ?_
    refine tl_nil (.then_normal ?_)
    refine x_ret (.then_ret (ret1 rfl rfl (Le.refl _) ⟨rfl, rfl, by rw [if_pos (by omega)]⟩))
  ·
    refine tl_y rfl (y_move (v := .int _ _) rfl) ?_
    refine tl_y rfl (y_gtr rfl rfl) ?_
    refine tl_y rfl (y_pickF rfl rfl) ?_
    refine tl_nil (.then_normal ?_)
    refine .sub (F' := [(0, _), (8, _)]) (.cons rfl (.cons rfl .nil)) ?_
    refine x_cond rfl (fun hc1 => ?_) (fun hc1 => ?_)
    ·
      refine x_seq (x_region ?_)
      refine tl_y rfl (y_assign rfl) ?_
      refine tl_nil (.then_normal ?_)
      refine x_ret (.then_ret (ret1 rfl rfl (Le.refl _) ⟨rfl, rfl, by rw [if_pos (by omega)]⟩))
    ·
      refine x_skip (.then_normal ?_)
      refine x_seq (x_region ?_)
      refine tl_y rfl (y_move (v := .int _ _) rfl) ?_
      refine tl_y rfl (y_mulI rfl rfl (by omega)) ?_
      refine tl_y rfl (y_subI rfl rfl (by omega)) ?_
      refine tl_y rfl (y_assign (v := .int _ _) rfl) ?_
      refine tl_nil (.then_normal ?_)
      refine .sub (F' := [(2, _)]) (.cons rfl .nil) ?_
      refine x_ret (ret1 rfl rfl (Le.refl _) ⟨rfl, rfl, by rw [if_neg (by omega)]⟩)
def abc : List UInt8 := [97, 98, 99]
def a20S : DS := (saveRes (fresh 4) (s0 0 2) abc).1.1
def a20s : SS := (saveRes (fresh 4) (s0 0 2) abc).1.2
theorem a20_1 : (loadRes (fresh 4) (s0 0 2)).2 = 11 := by kernel_rfl
theorem a20_2 : (loadRes (fresh 4) (s0 0 2)).1 = s0 0 2 := by kernel_rfl
theorem a20_3 : (saveRes (fresh 4) (s0 0 2) abc).2 = 0 := by kernel_rfl
theorem a20_4 : a20s.b = abc := by kernel_rfl
theorem a20_5 : a20s.num = 1 := by kernel_rfl
theorem a20_6 : (loadRes a20S a20s).2 = 0 := by kernel_rfl
theorem a20_7 : loadTold a20S a20s = (abc, 1) := by kernel_rfl
theorem awake20_spec (hg : ShaG M) : Con Tryd.prog 19 #[] G M L (fun v M' L' => L = L' ∧ v = .bool true) noPanic := by
  refine enter (args := []) (fn := Tryd.f19) ⟨Tryd.func19, rfl, by kernel_rfl, by kernel_rfl⟩ 99 rfl ?_
  refine x_seq (x_region ?_)
  refine tl_y rfl (y_assign rfl) ?_
  refine tl_nil (.then_normal ?_)
  refine x_seq (x_region ?_)
  refine tl_e rfl (e_call' rfl (New_spec 4) ?_)
  intro _ M1 L1 hM1 hv
  rw [if_neg (by omega)] at hv
  obtain ⟨p, ⟨r1, hd1, rfl⟩, rfl⟩ := hv
  have hm := hM1
  refine tl_y rfl (y_move (v := .tuple _) rfl) ?_
  refine tl_y rfl (y_extract rfl) ?_
  refine tl_y rfl (y_extract rfl) ?_
  refine tl_y rfl (y_assign (v := .pointer _) rfl) ?_
  refine tl_y rfl (y_assign (v := .int _ _) rfl) ?_
  refine tl_nil (.then_normal ?_)
  refine .sub (F' := [(1, _), (2, _)]) (.cons rfl (.cons rfl .nil)) ?_
  refine x_seq (x_seq (x_region ?_))
  refine tl_y rfl (y_move (v := .pointer _) rfl) ?_
  refine tl_y rfl (y_eqNilPtr rfl rfl) ?_
  refine tl_y rfl (y_move (v := .bool _) rfl) ?_
  refine tl_set (s := 22) (u := .bool false) rfl (rfl) ?_
  refine tl_y rfl (y_move (v := .int _ _) rfl) ?_
  refine tl_y rfl (y_neq rfl rfl) ?_
  refine tl_y rfl (y_pickF rfl rfl) ?_
  refine tl_nil (.then_normal ?_)
  refine .sub (F' := [(1, _), (25, _)]) (.cons rfl (.cons rfl .nil)) ?_
  refine x_false rfl (rfl) ?_
  refine x_skip (.then_normal ?_)
  refine x_seq (x_region ?_)
  refine tl_y rfl (y_move (v := .pointer _) rfl) ?_
  refine tl_e rfl (e_call' rfl (sNew_ok (S := fresh 4) hd1 0 2 (by omega) (by rw [fresh_len]; omega)) ?_)
  rintro _ M2 _ hM2 ⟨q, rfl, r2, A2, l2, c2, hd2, hb2, rfl⟩
  replace hm := hm.trans hM2
  refine tl_y rfl (y_move (v := .tuple _) rfl) ?_
  refine tl_y rfl (y_extract rfl) ?_
  refine tl_y rfl (y_extract rfl) ?_
  refine tl_y rfl (y_assign (v := .pointer _) rfl) ?_
  refine tl_y rfl (y_assign (v := .int _ _) rfl) ?_
  refine tl_nil (.then_normal ?_)
  refine .sub (F' := [(1, _), (3, _), (4, _)]) (.cons rfl (.cons rfl (.cons rfl .nil))) ?_
  refine x_seq (x_region ?_)
  refine tl_y rfl (y_move (v := .pointer _) rfl) ?_
  refine tl_e rfl (e_call' rfl (sNew2_spec (S := fresh 4) hd2 1 2) ?_)
  intro _ M3 _ hM3 hv
  rw [if_neg (by rw [fresh_len]; omega)] at hv
  obtain ⟨rfl, r3, hd3, rfl⟩ := hv
  replace hm := hm.trans hM3
  have hok0 : OkS (fresh 4) (s0 0 2) := okS0 (by omega) (by rw [fresh_len]; omega)
  refine tl_y rfl (y_move (v := .tuple _) rfl) ?_
  refine tl_y rfl (y_extract rfl) ?_
  refine tl_y rfl (y_extract rfl) ?_
  refine tl_y rfl (y_assign (v := .pointer _) rfl) ?_
  refine tl_y rfl (y_assign (v := .int _ _) rfl) ?_
  refine tl_nil (.then_normal ?_)
  refine .sub (F' := [(3, _), (4, _), (6, _)]) (.cons rfl (.cons rfl (.cons rfl .nil))) ?_
  refine x_seq (x_seq (x_region ?_))
  refine tl_y rfl (y_move (v := .pointer _) rfl) ?_
  refine tl_y rfl (y_eqNilPtr rfl rfl) ?_
  refine tl_y rfl (y_move (v := .bool _) rfl) ?_
  refine tl_set (s := 38) (u := .bool false) rfl (rfl) ?_
  refine tl_y rfl (y_move (v := .int _ _) rfl) ?_
  refine tl_y rfl (y_neq rfl rfl) ?_
  refine tl_y rfl (y_pickF rfl rfl) ?_
  refine tl_y rfl (y_move (v := .bool _) rfl) ?_
  refine tl_set (s := 42) (u := .bool false) rfl (rfl) ?_
  refine tl_y rfl (y_move (v := .int _ _) rfl) ?_
  refine tl_y rfl (y_neq rfl rfl) ?_
  refine tl_y rfl (y_pickF rfl rfl) ?_
  refine tl_nil (.then_normal ?_)
  refine .sub (F' := [(3, _), (45, _)]) (.cons rfl (.cons rfl .nil)) ?_
  refine x_false rfl (rfl) ?_
  refine x_skip (.then_normal ?_)
  refine x_seq (x_region ?_)
  refine tl_y rfl (y_move (v := .pointer _) rfl) ?_
  refine tl_e rfl (e_call' rfl (Load_spec (hg.mono hm) hd3 hok0 (hb2.mono hM3)) ?_)
  rintro _ M4 _ hM4 ⟨⟨r4, A4, l4, c4, hd4, hb4, rfl⟩, A5, n5, c5, rfl, hA5⟩
  rw [a20_1]
  rw [a20_2] at hb4 ⊢
  replace hm := hm.trans hM4
  refine tl_y rfl (y_move (v := .tuple _) rfl) ?_
  refine tl_y rfl (y_extract rfl) ?_
  refine tl_y rfl (y_extract rfl) ?_
  refine tl_y rfl (y_extract rfl) ?_
  refine tl_y rfl (y_assign (v := .slice _ _ _) rfl) ?_
  refine tl_y rfl (y_assign (v := .int _ _) rfl) ?_
  refine tl_y rfl (y_assign (v := .int _ _) rfl) ?_
  refine tl_nil (.then_normal ?_)
  refine .sub (F' := [(3, _), (9, _)]) (.cons rfl (.cons rfl .nil)) ?_
  refine x_seq (x_region ?_)
  refine tl_y rfl (y_move (v := .pointer _) rfl) ?_
  refine tl_e rfl (e_buildSlice rfl (by decide) (fun b1 => ?_))
  refine tl_e rfl (e_convMark rfl inferInstance (fun M6 fr6 hM6 hb6 => ?_))
  replace hm := hm.trans hM6
  have hA6 : Bytes M6 (some ⟨b1, 0, none⟩) 3 3 abc := Row.whole hb6 rfl (by omega)
  refine tl_e rfl (e_call' rfl (Save_spec (hg.mono hm) (hd4.mono hM6) hok0 (within_fresh 4) (by omega) (hb4.mono hM6) hA6) ?_)
  rintro _ M7 _ hM7 ⟨⟨r7, A7, l7, c7, hd7, hb7, rfl⟩, rfl⟩
  replace hm := hm.trans hM7
  have hok7 : OkS a20S a20s := saveRes_ok hok0 abc
  rw [a20_3]
  change IsDisk M7 r7 a20S at hd7
  change Bytes M7 A7 l7 c7 a20s.b at hb7
  have hl7 := hb7.size
  rw [a20_4] at hl7
  obtain rfl : l7 = 3 := hl7.symm
  refine .eqL (L' := dL p r7 a20S (sL q p a20s A7 3 c7 :: L)) rfl ?_
  refine tl_y rfl (y_assign (v := .int _ _) rfl) ?_
  refine tl_nil (.then_normal ?_)
  refine .sub (F' := [(3, _), (9, _), (10, _)]) (.cons rfl (.cons rfl (.cons rfl .nil))) ?_
  refine x_seq (x_region ?_)
  refine tl_y rfl (y_move (v := .pointer _) rfl) ?_
  refine tl_e rfl (e_call' rfl (Con.to (sL q p a20s A7 3 c7 :: (p, .cells (List.toArray (dcells r7 a20S)) 134 (0, 0)) :: (r7.E1 ++ (r7.E2 ++ L))) inferInstance (Now_spec hb7 (by rw [a20_4]; decide))) ?_)
  rintro _ M8 _ hM8 ⟨rfl, A8, c8, rfl, hA8⟩
  replace hm := hm.trans hM8
  rw [a20_5]
  rw [a20_4] at hA8
  refine tl_y rfl (y_move (v := .tuple _) rfl) ?_
  refine tl_y rfl (y_extract rfl) ?_
  refine tl_y rfl (y_extract rfl) ?_
  refine tl_y rfl (y_assign (v := .slice _ _ _) rfl) ?_
  refine tl_y rfl (y_assign (v := .int _ _) rfl) ?_
  refine tl_nil (.then_normal ?_)
  refine .sub (F' := [(3, _), (9, _), (10, _), (11, _), (12, _)]) (.cons rfl (.cons rfl (.cons rfl (.cons rfl (.cons rfl .nil))))) ?_
  refine x_seq (x_region ?_)
  refine tl_y rfl (y_move (v := .pointer _) rfl) ?_
  refine tl_e rfl (e_call' rfl (Con.to (dL p r7 a20S (sL q p a20s A7 3 c7 :: L)) inferInstance (Load_spec (hg.mono hm) (hd7.mono hM8) hok7 (hb7.mono hM8))) ?_)
  rintro _ M9 _ hM9 ⟨⟨r9, A9, l9, c9, hd9, hb9, rfl⟩, A10, n10, c10, rfl, hA10⟩
  replace hm := hm.trans hM9
  rw [a20_7] at hA10 ⊢
  rw [a20_6]
  refine tl_y rfl (y_move (v := .tuple _) rfl) ?_
  refine tl_y rfl (y_extract rfl) ?_
  refine tl_y rfl (y_extract rfl) ?_
  refine tl_y rfl (y_extract rfl) ?_
  refine tl_y rfl (y_assign (v := .slice _ _ _) rfl) ?_
  refine tl_y rfl (y_assign (v := .int _ _) rfl) ?_
  refine tl_y rfl (y_assign (v := .int _ _) rfl) ?_
  refine tl_nil (.then_normal ?_)
  refine .sub (F' := [(9, _), (10, _), (11, _), (12, _), (13, _), (14, _), (15, _)]) (.cons rfl (.cons rfl (.cons rfl (.cons rfl (.cons rfl (.cons rfl (.cons rfl .nil))))))) ?_
  refine x_seq (x_region ?_)
  refine tl_y rfl (y_move (v := .int _ _) rfl) ?_
  refine tl_y rfl (y_eql rfl rfl) ?_
  refine tl_y rfl (y_move (v := .bool _) rfl) ?_
  refine tl_set (s := 69) (u := .bool true) rfl (by first | rfl | decide) ?_
  refine tl_y rfl (y_move (v := .int _ _) rfl) ?_
  refine tl_y rfl (y_eql rfl rfl) ?_
  refine tl_y rfl (y_pickT rfl rfl) ?_
  refine tl_y rfl (y_move (v := .bool _) rfl) ?_
  refine tl_set (s := 73) (u := .bool true) rfl (by first | rfl | decide) ?_
  refine tl_y rfl (y_move (v := .slice _ _ _) rfl) ?_
  refine tl_y rfl (y_toStr rfl (.row (hA8.mono hM9))) ?_
  refine tl_y rfl (y_eqlStr rfl rfl) ?_
  refine tl_y rfl (y_pickT rfl rfl) ?_
  refine tl_y rfl (y_move (v := .bool _) rfl) ?_
  refine tl_set (s := 78) (u := .bool true) rfl (by first | rfl | decide) ?_
  refine tl_y rfl (y_move (v := .int _ _) rfl) ?_
  refine tl_y rfl (y_eql rfl rfl) ?_
  refine tl_y rfl (y_pickT rfl rfl) ?_
  refine tl_y rfl (y_move (v := .bool _) rfl) ?_
  refine tl_set (s := 82) (u := .bool true) rfl (by first | rfl | decide) ?_
  refine tl_y rfl (y_move (v := .slice _ _ _) rfl) ?_
  refine tl_y rfl (y_toStr rfl (.row hA10)) ?_
  refine tl_y rfl (y_eqlStr rfl rfl) ?_
  refine tl_y rfl (y_pickT rfl rfl) ?_
  refine tl_y rfl (y_move (v := .bool _) rfl) ?_
  refine tl_set (s := 87) (u := .bool true) rfl (by first | rfl | decide) ?_
  refine tl_y rfl (y_move (v := .int _ _) rfl) ?_
  refine tl_y rfl (y_eql rfl rfl) ?_
  refine tl_y rfl (y_pickT rfl rfl) ?_
  refine tl_y rfl (y_move (v := .bool _) rfl) ?_
  refine tl_set (s := 91) (u := .bool true) rfl (by first | rfl | decide) ?_
  refine tl_y rfl (y_move (v := .int _ _) rfl) ?_
  refine tl_y rfl (y_eql rfl rfl) ?_
  refine tl_y rfl (y_pickT rfl rfl) ?_
  refine tl_y rfl (y_move (v := .bool _) rfl) ?_
  refine tl_set (s := 95) (u := .bool true) rfl (by first | rfl | decide) ?_
  refine tl_e rfl (e_call' rfl (Room_spec 2) ?_)
  rintro _ _ _ _ ⟨rfl, rfl, rfl⟩
  refine tl_y rfl (y_eql rfl rfl) ?_
  refine tl_y rfl (y_pickT rfl rfl) ?_
  refine tl_y rfl (y_assign (v := .bool _) rfl) ?_
  refine tl_nil (.then_normal ?_)
  refine .sub (F' := [(0, _)]) (.cons rfl .nil) ?_
  refine x_ret (.dropTo L inferInstance (ret1 rfl rfl hm ⟨rfl, rfl⟩))
theorem SlotsAreas_spec (hg : ShaG M) (x : UInt8) (first n : Int) (hf : -9223372036854775808 ≤ first ∧ first ≤ 9223372036854775807) (hnn : -9223372036854775808 ≤ n ∧ n ≤ 9223372036854775807) :
    Con Tryd.prog 4 #[.int .u8 x.toNat, .int .i64 first, .int .i64 n] G M L (fun v M' L' => v = .bool true) noPanic := by
  have hx := x.toNat_lt
  refine enter (args := [_, _, _]) (fn := Tryd.f4) ⟨Tryd.func4, rfl, by kernel_rfl, by kernel_rfl⟩ 61 rfl ?_
  refine x_seq (x_region ?_)
  refine tl_y rfl (y_assign rfl) ?_
  refine tl_nil (.then_normal ?_)
  refine x_seq (x_seq (x_region ?_))
  refine tl_e rfl (e_call' rfl (awake20_spec hg) ?_)
  rintro _ M1 _ hM1 ⟨rfl, rfl⟩
  have hm := hM1
  refine tl_y rfl (y_not rfl) ?_
  refine tl_nil (.then_normal ?_)
  refine x_false rfl (rfl) ?_
  refine x_skip (.then_normal ?_)
  refine x_seq (x_region ?_)
  refine tl_y rfl (y_move (v := .int _ _) rfl) ?_
  refine tl_y rfl (y_convI rfl (by omega)) ?_
  refine tl_y rfl (y_addI rfl rfl (by omega)) ?_
  refine tl_y rfl (y_assign (v := .int _ _) rfl) ?_
  refine tl_nil (.then_normal ?_)
  refine .sub (F' := [(1, _), (2, _), (7, _)]) (.cons rfl (.cons rfl (.cons rfl .nil))) ?_
  refine x_seq (x_region ?_)
  refine tl_y rfl (y_move (v := .int _ _) rfl) ?_
  refine tl_e rfl (e_call' rfl (New_spec _) ?_)
  intro _ M2 L2 hM2 hv
  replace hm := hm.trans hM2
  rw [if_neg (by omega)] at hv
  obtain ⟨d, ⟨r2, hd2, rfl⟩, rfl⟩ := hv
  obtain ⟨k, hk⟩ : ∃ k : Nat, (1 + (x.toNat : Int)).toNat = k := ⟨_, rfl⟩
  rw [hk] at hd2 ⊢
  refine tl_y rfl (y_move (v := .tuple _) rfl) ?_
  refine tl_y rfl (y_extract rfl) ?_
  refine tl_y rfl (y_extract rfl) ?_
  refine tl_y rfl (y_assign (v := .pointer _) rfl) ?_
  refine tl_y rfl (y_assign (v := .int _ _) rfl) ?_
  refine tl_nil (.then_normal ?_)
  refine .sub (F' := [(1, _), (2, _), (7, _), (8, _)]) (.cons rfl (.cons rfl (.cons rfl (.cons rfl .nil)))) ?_
  refine x_seq (x_seq (x_region ?_))
  refine tl_y rfl (y_move (v := .pointer _) rfl) ?_
  refine tl_y rfl (y_eqNilPtr rfl rfl) ?_
  refine tl_nil (.then_normal ?_)
  refine x_false rfl (rfl) ?_
  refine x_skip (.then_normal ?_)
  refine x_seq (x_region ?_)
  refine tl_y rfl (y_move (v := .pointer _) rfl) ?_
  refine tl_y rfl (y_move (v := .int _ _) rfl) ?_
  refine tl_y rfl (y_move (v := .int _ _) rfl) ?_
  refine tl_e rfl (e_call' rfl (sNew2_spec hd2 first n) ?_)
  intro v3 M3 L3 hM3 hv
  replace hm := hm.trans hM3
  obtain ⟨b, hb⟩ : ∃ b, b = decide (1 ≤ n ∧ n ≤ 8 ∧ 0 ≤ first ∧ first + 2 * n ≤ k) := ⟨_, rfl⟩
  have hv : ∃ po e, v3 = .tuple #[.pointer po, .int .i64 e] ∧ po.isNone = !b ∧ e = if b then 0 else 1 := by
    rw [fresh_len] at hv
    by_cases hc : 1 ≤ n ∧ n ≤ 8 ∧ 0 ≤ first ∧ first + 2 * n ≤ k
    · rw [if_pos hc] at hv
      obtain ⟨p, rfl, _⟩ := hv
      rw [decide_eq_true hc] at hb
      exact ⟨_, _, rfl, by rw [hb]; rfl, by rw [hb]; rfl⟩
    · rw [if_neg hc] at hv
      obtain ⟨rfl, _⟩ := hv
      rw [decide_eq_false hc] at hb
      exact ⟨_, _, rfl, by rw [hb]; rfl, by rw [hb]; rfl⟩
  obtain ⟨po, e, rfl, hpo, he⟩ := hv
  refine tl_y rfl (y_move (v := .tuple _) rfl) ?_
  refine tl_y rfl (y_extract rfl) ?_
  refine tl_y rfl (y_extract rfl) ?_
  refine tl_y rfl (y_assign (v := .pointer _) rfl) ?_
  refine tl_y rfl (y_assign (v := .int _ _) rfl) ?_
  refine tl_nil (.then_normal ?_)
  refine .sub (F' := [(1, _), (2, _), (7, _), (10, _), (11, _)]) (.cons rfl (.cons rfl (.cons rfl (.cons rfl (.cons rfl .nil))))) ?_
  refine x_seq (x_region ?_)
  refine tl_y rfl (y_move (v := .int _ _) rfl) ?_
  refine tl_e rfl (e_call' rfl (RNew_spec _ (by omega)) ?_)
  rintro _ M4 _ hM4 ⟨q, hk4, rfl⟩
  obtain ⟨r4, hr4, rfl, -, -, -⟩ := hk4.out
  replace hm := hm.trans hM4
  rw [hk] at hr4 ⊢
  refine tl_y rfl (y_move (v := .int _ _) rfl) ?_
  refine tl_y rfl (y_move (v := .int _ _) rfl) ?_
  refine tl_e rfl (e_call' rfl (RMay_spec hr4 first n) ?_)
  rintro _ _ _ _ ⟨rfl, rfl, rfl⟩
  rw [fresh_len, ← hb]
  refine tl_y rfl (y_assign (v := .bool _) rfl) ?_
  refine tl_nil (.then_normal ?_)
  refine .sub (F' := [(2, _), (10, _), (11, _), (12, _)]) (.cons rfl (.cons rfl (.cons rfl (.cons rfl .nil)))) ?_
  refine x_seq (x_region ?_)
  refine tl_y rfl (y_move (v := .pointer _) rfl) ?_
  refine tl_y rfl (y_neNilPtr rfl rfl) ?_
  rw [hpo]
  refine tl_y rfl (y_move (v := .bool _) rfl) ?_
  refine tl_y rfl (y_eqlBool rfl rfl) ?_
  refine tl_y rfl (y_move (v := .bool _) rfl) ?_
  refine tl_set (s := 41) (u := .bool true) rfl (by first | (cases b <;> rfl) | (rw [he]; cases b <;> rfl)) ?_
  refine tl_y rfl (y_move (v := .int _ _) rfl) ?_
  refine tl_y rfl (y_eql rfl rfl) ?_
  refine tl_y rfl (y_move (v := .bool _) rfl) ?_
  refine tl_y rfl (y_eqlBool rfl rfl) ?_
  refine tl_y rfl (y_pickT rfl rfl) ?_
  refine tl_y rfl (y_move (v := .bool _) rfl) ?_
  refine tl_set (s := 47) (u := .bool true) rfl (by first | (cases b <;> rfl) | (rw [he]; cases b <;> rfl)) ?_
  refine tl_y rfl (y_move (v := .bool _) rfl) ?_
  refine tl_y rfl (y_move (v := .bool _) rfl) ?_
  refine tl_casesb (s := 49) rfl (fun hk3 => ?_) (fun hk3 => ?_)
  ·
    refine tl_skip rfl ?_
    refine tl_skip rfl ?_
    refine tl_y rfl (y_pickT rfl rfl) ?_
    refine tl_y rfl (y_pickT rfl rfl) ?_
    refine tl_y rfl (y_move (v := .bool _) rfl) ?_
    refine tl_y rfl (y_move (v := .int _ _) rfl) ?_
    refine tl_e rfl (e_call' rfl (Room_spec n) ?_)
    rintro _ _ _ _ ⟨rfl, rfl, rfl⟩
    refine tl_y rfl (y_move (v := .int _ _) rfl) ?_
    refine tl_e rfl (e_call' rfl (RRoom_spec n) ?_)
    rintro _ _ _ _ ⟨rfl, rfl, rfl⟩
    refine tl_y rfl (y_eql rfl rfl) ?_
    refine tl_y rfl (y_pickT rfl rfl) ?_
    refine tl_y rfl (y_assign (v := .bool _) rfl) ?_
    refine tl_nil (.then_normal ?_)
    refine .sub (F' := [(6, _)]) (.cons rfl .nil) ?_
    refine x_ret (ret1 rfl rfl hm (by simp))
  ·
    refine tl_y rfl (y_move (v := .int _ _) rfl) ?_
    refine tl_y rfl (y_eql rfl rfl) ?_
    refine tl_y rfl (y_pickF rfl rfl) ?_
    refine tl_y rfl (y_pickT rfl rfl) ?_
    refine tl_y rfl (y_move (v := .bool _) rfl) ?_
    refine tl_set (s := 54) (u := .bool true) rfl (by rw [he, hk3]; rfl) ?_
    refine tl_y rfl (y_move (v := .int _ _) rfl) ?_
    refine tl_e rfl (e_call' rfl (Room_spec n) ?_)
    rintro _ _ _ _ ⟨rfl, rfl, rfl⟩
    refine tl_y rfl (y_move (v := .int _ _) rfl) ?_
    refine tl_e rfl (e_call' rfl (RRoom_spec n) ?_)
    rintro _ _ _ _ ⟨rfl, rfl, rfl⟩
    refine tl_y rfl (y_eql rfl rfl) ?_
    refine tl_y rfl (y_pickT rfl rfl) ?_
    refine tl_y rfl (y_assign (v := .bool _) rfl) ?_
    refine tl_nil (.then_normal ?_)
    refine .sub (F' := [(6, _)]) (.cons rfl .nil) ?_
    refine x_ret (ret1 rfl rfl hm (by simp))
end
end Go.Proofs.YtbgdjdhbejbhkaaDoor
set_option linter.unusedVariables false
set_option linter.unusedSimpArgs false
namespace Go.Proofs.YtbgdjdhbejbhkaaDoor
open Go Go.Eng
def h21 : List UInt8 := [104]
def n21 : (DS × SS) × Int := newC (fresh 16) (s0 0 8) h21 10 4
def t21 := takeC n21.1.1 n21.1.2 (newX 10 4) h21
def o21 := openC t21.1.1.1 t21.1.1.2
def l21 := (loadRes t21.1.1.1 t21.1.1.2).1
def u21 := takeC t21.1.1.1 l21 o21.1.1 o21.1.2
def m21 := newC u21.1.1.1 u21.1.1.2 [] 10 4
theorem f21_1 : n21.2 = 0 := by kernel_rfl
theorem f21_2 : t21.2 = (0, 0) := by kernel_rfl
theorem f21_3 : o21.2 = 0 := by kernel_rfl
theorem f21_4 : u21.2 = (4, 0) := by kernel_rfl
theorem f21_5 : m21.2 = 10 := by kernel_rfl
theorem f21_6 : o21.1.2 = h21 := by kernel_rfl
theorem f21_7 : u21.1.2 = ⟨10, 4, 8, 5, false⟩ := by kernel_rfl
theorem newC_ok {S : DS} {s : SS} (h : OkS S s) (head : List UInt8) (t b : UInt64) : OkS (newC S s head t b).1.1 (newC S s head t b).1.2 := by
  unfold newC
  split
  · exact h
  · split
    · exact loadRes_ok h
    · split
      · exact saveRes_ok (loadRes_ok h) _
      · exact loadRes_ok h
theorem saveC_ok {S : DS} {s : SS} (h : OkS S s) (x x' : Cn) (head : List UInt8) : OkS (saveC S s x x' head).1.1.1 (saveC S s x x' head).1.1.2 := by
  unfold saveC
  split
  · exact h
  · split
    · exact h
    · split
      · exact saveRes_ok h _
      · exact saveRes_ok h _
theorem takeC_ok {S : DS} {s : SS} (h : OkS S s) (x : Cn) (head : List UInt8) : OkS (takeC S s x head).1.1.1 (takeC S s x head).1.1.2 := by
  unfold takeC
  split
  · exact h
  · split
    · exact h
    · split
      · split
        · exact saveC_ok h _ _ _
        · exact saveC_ok h _ _ _
      · exact h
theorem within_mono {S : DS} {B B' : Nat} (h : S.within B) (hb : B ≤ B') : S.within B' := by obtain ⟨h1, h2, h3⟩ := h; exact ⟨h1, by omega, by omega⟩
theorem loadRes_n (S : DS) (s : SS) : (loadRes S s).1.n = s.n ∧ (loadRes S s).1.first = s.first := by
  unfold loadRes loaded
  repeat' split
  all_goals exact ⟨rfl, rfl⟩
theorem saveRes_n (S : DS) (s : SS) (b : List UInt8) : (saveRes S s b).1.2.n = s.n ∧ (saveRes S s b).1.2.first = s.first := by
  unfold saveRes
  repeat' split
  all_goals exact ⟨rfl, rfl⟩
theorem newC_within {S : DS} {B : Nat} (h : S.within B) {s : SS} (hn : s.n ≤ 8) (head : List UInt8) (t b : UInt64) : (newC S s head t b).1.1.within (B + 9) := by
  unfold newC
  split
  · exact within_mono h (by omega)
  · split
    · exact within_mono h (by omega)
    · split
      · exact saveRes_within h (by rw [(loadRes_n S s).1]; exact hn) _
      · exact within_mono h (by omega)
theorem saveC_within {S : DS} {B : Nat} (h : S.within B) {s : SS} (hn : s.n ≤ 8) (x x' : Cn) (head : List UInt8) : (saveC S s x x' head).1.1.1.within (B + 9) := by
  unfold saveC
  split
  · exact within_mono h (by omega)
  · split
    · exact within_mono h (by omega)
    · split
      · exact saveRes_within h hn _
      · exact saveRes_within h hn _
theorem takeC_within {S : DS} {B : Nat} (h : S.within B) {s : SS} (hn : s.n ≤ 8) (x : Cn) (head : List UInt8) : (takeC S s x head).1.1.1.within (B + 9) := by
  unfold takeC
  split
  · exact within_mono h (by omega)
  · split
    · exact within_mono h (by omega)
    · split
      · split
        · exact saveC_within h hn _ _ _
        · exact saveC_within h hn _ _ _
      · exact within_mono h (by omega)
theorem f21 : ∃ (N : (DS × SS) × Int) (T : ((DS × SS) × Cn) × (UInt64 × Int)) (O : (Cn × List UInt8) × Int) (s3 : SS) (U : ((DS × SS) × Cn) × (UInt64 × Int)) (V : (DS × SS) × Int),
    newC (fresh 16) (s0 0 8) h21 10 4 = N ∧ takeC N.1.1 N.1.2 (newX 10 4) h21 = T ∧ openC T.1.1.1 T.1.1.2 = O ∧ (loadRes T.1.1.1 T.1.1.2).1 = s3 ∧ takeC T.1.1.1 s3 O.1.1 h21 = U ∧ newC U.1.1.1 U.1.1.2 [] 10 4 = V ∧
    N.2 = 0 ∧ T.2 = (0, 0) ∧ O.2 = 0 ∧ U.2 = (4, 0) ∧ V.2 = 10 ∧ O.1.2 = h21 ∧ U.1.2 = ⟨10, 4, 8, 5, false⟩ :=
  ⟨n21, t21, o21, l21, u21, m21, rfl, rfl, rfl, rfl, by rw [← f21_6]; rfl, rfl, f21_1, f21_2, f21_3, f21_4, f21_5, f21_6, f21_7⟩
end Go.Proofs.YtbgdjdhbejbhkaaDoor
set_option linter.unusedVariables false
set_option linter.unusedSimpArgs false
namespace Go.Proofs.YtbgdjdhbejbhkaaDoor
open Go Go.Eng
/-- A counter that lives on a calm disk. -/
structure Live (S : DS) (s : SS) (x : Cn) (head : List UInt8) : Prop where
  bears : Bears S s
  nz : s.num ≠ 0
  n : s.n = 8
  b : s.b = bytesC x head
  may : mayB x head.length = true
  next : x.next.toNat ≤ x.reserved.toNat
theorem mayB_iff {x : Cn} {l : Nat} : mayB x l = true ↔ (1 ≤ x.total.toNat ∧ x.total.toNat ≤ 1152921504606846976 ∧ 1 ≤ x.batch.toNat ∧ x.batch.toNat ≤ 65536 ∧ x.reserved.toNat ≤ x.total.toNat ∧ l ≤ 200) := by rw [mayB, decide_eq_true_eq]
theorem load_fresh16 : loadRes (fresh 16) (s0 0 8) = (s0 0 8, 11) := by kernel_rfl
theorem live_new {t b : UInt64} {head : List UInt8} (hm : mayB (newX t b) head.length = true) :
    ∃ S s, newC (fresh 16) (s0 0 8) head t b = ((S, s), 0) ∧ Live S s (newX t b) head ∧ s.num = 1 ∧ s.first = 0 ∧ S.sure.length = 16 := by
  have hl := (mayB_iff.1 hm).2.2.2.2.2
  have hbl : (bytesC (newX t b) head).length + 28 ≤ 64 * (s0 0 8).n := by rw [bytesC_length]; show _ ≤ 64 * 8; omega
  have hbe : Bears (fresh 16) (s0 0 8) := bears_fresh (by omega) (by omega)
  refine ⟨_, _, ?_, ⟨hbe.save hbl (by decide), show (0 : UInt64) + 1 ≠ 0 by decide, rfl, rfl, hm, Nat.zero_le _⟩, rfl, rfl, ?_⟩
  · rw [newC, if_neg (by simp [hm]), load_fresh16, if_neg (by decide), if_pos rfl, save_calm hbe.calm hbe.ok hbl]
  · show (setSecs (fresh 16).sure _ _ _).length = 16
    rw [setSecs_length]; simp [fresh]
theorem Live.take {S : DS} {s : SS} {x : Cn} {head : List UInt8} (h : Live S s x head) (hr : x.retired = false) (hnum : s.num.toNat < 9223372036854775808) (ht : x.next.toNat < x.total.toNat) :
    ∃ S' s' x', takeC S s x head = (((S', s'), x'), (x.next, 0)) ∧ Live S' s' x' head ∧ x'.next.toNat = x.next.toNat + 1 ∧ x'.total = x.total ∧ x'.batch = x.batch ∧ x'.retired = x.retired ∧ s'.first = s.first ∧ S'.sure.length = S.sure.length ∧
      ((x.next.toNat < x.reserved.toNat ∧ S' = S ∧ s' = s ∧ x'.reserved = x.reserved) ∨ (x.next.toNat = x.reserved.toNat ∧ s'.num.toNat = s.num.toNat + 1 ∧ x'.reserved.toNat = min x.total.toNat (x.reserved.toNat + x.batch.toNat))) := by
  obtain ⟨m1, m2, m3, m4, m5, m6⟩ := mayB_iff.1 h.may
  have hn := h.next
  have hne : x.next ≠ x.total := fun e => by rw [e] at ht; omega
  have hadd : ∀ u : UInt64, u.toNat < 9223372036854775808 → (u + 1).toNat = u.toNat + 1 := fun u hu => by rw [UInt64.toNat_add]; simp; omega
  by_cases he : x.next = x.reserved
  · have hsum : (x.reserved + x.batch).toNat = x.reserved.toNat + x.batch.toNat := by rw [UInt64.toNat_add]; omega
    have hres : (moreC x).reserved.toNat = min x.total.toNat (x.reserved.toNat + x.batch.toNat) := by
      rw [moreC]; show (if _ then _ else _ : UInt64).toNat = _
      rw [hsum]; split <;> omega
    have hxr : x.next.toNat = x.reserved.toNat := by rw [he]
    have hmore : mayB (moreC x) head.length = true := mayB_iff.2 ⟨m1, m2, m3, m4, by rw [hres]; exact Nat.min_le_left _ _, m6⟩
    have hbl : (bytesC (moreC x) head).length + 28 ≤ 64 * s.n := by rw [bytesC_length, h.n]; omega
    have hne2 : moreC x ≠ x := fun e => by have := congrArg Cn.reserved e; rw [← UInt64.toNat_inj, hres] at this; omega
    have hsv := save_calm h.bears.calm h.bears.ok hbl
    have hcs : saveC S s x (moreC x) head = (((savedD S s (bytesC (moreC x) head), s.saved (bytesC (moreC x) head)), moreC x), 0) := by
      rw [saveC, if_neg hne2, if_neg (by simp [hmore]), hsv, if_neg (by simp)]
    have hnx : (x.next + 1).toNat = x.next.toNat + 1 := hadd _ (by omega)
    refine ⟨_, _, nextC' (moreC x), ?_, ⟨h.bears.save hbl (by omega), ?_, h.n, rfl, hmore, ?_⟩, hnx, rfl, rfl, rfl, rfl, setSecs_length _ _ _ _, .inr ⟨hxr, hadd _ hnum, hres⟩⟩
    · rw [takeC, if_neg (by simp [hr]), if_neg hne, if_pos he, hcs, if_neg (by simp)]
      show (((_, _), nextC' (moreC x)), ((x.next + 1 - 1), _)) = _
      rw [UInt64.add_sub_cancel]
    · show s.num + 1 ≠ 0
      intro e
      have := hadd s.num hnum
      rw [e] at this
      simp at this
    · show (x.next + 1).toNat ≤ (moreC x).reserved.toNat
      rw [hnx, hres]; omega
  · have hlt : x.next.toNat < x.reserved.toNat := by
      have : x.next.toNat ≠ x.reserved.toNat := fun e => he (UInt64.toNat_inj.1 e)
      omega
    have hnx : (x.next + 1).toNat = x.next.toNat + 1 := hadd _ (by omega)
    refine ⟨S, s, nextC' x, ?_, ⟨h.bears, h.nz, h.n, h.b, h.may, ?_⟩, hnx, rfl, rfl, rfl, rfl, rfl, .inl ⟨hlt, rfl, rfl, rfl⟩⟩
    · rw [takeC, if_neg (by simp [hr]), if_neg hne, if_neg he]
      show (((S, s), nextC' x), ((x.next + 1 - 1), _)) = _
      rw [UInt64.add_sub_cancel]
    · show (x.next + 1).toNat ≤ x.reserved.toNat
      omega
theorem take_over {S : DS} {s : SS} {x : Cn} {head : List UInt8} (hr : x.retired = false) (ht : x.next = x.total) : takeC S s x head = (((S, s), x), (0, 9)) := by
  rw [takeC, if_neg (by simp [hr]), if_pos ht]
theorem Live.load {S : DS} {s t : SS} {x : Cn} {head : List UInt8} (h : Live S s x head) (hf : t.first = s.first) (hn : t.n = s.n) : loadRes S t = (s, 0) := by
  rw [h.bears.load h.nz hf hn]
  cases s; cases t; simp_all
theorem Live.opened {S : DS} {s t : SS} {x : Cn} {head : List UInt8} (h : Live S s x head) (hf : t.first = s.first) (hn : t.n = s.n) : openC S t = (({ x with next := x.reserved }, head), 0) ∧ Live S s { x with next := x.reserved } head := by
  refine ⟨?_, h.bears, h.nz, h.n, h.b, h.may, Nat.le_refl _⟩
  rw [openC, h.load hf hn, if_neg (by simp)]
  show readC s.b = _
  rw [h.b, readC_bytesC h.may]
end Go.Proofs.YtbgdjdhbejbhkaaDoor
set_option linter.unusedVariables false
set_option linter.unusedSimpArgs false
set_option linter.constructorNameAsVariable false
namespace Go.Proofs.YtbgdjdhbejbhkaaDoor
open Go Go.Eng
section
variable {G : World} {M : Mem} {L R : Own} {p d : Nat} {r : DRep} {S : DS} {s : SS} {A0 : Option Addr} {l0 c0 : Nat}
theorem awake21_spec (hg : ShaG M) : Con Tryd.prog 46 #[] G M L (fun v M' L' => L = L' ∧ v = .bool true) noPanic := by
  obtain ⟨N, T, O, s3, U, V, eN, eT, eO, es3, eU, eV, f1, f2, f3, f4, f5, f6, f7⟩ := f21
  refine enter (args := []) (fn := Tryd.f46) ⟨Tryd.func46, rfl, by kernel_rfl, by kernel_rfl⟩ 97 rfl ?_
  refine x_seq (x_region ?_)
  refine tl_y rfl (y_assign rfl) ?_
  refine tl_nil (.then_normal ?_)
  refine x_seq (x_region ?_)
  refine tl_e rfl (e_call' rfl (New_spec 16) ?_)
  intro _ M1 L1 hM1 hv
  rw [if_neg (by omega)] at hv
  obtain ⟨d, ⟨r1, hd1, rfl⟩, rfl⟩ := hv
  have hm := hM1
  refine tl_y rfl (y_move (v := .tuple _) rfl) ?_
  refine tl_y rfl (y_extract rfl) ?_
  refine tl_y rfl (y_extract rfl) ?_
  refine tl_y rfl (y_assign (v := .pointer _) rfl) ?_
  refine tl_y rfl (y_assign (v := .int _ _) rfl) ?_
  refine tl_nil (.then_normal ?_)
  refine .sub (F' := [(1, _)]) (.cons rfl .nil) ?_
  refine x_seq (x_seq (x_region ?_))
  refine tl_y rfl (y_move (v := .pointer _) rfl) ?_
  refine tl_y rfl (y_eqNilPtr rfl rfl) ?_
  refine tl_nil (.then_normal ?_)
  refine x_false rfl (rfl) ?_
  refine x_skip (.then_normal ?_)
  refine x_seq (x_region ?_)
  refine tl_y rfl (y_move (v := .pointer _) rfl) ?_
  refine tl_e rfl (e_call' rfl (sNew_ok (S := fresh 16) hd1 0 8 (by omega) (by rw [fresh_len]; omega)) ?_)
  rintro _ M2 _ hM2 ⟨p, rfl, r2, A2, l2, c2, hd2, hb2, rfl⟩
  replace hm := hm.trans hM2
  have hok0 : OkS (fresh 16) (s0 0 8) := okS0 (by omega) (by rw [fresh_len]; omega)
  refine tl_y rfl (y_move (v := .tuple _) rfl) ?_
  refine tl_y rfl (y_extract rfl) ?_
  refine tl_y rfl (y_extract rfl) ?_
  refine tl_y rfl (y_assign (v := .pointer _) rfl) ?_
  refine tl_y rfl (y_assign (v := .int _ _) rfl) ?_
  refine tl_nil (.then_normal ?_)
  refine .sub (F' := [(3, _)]) (.cons rfl .nil) ?_
  refine x_seq (x_seq (x_region ?_))
  refine tl_y rfl (y_move (v := .pointer _) rfl) ?_
  refine tl_y rfl (y_eqNilPtr rfl rfl) ?_
  refine tl_nil (.then_normal ?_)
  refine x_false rfl (rfl) ?_
  refine x_skip (.then_normal ?_)
  refine x_seq (x_region ?_)
  refine tl_y rfl (y_move (v := .pointer _) rfl) ?_
  refine tl_e rfl (e_buildSlice rfl (by decide) (fun b1 => ?_))
  refine tl_e rfl (e_convMark rfl inferInstance (fun M3 fr3 hM3 hb3 => ?_))
  replace hm := hm.trans hM3
  have hA3 : Bytes M3 (some ⟨b1, 0, none⟩) 1 1 h21 := Row.whole hb3 rfl (by omega)
  refine tl_e rfl (e_call' rfl (cNew_spec (hg.mono hm) (hd2.mono hM3) hok0 (within_fresh 16) (by omega) (hb2.mono hM3) hA3 10 4) ?_)
  intro _ M4 _ hM4 hv
  replace hm := hm.trans hM4
  rw [eN, if_pos f1] at hv
  obtain ⟨c, A4, c4, rfl, hh4, r4, A5, l5, c5, hd4, hb4, rfl⟩ := hv
  have hok1 : OkS N.1.1 N.1.2 := eN ▸ newC_ok hok0 h21 10 4
  have hw1 : N.1.1.within 9 := eN ▸ newC_within (within_fresh 16) (show (8 : Nat) ≤ 8 by decide) h21 10 4
  refine tl_y rfl (y_move (v := .tuple _) rfl) ?_
  refine tl_y rfl (y_extract rfl) ?_
  refine tl_y rfl (y_extract rfl) ?_
  refine tl_y rfl (y_assign (v := .pointer _) rfl) ?_
  refine tl_y rfl (y_assign (v := .int _ _) rfl) ?_
  refine tl_nil (.then_normal ?_)
  refine .sub (F' := [(3, _), (5, _), (6, _)]) (.cons rfl (.cons rfl (.cons rfl .nil))) ?_
  refine x_seq (x_seq (x_region ?_))
  refine tl_y rfl (y_move (v := .pointer _) rfl) ?_
  refine tl_y rfl (y_eqNilPtr rfl rfl) ?_
  refine tl_y rfl (y_move (v := .bool _) rfl) ?_
  refine tl_set (s := 37) (u := .bool false) rfl (rfl) ?_
  refine tl_y rfl (y_move (v := .int _ _) rfl) ?_
  refine tl_y rfl (y_neq rfl rfl) ?_
  refine tl_y rfl (y_pickF rfl rfl) ?_
  refine tl_nil (.then_normal ?_)
  refine .sub (F' := [(3, _), (5, _), (40, _)]) (.cons rfl (.cons rfl (.cons rfl .nil))) ?_
  refine x_false rfl (rfl) ?_
  refine x_skip (.then_normal ?_)
  refine x_seq (x_region ?_)
  refine tl_y rfl (y_move (v := .pointer _) rfl) ?_
  refine tl_e rfl (e_call' rfl (Take_spec (hg.mono hm) hd4 hok1 hw1 (by omega) hb4 hh4 (newX 10 4)) ?_)
  rintro _ M6 _ hM6 ⟨⟨r6, A6, l6, c6, hd6, hb6, rfl⟩, rfl⟩
  replace hm := hm.trans hM6
  rw [eT] at hd6 hb6 ⊢
  have hok2 : OkS T.1.1.1 T.1.1.2 := eT ▸ takeC_ok hok1 (newX 10 4) h21
  have hw2 : T.1.1.1.within 18 := eT ▸ takeC_within hw1 hok1.n.2 (newX 10 4) h21
  rw [f2]
  refine tl_y rfl (y_move (v := .tuple _) rfl) ?_
  refine tl_y rfl (y_extract rfl) ?_
  refine tl_y rfl (y_extract rfl) ?_
  refine tl_y rfl (y_assign (v := .int _ _) rfl) ?_
  refine tl_y rfl (y_assign (v := .int _ _) rfl) ?_
  refine tl_nil (.then_normal ?_)
  refine .sub (F' := [(3, _), (7, _), (8, _)]) (.cons rfl (.cons rfl (.cons rfl .nil))) ?_
  refine x_seq (x_region ?_)
  refine tl_y rfl (y_move (v := .pointer _) rfl) ?_
  refine tl_e rfl (e_call' rfl (cOpen_spec (hg.mono hm) hd6 hok2 hb6) ?_)
  intro _ M7 _ hM7 hv
  replace hm := hm.trans hM7
  rw [eO, if_pos f3, es3, f6] at hv
  obtain ⟨o, A7, n7, c7, rfl, hh7, r7, A8, l8, c8, hd7, hb7, rfl⟩ := hv
  have hok3 : OkS T.1.1.1 s3 := es3 ▸ loadRes_ok hok2
  have hl7 := hh7.size
  obtain rfl : n7 = 1 := hl7.symm
  refine tl_y rfl (y_move (v := .tuple _) rfl) ?_
  refine tl_y rfl (y_extract rfl) ?_
  refine tl_y rfl (y_extract rfl) ?_
  refine tl_y rfl (y_assign (v := .pointer _) rfl) ?_
  refine tl_y rfl (y_assign (v := .int _ _) rfl) ?_
  refine tl_nil (.then_normal ?_)
  refine .sub (F' := [(3, _), (7, _), (8, _), (9, _), (10, _)]) (.cons rfl (.cons rfl (.cons rfl (.cons rfl (.cons rfl .nil))))) ?_
  refine x_seq (x_seq (x_region ?_))
  refine tl_y rfl (y_move (v := .pointer _) rfl) ?_
  refine tl_y rfl (y_eqNilPtr rfl rfl) ?_
  refine tl_nil (.then_normal ?_)
  refine x_false rfl (rfl) ?_
  refine x_skip (.then_normal ?_)
  refine x_seq (x_region ?_)
  refine tl_y rfl (y_move (v := .pointer _) rfl) ?_
  refine tl_e rfl (e_call' rfl (Take_spec (hg.mono hm) hd7 hok3 hw2 (by omega) hb7 hh7 O.1.1) ?_)
  rintro _ M9 _ hM9 ⟨⟨r9, A9, l9, c9, hd9, hb9, rfl⟩, rfl⟩
  replace hm := hm.trans hM9
  rw [eU] at hd9 hb9 ⊢
  have hok4 : OkS U.1.1.1 U.1.1.2 := eU ▸ takeC_ok hok3 O.1.1 h21
  have hw4 : U.1.1.1.within 27 := eU ▸ takeC_within hw2 hok3.n.2 O.1.1 h21
  have hh9 := hh7.mono hM9
  rw [f4, f7]
  refine tl_y rfl (y_move (v := .tuple _) rfl) ?_
  refine tl_y rfl (y_extract rfl) ?_
  refine tl_y rfl (y_extract rfl) ?_
  refine tl_y rfl (y_assign (v := .int _ _) rfl) ?_
  refine tl_y rfl (y_assign (v := .int _ _) rfl) ?_
  refine tl_nil (.then_normal ?_)
  refine .sub (F' := [(3, _), (7, _), (8, _), (9, _), (10, _), (11, _), (12, _)]) (.cons rfl (.cons rfl (.cons rfl (.cons rfl (.cons rfl (.cons rfl (.cons rfl .nil))))))) ?_
  refine x_seq (x_region ?_)
  refine tl_y rfl (y_move (v := .pointer _) rfl) ?_
  refine tl_e rfl (e_call' rfl (cNew_spec (hg.mono hm) hd9 hok4 hw4 (by omega) hb9 (show Bytes M9 none 0 0 [] from Row.nil M9 _) 10 4) ?_)
  intro _ M10 _ hM10 hv
  replace hm := hm.trans hM10
  rw [eV, if_neg (by rw [f5]; decide)] at hv
  obtain ⟨rfl, r10, A10, l10, c10, hd10, hb10, rfl⟩ := hv
  rw [f5]
  refine tl_y rfl (y_move (v := .tuple _) rfl) ?_
  refine tl_y rfl (y_extract rfl) ?_
  refine tl_y rfl (y_extract rfl) ?_
  refine tl_y rfl (y_assign (v := .pointer _) rfl) ?_
  refine tl_y rfl (y_assign (v := .int _ _) rfl) ?_
  refine tl_nil (.then_normal ?_)
  refine .sub (F' := [(7, _), (8, _), (9, _), (10, _), (11, _), (12, _), (14, _)]) (.cons rfl (.cons rfl (.cons rfl (.cons rfl (.cons rfl (.cons rfl (.cons rfl .nil))))))) ?_
  refine x_seq (x_region ?_)
  refine tl_y rfl (y_move (v := .int _ _) rfl) ?_
  refine tl_y rfl (y_eql rfl rfl) ?_
  refine tl_y rfl (y_move (v := .bool _) rfl) ?_
  refine tl_set (s := 65) (u := .bool true) rfl (by first | rfl | decide) ?_
  refine tl_y rfl (y_move (v := .int _ _) rfl) ?_
  refine tl_y rfl (y_eql rfl rfl) ?_
  refine tl_y rfl (y_pickT rfl rfl) ?_
  refine tl_y rfl (y_move (v := .bool _) rfl) ?_
  refine tl_set (s := 69) (u := .bool true) rfl (by first | rfl | decide) ?_
  refine tl_y rfl (y_move (v := .int _ _) rfl) ?_
  refine tl_y rfl (y_eql rfl rfl) ?_
  refine tl_y rfl (y_pickT rfl rfl) ?_
  refine tl_y rfl (y_move (v := .bool _) rfl) ?_
  refine tl_set (s := 73) (u := .bool true) rfl (by first | rfl | decide) ?_
  refine tl_y rfl (y_move (v := .int _ _) rfl) ?_
  refine tl_y rfl (y_eql rfl rfl) ?_
  refine tl_y rfl (y_pickT rfl rfl) ?_
  refine tl_y rfl (y_move (v := .bool _) rfl) ?_
  refine tl_set (s := 77) (u := .bool true) rfl (by first | rfl | decide) ?_
  refine tl_y rfl (y_move (v := .int _ _) rfl) ?_
  refine tl_y rfl (y_eql rfl rfl) ?_
  refine tl_y rfl (y_pickT rfl rfl) ?_
  refine tl_y rfl (y_move (v := .bool _) rfl) ?_
  refine tl_set (s := 81) (u := .bool true) rfl (by first | rfl | decide) ?_
  refine tl_y rfl (y_move (v := .pointer _) rfl) ?_
  refine tl_e rfl (e_call' rfl (Con.bring o inferInstance (Head_spec _ (hh9.mono hM10) (by omega))) ?_)
  rintro _ M11 _ hM11 ⟨rfl, A11, c11, rfl, hA11⟩
  replace hm := hm.trans hM11
  refine tl_y rfl (y_toStr rfl (.row hA11)) ?_
  refine tl_y rfl (y_eqlStr rfl rfl) ?_
  refine tl_y rfl (y_pickT rfl rfl) ?_
  refine tl_y rfl (y_move (v := .bool _) rfl) ?_
  refine tl_set (s := 87) (u := .bool true) rfl (by first | rfl | decide) ?_
  refine tl_y rfl (y_move (v := .pointer _) rfl) ?_
  refine tl_e rfl (e_call' rfl (State_spec ⟨10, 4, 8, 5, false⟩) ?_)
  rintro _ _ _ _ ⟨rfl, rfl, rfl⟩
  refine tl_y rfl (y_build rfl) ?_
  refine tl_y rfl (y_eqlS rfl rfl eqs81) ?_
  refine tl_y rfl (y_pickT rfl rfl) ?_
  refine tl_y rfl (y_move (v := .bool _) rfl) ?_
  refine tl_set (s := 93) (u := .bool true) rfl (by first | rfl | decide) ?_
  refine tl_y rfl (y_move (v := .int _ _) rfl) ?_
  refine tl_y rfl (y_eql rfl rfl) ?_
  refine tl_y rfl (y_pickT rfl rfl) ?_
  refine tl_y rfl (y_assign (v := .bool _) rfl) ?_
  refine tl_nil (.then_normal ?_)
  refine .sub (F' := [(0, _)]) (.cons rfl .nil) ?_
  refine x_ret (.dropTo L inferInstance (ret1 rfl rfl hm ⟨rfl, rfl⟩))
end
end Go.Proofs.YtbgdjdhbejbhkaaDoor
set_option linter.unusedVariables false
set_option linter.unusedSimpArgs false
set_option linter.constructorNameAsVariable false
namespace Go.Proofs.YtbgdjdhbejbhkaaDoor
open Go Go.Eng
section
variable {G : World} {M : Mem} {L R : Own}
/-- A counter as bytes, in one shape. -/
theorem Bytes2_spec (x : Cn) {A : Option Addr} {n c : Nat} {head : List UInt8} (h : Bytes M A n c head) :
    Con Tryd.prog 47 #[.agg (List.toArray (ccells x)), .slice A n c] G M L (fun v M' L' => L' = L ∧ ∃ A' n' c' w, v = .tuple #[.slice A' n' c', .int .i64 (if mayB x n = true then 0 else 1)] ∧ Bytes M' A' n' c' w ∧ w = (if mayB x n = true then bytesC x head else [])) noPanic :=
  (Bytes_spec x h).post fun v M' L' hM ⟨hL, hv⟩ => by
    refine ⟨hL, ?_⟩
    by_cases hm : mayB x n = true
    · rw [if_pos hm] at hv ⊢
      obtain ⟨A', c', rfl, hb⟩ := hv
      exact ⟨A', _, c', _, rfl, hb, by rw [if_pos hm]⟩
    · rw [if_neg hm] at hv ⊢
      exact ⟨none, 0, 0, [], hv, Row.nil _ _, by rw [if_neg hm]⟩
theorem bytesC_inj (x y : Cn) (h g : List UInt8) : bytesC x h = bytesC y g ↔ ((x.total.toNat : Int) = y.total.toNat ∧ ((x.batch.toNat : Int) = y.batch.toNat ∧ ((x.reserved.toNat : Int) = y.reserved.toNat ∧ ((0 : Int) = 0 ∧ (x.retired = y.retired ∧ True))))) ∧ h = g := by
  constructor
  · intro e
    have e1 := congrArg xOf e
    have e2 := congrArg (List.drop 25) e
    rw [xOf_bytes, xOf_bytes] at e1
    rw [drop25_bytes, drop25_bytes] at e2
    simp only [Cn.mk.injEq] at e1
    obtain ⟨a, b, c, _, d⟩ := e1
    exact ⟨⟨by rw [a], by rw [b], by rw [c], rfl, d, trivial⟩, e2⟩
  · rintro ⟨⟨a, b, c, _, d, _⟩, rfl⟩
    rw [bytesC, bytesC, d, show x.total.toNat = y.total.toNat by omega, show x.batch.toNat = y.batch.toNat by omega, show x.reserved.toNat = y.reserved.toNat by omega]
theorem ReserveRows_spec (hg : ShaG M) (x y : Cn) {A B : Option Addr} {n c m d : Nat} {h g : List UInt8} (hh : Bytes M A n c h) (hgg : Bytes M B m d g) :
    Con Tryd.prog 11 #[.agg (List.toArray (ccells x)), .agg (List.toArray (ccells y)), .agg #[.slice A n c, .slice B m d]] G M L (fun v M' L' => v = .bool true) noPanic := by
  refine enter (args := [_, _, _]) (fn := Tryd.f11) ⟨Tryd.func11, rfl, by kernel_rfl, by kernel_rfl⟩ 68 rfl ?_
  refine x_seq (x_region ?_)
  refine tl_e rfl (e_box rfl (fun b1 => ?_))
  refine tl_e rfl (e_box rfl (fun b2 => ?_))
  refine tl_e rfl (e_box rfl (fun b3 => ?_))
  refine tl_y rfl (y_assign rfl) ?_
  refine tl_nil (.then_normal ?_)
  refine .sub (F' := [(3, _), (4, _), (5, _)]) (.cons rfl (.cons rfl (.cons rfl .nil))) ?_
  refine x_seq (x_seq (x_region ?_))
  refine tl_e rfl (e_call' rfl (awake21_spec hg) ?_)
  rintro _ M1 _ hM1 ⟨rfl, rfl⟩
  refine tl_y rfl (y_not rfl) ?_
  refine tl_nil (.then_normal ?_)
  refine x_false rfl (rfl) ?_
  refine x_skip (.then_normal ?_)
  refine x_seq (x_region ?_)
  refine tl_y rfl (y_loadAgg rfl rfl (.own inferInstance inferInstance)) ?_
  refine tl_y rfl (y_indexArrK 0 rfl rfl (by omega)) ?_
  refine tl_y rfl (y_load rfl rfl (.own inferInstance inferInstance)) ?_
  refine tl_e rfl (e_call' rfl (Bytes2_spec x (hh.mono hM1)) ?_)
  rintro _ M2 _ hM2 ⟨rfl, A2, n2, c2, w, rfl, hw, ew⟩
  refine tl_y rfl (y_move (v := .tuple _) rfl) ?_
  refine tl_y rfl (y_extract rfl) ?_
  refine tl_y rfl (y_extract rfl) ?_
  refine tl_y rfl (y_assign (v := .slice _ _ _) rfl) ?_
  refine tl_y rfl (y_assign (v := .int _ _) rfl) ?_
  refine tl_nil (.then_normal ?_)
  refine .sub (F' := [(3, _), (4, _), (5, _), (7, _), (8, _)]) (.cons rfl (.cons rfl (.cons rfl (.cons rfl (.cons rfl .nil))))) ?_
  refine x_seq (x_region ?_)
  refine tl_y rfl (y_loadAgg rfl rfl (.own inferInstance inferInstance)) ?_
  refine tl_y rfl (y_indexArrK 1 rfl rfl (by omega)) ?_
  refine tl_y rfl (y_load rfl rfl (.own inferInstance inferInstance)) ?_
  refine tl_e rfl (e_call' rfl (Bytes2_spec y (hgg.mono (hM1.trans hM2))) ?_)
  rintro _ M3 _ hM3 ⟨rfl, A3, n3, c3, u, rfl, hu, eu⟩
  have hLe : Le M M3 := hM1.trans (hM2.trans hM3)
  have hz : ∀ b : Bool, ¬ (if b = true then (0 : Int) else 1) = 0 → decide ((if b = true then (0 : Int) else 1) = 1) = true := fun b => by cases b <;> simp
  refine tl_y rfl (y_move (v := .tuple _) rfl) ?_
  refine tl_y rfl (y_extract rfl) ?_
  refine tl_y rfl (y_extract rfl) ?_
  refine tl_y rfl (y_assign (v := .slice _ _ _) rfl) ?_
  refine tl_y rfl (y_assign (v := .int _ _) rfl) ?_
  refine tl_nil (.then_normal ?_)
  refine .sub (F' := [(3, _), (4, _), (5, _), (7, _), (8, _), (9, _), (10, _)]) (.cons rfl (.cons rfl (.cons rfl (.cons rfl (.cons rfl (.cons rfl (.cons rfl .nil))))))) ?_
  refine x_seq (x_seq (x_region ?_))
  refine tl_y rfl (y_move (v := .int _ _) rfl) ?_
  refine tl_y rfl (y_neq rfl rfl) ?_
  refine tl_y rfl (y_move (v := .bool _) rfl) ?_
  refine tl_cases (s := 31) rfl (fun hk1 => ?_) (fun hk1 => ?_)
  ·
    refine tl_skip rfl ?_
    refine tl_skip rfl ?_
    refine tl_y rfl (y_pickT rfl rfl) ?_
    refine tl_nil (.then_normal ?_)
    refine .sub (F' := [(3, _), (4, _), (5, _), (7, _), (8, _), (9, _), (34, _)]) (.cons rfl (.cons rfl (.cons rfl (.cons rfl (.cons rfl (.cons rfl (.cons rfl .nil))))))) ?_
    refine x_true rfl rfl ?_
    refine x_seq (x_region ?_)
    refine tl_y rfl (y_move (v := .int _ _) rfl) ?_
    refine tl_y rfl (y_eql rfl rfl) ?_
    refine tl_y rfl (y_move (v := .bool _) rfl) ?_
    refine tl_cases (s := 37) rfl (fun hk2 => ?_) (fun hk2 => ?_)
    ·
      refine tl_skip rfl ?_
      refine tl_skip rfl ?_
      refine tl_y rfl (y_pickT rfl rfl) ?_
      refine tl_y rfl (y_assign (v := .bool _) rfl) ?_
      refine tl_nil (.then_normal ?_)
      refine .sub (F' := [(6, _)]) (.cons rfl .nil) ?_
      refine x_ret (.then_ret (ret1 rfl rfl hLe rfl))
    ·
      refine tl_y rfl (y_move (v := .int _ _) rfl) ?_
      refine tl_y rfl (y_eql rfl rfl) ?_
      refine tl_y rfl (y_pickF rfl rfl) ?_
      refine tl_y rfl (y_assign (v := .bool _) rfl) ?_
      refine tl_nil (.then_normal ?_)
      refine .sub (F' := [(6, _)]) (.cons rfl .nil) ?_
      refine x_ret (.then_ret (ret1 rfl rfl hLe (by rw [hz _ (by assumption)])))
  ·
    refine tl_y rfl (y_move (v := .int _ _) rfl) ?_
    refine tl_y rfl (y_neq rfl rfl) ?_
    refine tl_y rfl (y_pickF rfl rfl) ?_
    refine tl_nil (.then_normal ?_)
    refine .sub (F' := [(3, _), (4, _), (5, _), (7, _), (8, _), (9, _), (34, _)]) (.cons rfl (.cons rfl (.cons rfl (.cons rfl (.cons rfl (.cons rfl (.cons rfl .nil))))))) ?_
    refine x_cond rfl (fun hc2 => ?_) (fun hc2 => ?_)
    ·
      refine x_seq (x_region ?_)
      refine tl_y rfl (y_move (v := .int _ _) rfl) ?_
      refine tl_y rfl (y_eql rfl rfl) ?_
      refine tl_y rfl (y_move (v := .bool _) rfl) ?_
      refine tl_cases (s := 37) rfl (fun hk3 => ?_) (fun hk3 => ?_)
      ·
        refine tl_skip rfl ?_
        refine tl_skip rfl ?_
        refine tl_y rfl (y_pickT rfl rfl) ?_
        refine tl_y rfl (y_assign (v := .bool _) rfl) ?_
        refine tl_nil (.then_normal ?_)
        refine .sub (F' := [(6, _)]) (.cons rfl .nil) ?_
        refine x_ret (.then_ret (ret1 rfl rfl hLe rfl))
      ·
        refine tl_y rfl (y_move (v := .int _ _) rfl) ?_
        refine tl_y rfl (y_eql rfl rfl) ?_
        refine tl_y rfl (y_pickF rfl rfl) ?_
        refine tl_y rfl (y_assign (v := .bool _) rfl) ?_
        refine tl_nil (.then_normal ?_)
        refine .sub (F' := [(6, _)]) (.cons rfl .nil) ?_
        refine x_ret (.then_ret (ret1 rfl rfl hLe (by rw [hz _ (by assumption)])))
    ·
      have hmx : mayB x n = true := by
        have h0 : ¬ (if mayB x n = true then (0 : Int) else 1) ≠ 0 := by simpa using hk1
        cases hb : mayB x n with
        | true => rfl
        | false => rw [hb] at h0; exact absurd (by decide) h0
      have hmy : mayB y m = true := by
        have h0 : ¬ (if mayB y m = true then (0 : Int) else 1) ≠ 0 := by simpa using hc2
        cases hb : mayB y m with
        | true => rfl
        | false => rw [hb] at h0; exact absurd (by decide) h0
      have hn : n ≤ 200 := by have h := hmx; rw [mayB, decide_eq_true_eq] at h; omega
      rw [if_pos hmx] at ew
      rw [if_pos hmy] at eu
      have hn2 : n2 = 25 + n := by have := hw.size; rw [ew, bytesC_length] at this; have := hh.size; omega
      subst hn2
      refine x_skip (.then_normal ?_)
      refine x_seq (x_region ?_)
      refine tl_y rfl (y_loadAgg rfl rfl (.own inferInstance inferInstance)) ?_
      refine tl_e rfl (e_alloc (fun b4 => ?_))
      refine tl_e rfl (e_store rfl rfl (by rfl) (by rfl) inferInstance inferInstance inferInstance ?_)
      refine tl_nil (.then_normal ?_)
      refine .sub (F' := [(4, _), (5, _), (7, _), (9, _), (11, _)]) (.cons rfl (.cons rfl (.cons rfl (.cons rfl (.cons rfl .nil))))) ?_
      refine x_seq (x_region ?_)
      refine tl_y rfl (y_loadAgg rfl rfl (.own inferInstance inferInstance)) ?_
      refine tl_e rfl (e_alloc (fun b5 => ?_))
      refine tl_e rfl (e_store rfl rfl (by rfl) (by rfl) inferInstance inferInstance inferInstance ?_)
      refine tl_nil (.then_normal ?_)
      refine x_seq (x_region ?_)
      refine tl_y rfl (y_fieldAddr rfl) ?_
      refine tl_e rfl (e_store rfl rfl (by rfl) (by rfl) inferInstance inferInstance inferInstance ?_)
      refine tl_nil (.then_normal ?_)
      refine x_seq (x_region ?_)
      refine tl_y rfl (y_fieldAddr rfl) ?_
      refine tl_e rfl (e_store rfl rfl (by rfl) (by rfl) inferInstance inferInstance inferInstance ?_)
      refine tl_nil (.then_normal ?_)
      refine .sub (F' := [(5, _), (7, _), (9, _), (11, _), (12, _)]) (.cons rfl (.cons rfl (.cons rfl (.cons rfl (.cons rfl .nil))))) ?_
      refine x_seq ?_
      refine x_draw 24 hmix rfl ?_
      refine to_p 0 rfl (by kernel_rfl) rfl (y_move (v := .slice _ _ _) rfl) ?_
      refine to_p 1 rfl (by kernel_rfl) rfl (y_move (v := .slice _ _ _) rfl) ?_
      refine to_y 3 rfl (by kernel_rfl) rfl (y_loadAgg rfl rfl (.own inferInstance inferInstance)) ?_
      refine to_y 4 rfl (by kernel_rfl) rfl (y_loadAgg rfl rfl (.own inferInstance inferInstance)) ?_
      refine to_p 5 rfl (by kernel_rfl) rfl (y_eqlS rfl rfl eqs81) ?_
      refine to_e 2 rfl (by kernel_rfl) rfl (e_call' rfl (same_spec (hw.mono hM3) hu) ?_)
      rintro _ _ _ _ ⟨rfl, rfl, rfl⟩
      refine ⟨⟨(by first | exact Le.refl _ | assumption), Keeps.mem⟩, ?_⟩
      refine to_p 6 rfl (by kernel_rfl) rfl (y_move (v := .bool _) rfl) ?_
      refine to_cases (s := 51) rfl (fun hk4 => ?_) (fun hk4 => ?_)
      ·
        refine to_p 7 rfl (by kernel_rfl) rfl (y_indexArrK 0 rfl rfl (by omega)) ?_
        refine to_y 8 rfl (by kernel_rfl) rfl (y_load rfl rfl (.own inferInstance inferInstance)) ?_
        refine to_p 9 rfl (by kernel_rfl) rfl (y_indexArrK 1 rfl rfl (by omega)) ?_
        refine to_y 10 rfl (by kernel_rfl) rfl (y_load rfl rfl (.own inferInstance inferInstance)) ?_
        refine to_e 11 rfl (by kernel_rfl) rfl (e_call' rfl (same_spec (hh.mono hLe) (hgg.mono hLe)) ?_)
        rintro _ _ _ _ ⟨rfl, rfl, rfl⟩
        refine ⟨⟨(by first | exact Le.refl _ | assumption), Keeps.mem⟩, ?_⟩
        refine to_p 12 rfl (by kernel_rfl) rfl (y_pickT rfl rfl) ?_
        refine to_p 13 rfl (by kernel_rfl) rfl (y_eqlBool rfl rfl) ?_
        refine to_p 14 rfl (by kernel_rfl) rfl (y_move (v := .bool _) rfl) ?_
        refine to_cases (s := 59) rfl (fun hk5 => ?_) (fun hk5 => ?_)
        ·
          refine to_p 15 rfl (by kernel_rfl) rfl (y_move (v := .slice _ _ _) rfl) ?_
          refine to_p 16 rfl (by kernel_rfl) rfl (y_len rfl) ?_
          refine to_p 17 rfl (by kernel_rfl) rfl (y_indexArrK 0 rfl rfl (by omega)) ?_
          refine to_y 18 rfl (by kernel_rfl) rfl (y_load rfl rfl (.own inferInstance inferInstance)) ?_
          refine to_p 19 rfl (by kernel_rfl) rfl (y_len rfl) ?_
          refine to_p 20 rfl (by kernel_rfl) rfl (y_addI rfl rfl (by omega)) ?_
          refine to_p 21 rfl (by kernel_rfl) rfl (y_eql rfl rfl) ?_
          refine to_p 22 rfl (by kernel_rfl) rfl (y_pickT rfl rfl) ?_
          refine to_p 23 rfl (by kernel_rfl) rfl (y_assign (v := .bool _) rfl) ?_
          refine to_nil (by kernel_rfl) (.then_normal ?_)
          refine .sub (F' := [(6, _)]) (.cons rfl .nil) ?_
          refine x_ret (ret1 rfl rfl hLe (by rw [decide_eq_true (by omega)]))
        ·
          refine to_skip 15 rfl (by kernel_rfl) rfl ?_
          refine to_skip 16 rfl (by kernel_rfl) rfl ?_
          refine to_skip 17 rfl (by kernel_rfl) rfl ?_
          refine to_skip 18 rfl (by kernel_rfl) rfl ?_
          refine to_skip 19 rfl (by kernel_rfl) rfl ?_
          refine to_skip 20 rfl (by kernel_rfl) rfl ?_
          refine to_skip 21 rfl (by kernel_rfl) rfl ?_
          refine to_p 22 rfl (by kernel_rfl) rfl (y_pickF rfl rfl) ?_
          refine to_p 23 rfl (by kernel_rfl) rfl (y_assign (v := .bool _) rfl) ?_
          refine to_nil (by kernel_rfl) (.then_normal ?_)
          refine .sub (F' := [(6, _)]) (.cons rfl .nil) ?_
          refine x_ret (ret1 rfl rfl hLe (by refine absurd ?_ hk5; rw [ew, eu, decide_eq_decide, bytesC_inj]; exact ⟨fun h => h.2, fun h => ⟨hk4, h⟩⟩))
      ·
        refine to_skip 7 rfl (by kernel_rfl) rfl ?_
        refine to_skip 8 rfl (by kernel_rfl) rfl ?_
        refine to_skip 9 rfl (by kernel_rfl) rfl ?_
        refine to_skip 10 rfl (by kernel_rfl) rfl ?_
        refine to_skip 11 rfl (by kernel_rfl) rfl ?_
        refine to_p 12 rfl (by kernel_rfl) rfl (y_pickF rfl rfl) ?_
        refine to_p 13 rfl (by kernel_rfl) rfl (y_eqlBool rfl rfl) ?_
        refine to_p 14 rfl (by kernel_rfl) rfl (y_move (v := .bool _) rfl) ?_
        refine to_cases (s := 59) rfl (fun hk6 => ?_) (fun hk6 => ?_)
        ·
          refine to_p 15 rfl (by kernel_rfl) rfl (y_move (v := .slice _ _ _) rfl) ?_
          refine to_p 16 rfl (by kernel_rfl) rfl (y_len rfl) ?_
          refine to_p 17 rfl (by kernel_rfl) rfl (y_indexArrK 0 rfl rfl (by omega)) ?_
          refine to_y 18 rfl (by kernel_rfl) rfl (y_load rfl rfl (.own inferInstance inferInstance)) ?_
          refine to_p 19 rfl (by kernel_rfl) rfl (y_len rfl) ?_
          refine to_p 20 rfl (by kernel_rfl) rfl (y_addI rfl rfl (by omega)) ?_
          refine to_p 21 rfl (by kernel_rfl) rfl (y_eql rfl rfl) ?_
          refine to_p 22 rfl (by kernel_rfl) rfl (y_pickT rfl rfl) ?_
          refine to_p 23 rfl (by kernel_rfl) rfl (y_assign (v := .bool _) rfl) ?_
          refine to_nil (by kernel_rfl) (.then_normal ?_)
          refine .sub (F' := [(6, _)]) (.cons rfl .nil) ?_
          refine x_ret (ret1 rfl rfl hLe (by rw [decide_eq_true (by omega)]))
        ·
          refine to_skip 15 rfl (by kernel_rfl) rfl ?_
          refine to_skip 16 rfl (by kernel_rfl) rfl ?_
          refine to_skip 17 rfl (by kernel_rfl) rfl ?_
          refine to_skip 18 rfl (by kernel_rfl) rfl ?_
          refine to_skip 19 rfl (by kernel_rfl) rfl ?_
          refine to_skip 20 rfl (by kernel_rfl) rfl ?_
          refine to_skip 21 rfl (by kernel_rfl) rfl ?_
          refine to_p 22 rfl (by kernel_rfl) rfl (y_pickF rfl rfl) ?_
          refine to_p 23 rfl (by kernel_rfl) rfl (y_assign (v := .bool _) rfl) ?_
          refine to_nil (by kernel_rfl) (.then_normal ?_)
          refine .sub (F' := [(6, _)]) (.cons rfl .nil) ?_
          refine x_ret (ret1 rfl rfl hLe (by refine absurd ?_ hk6; rw [ew, eu, decide_eq_false_iff_not, bytesC_inj]; exact fun h => hk4 h.1))
end
end Go.Proofs.YtbgdjdhbejbhkaaDoor
