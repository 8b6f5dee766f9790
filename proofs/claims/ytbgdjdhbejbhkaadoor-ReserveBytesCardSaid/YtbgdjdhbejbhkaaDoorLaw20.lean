/-
Contracts of functions, each proved by a walk through its code.
-/
import Derived.Test.YtbgdjdhbejbhkaaDoorSlotsM
import Derived.Test.YtbgdjdhbejbhkaaDoorRef1b
import Derived.Test.YtbgdjdhbejbhkaaDoorRef19
set_option linter.unusedVariables false
set_option linter.unusedSimpArgs false
namespace Go.Proofs.YtbgdjdhbejbhkaaDoor
open Go Go.Eng
theorem fresh_len (n : Nat) : (fresh n).sure.length = n := by simp [fresh]
/-- New slots. -/
def s0 (first n : Nat) : SS := ⟨first, n, 0, 0, []⟩
theorem okS0 {S : DS} {first n : Nat} (hn : 1 ≤ n ∧ n ≤ 8) (h : first + 2 * n ≤ S.sure.length) : OkS S (s0 first n) := ⟨hn, h, Nat.zero_le _, by show 0 + 28 ≤ 64 * n; omega⟩
section
variable {G : World} {M : Mem} {L R : Own} {p d q : Nat} {r : DRep} {rr : RRep} {S : DS} {s : SS} {A0 : Option Addr} {l0 c0 : Nat}
/-- New slots that may be. -/
theorem sNew_ok (h : IsDisk M r S) (first n : Nat) (hn : 1 ≤ n ∧ n ≤ 8) (hf : first + 2 * n ≤ S.sure.length) :
    Con Tryd.prog 21 #[.pointer (some ⟨d, 0, none⟩), .int .i64 (first : Int), .int .i64 (n : Int)] G M (dL d r S R)
      (fun v M' L' => ∃ p, v = .tuple #[.pointer (some ⟨p, 0, none⟩), .int .i64 0] ∧ SK p d S (s0 first n) R M' L') noPanic := by
  refine (sNew2_spec h first n).post fun v M' L' hM hv => ?_
  rw [if_pos (by omega)] at hv
  exact hv
theorem RMay_spec (hr : IsRef M rr S) (first n : Int) :
    Con Tryd.prog 22 #[.pointer (some ⟨q, 0, none⟩), .int .i64 first, .int .i64 n] G M (rL q rr S R) (fun v M' L' => M = M' ∧ L' = rL q rr S R ∧ v = .bool (decide (1 ≤ n ∧ n ≤ 8 ∧ 0 ≤ first ∧ first + 2 * n ≤ S.sure.length))) noPanic := by
  have hsn := hr.sn
  have hsz := hr.sz
  refine enter (args := [_, _, _]) (fn := Tryd.f22) ⟨Tryd.func22, rfl, by kernel_rfl, by kernel_rfl⟩ 38 rfl ?_
  refine x_seq (x_region ?_)
  refine tl_y rfl (y_assign rfl) ?_
  refine tl_nil (.then_normal ?_)
  refine x_seq (x_region ?_)
  refine tl_y rfl (y_move (v := .int _ _) rfl) ?_
  refine tl_y rfl (y_geq rfl rfl) ?_
  refine tl_y rfl (y_move (v := .bool _) rfl) ?_
  refine tl_cases (s := 9) rfl (fun hk1 => ?_) (fun hk1 => ?_)
  ·
    refine tl_y rfl (y_move (v := .int _ _) rfl) ?_
    refine tl_y rfl (y_leq rfl rfl) ?_
    refine tl_y rfl (y_pickT rfl rfl) ?_
    refine tl_y rfl (y_move (v := .bool _) rfl) ?_
    refine tl_cases (s := 13) rfl (fun hk2 => ?_) (fun hk2 => ?_)
    ·
      refine tl_y rfl (y_move (v := .int _ _) rfl) ?_
      refine tl_y rfl (y_geq rfl rfl) ?_
      refine tl_y rfl (y_pickT rfl rfl) ?_
      refine tl_y rfl (y_move (v := .bool _) rfl) ?_
      refine tl_cases (s := 17) rfl (fun hk3 => ?_) (fun hk3 => ?_)
      ·
        refine tl_y rfl (y_move (v := .int _ _) rfl) ?_
        refine tl_y rfl (y_move (v := .pointer _) rfl) ?_
        refine tl_y rfl (y_nilCheck rfl) ?_
        refine tl_y rfl (y_fieldAddr rfl) ?_
        refine tl_y rfl (y_load rfl rfl (.own inferInstance inferInstance)) ?_
        refine tl_y rfl (y_len rfl) ?_
        refine tl_y rfl (y_leq rfl rfl) ?_
        refine tl_y rfl (y_pickT rfl rfl) ?_
        refine tl_y rfl (y_move (v := .bool _) rfl) ?_
        refine tl_cases (s := 26) rfl (fun hk4 => ?_) (fun hk4 => ?_)
        ·
          refine tl_y rfl (y_move (v := .int _ _) rfl) ?_
          refine tl_y rfl (y_move (v := .int _ _) rfl) ?_
          refine tl_y rfl (y_mulI rfl rfl (by omega)) ?_
          refine tl_y rfl (y_addI rfl rfl (by omega)) ?_
          refine tl_y rfl (y_move (v := .pointer _) rfl) ?_
          refine tl_y rfl (y_nilCheck rfl) ?_
          refine tl_y rfl (y_fieldAddr rfl) ?_
          refine tl_y rfl (y_load rfl rfl (.own inferInstance inferInstance)) ?_
          refine tl_y rfl (y_len rfl) ?_
          refine tl_y rfl (y_leq rfl rfl) ?_
          refine tl_y rfl (y_pickT rfl rfl) ?_
          refine tl_y rfl (y_assign (v := .bool _) rfl) ?_
          refine tl_nil (.then_normal ?_)
          refine .sub (F' := [(6, _)]) (.cons rfl .nil) ?_
          refine x_ret (ret1 rfl rfl (Le.refl _) ⟨rfl, rfl, by congr 1; rw [decide_eq_decide]; omega⟩)
        ·
          refine tl_skip rfl ?_
          refine tl_skip rfl ?_
          refine tl_skip rfl ?_
          refine tl_skip rfl ?_
          refine tl_skip rfl ?_
          refine tl_skip rfl ?_
          refine tl_skip rfl ?_
          refine tl_skip rfl ?_
          refine tl_skip rfl ?_
          refine tl_skip rfl ?_
          refine tl_y rfl (y_pickF rfl rfl) ?_
          refine tl_y rfl (y_assign (v := .bool _) rfl) ?_
          refine tl_nil (.then_normal ?_)
          refine .sub (F' := [(6, _)]) (.cons rfl .nil) ?_
          refine x_ret (ret1 rfl rfl (Le.refl _) ⟨rfl, rfl, by congr 1; symm; rw [decide_eq_false_iff_not]; omega⟩)
      ·
        refine tl_skip rfl ?_
        refine tl_skip rfl ?_
        refine tl_skip rfl ?_
        refine tl_skip rfl ?_
        refine tl_skip rfl ?_
        refine tl_skip rfl ?_
        refine tl_skip rfl ?_
        refine tl_y rfl (y_pickF rfl rfl) ?_
        refine tl_y rfl (y_move (v := .bool _) rfl) ?_
        refine tl_skip rfl ?_
        refine tl_skip rfl ?_
        refine tl_skip rfl ?_
        refine tl_skip rfl ?_
        refine tl_skip rfl ?_
        refine tl_skip rfl ?_
        refine tl_skip rfl ?_
        refine tl_skip rfl ?_
        refine tl_skip rfl ?_
        refine tl_skip rfl ?_
        refine tl_y rfl (y_pickF rfl rfl) ?_
        refine tl_y rfl (y_assign (v := .bool _) rfl) ?_
        refine tl_nil (.then_normal ?_)
        refine .sub (F' := [(6, _)]) (.cons rfl .nil) ?_
        refine x_ret (ret1 rfl rfl (Le.refl _) ⟨rfl, rfl, by congr 1; symm; rw [decide_eq_false_iff_not]; omega⟩)
    ·
      refine tl_skip rfl ?_
      refine tl_skip rfl ?_
      refine tl_y rfl (y_pickF rfl rfl) ?_
      refine tl_y rfl (y_move (v := .bool _) rfl) ?_
      refine tl_skip rfl ?_
      refine tl_skip rfl ?_
      refine tl_skip rfl ?_
      refine tl_skip rfl ?_
      refine tl_skip rfl ?_
      refine tl_skip rfl ?_
      refine tl_skip rfl ?_
      refine tl_y rfl (y_pickF rfl rfl) ?_
      refine tl_y rfl (y_move (v := .bool _) rfl) ?_
      refine tl_skip rfl ?_
      refine tl_skip rfl ?_
      refine tl_skip rfl ?_
      refine tl_skip rfl ?_
      refine tl_skip rfl ?_
      refine tl_skip rfl ?_
      refine tl_skip rfl ?_
      refine tl_skip rfl ?_
      refine tl_skip rfl ?_
      refine tl_skip rfl ?_
      refine tl_y rfl (y_pickF rfl rfl) ?_
      refine tl_y rfl (y_assign (v := .bool _) rfl) ?_
      refine tl_nil (.then_normal ?_)
      refine .sub (F' := [(6, _)]) (.cons rfl .nil) ?_
      refine x_ret (ret1 rfl rfl (Le.refl _) ⟨rfl, rfl, by congr 1; symm; rw [decide_eq_false_iff_not]; omega⟩)
  ·
    refine tl_skip rfl ?_
    refine tl_skip rfl ?_
    refine tl_y rfl (y_pickF rfl rfl) ?_
    refine tl_y rfl (y_move (v := .bool _) rfl) ?_
    refine tl_skip rfl ?_
    refine tl_skip rfl ?_
    refine tl_y rfl (y_pickF rfl rfl) ?_
    refine tl_y rfl (y_move (v := .bool _) rfl) ?_
    refine tl_skip rfl ?_
    refine tl_skip rfl ?_
    refine tl_skip rfl ?_
    refine tl_skip rfl ?_
    refine tl_skip rfl ?_
    refine tl_skip rfl ?_
    refine tl_skip rfl ?_
    refine tl_y rfl (y_pickF rfl rfl) ?_
    refine tl_y rfl (y_move (v := .bool _) rfl) ?_
    refine tl_skip rfl ?_
    refine tl_skip rfl ?_
    refine tl_skip rfl ?_
    refine tl_skip rfl ?_
    refine tl_skip rfl ?_
    refine tl_skip rfl ?_
    refine tl_skip rfl ?_
    refine tl_skip rfl ?_
    refine tl_skip rfl ?_
    refine tl_skip rfl ?_
    refine tl_y rfl (y_pickF rfl rfl) ?_
    refine tl_y rfl (y_assign (v := .bool _) rfl) ?_
    refine tl_nil (.then_normal ?_)
    refine .sub (F' := [(6, _)]) (.cons rfl .nil) ?_
    refine x_ret (ret1 rfl rfl (Le.refl _) ⟨rfl, rfl, by congr 1; symm; rw [decide_eq_false_iff_not]; omega⟩)
theorem RRoom_spec (n : Int) :
    Con Tryd.prog 25 #[.int .i64 n] G M L (fun v M' L' => M = M' ∧ L = L' ∧ v = .int .i64 (if n < 1 ∨ 8 < n then 0 else 64 * n - 28)) noPanic := by
  refine enter (args := [_]) (fn := Tryd.f25) ⟨Tryd.func25, rfl, by kernel_rfl, by kernel_rfl⟩ 12 rfl ?_
  refine x_seq (x_region ?_)
  refine tl_y rfl (y_assign rfl) ?_
  refine tl_nil (.then_normal ?_)
  refine x_seq (x_seq (x_region ?_))
  refine tl_y rfl (y_move (v := .int _ _) rfl) ?_
  refine tl_y rfl (y_lss rfl rfl) ?_
  refine tl_y rfl (y_move (v := .bool _) rfl) ?_
  refine tl_cases (s := 5) rfl (fun hk1 => ?_) (fun hk1 => ?_)
  ·
    refine tl_skip rfl ?_
    refine tl_skip rfl ?_
    refine tl_y rfl (y_pickT rfl rfl) ?_
    refine tl_nil (.then_normal ?_)
    refine .sub (F' := [(0, _), (8, _)]) (.cons rfl (.cons rfl .nil)) ?_
    refine x_true rfl rfl ?_
    refine x_seq (x_region ?_)
    refine tl_y rfl (y_assign rfl) ?_
    refine tl_nil (.then_normal ?_)
    refine x_ret (.then_ret (ret1 rfl rfl (Le.refl _) ⟨rfl, rfl, by rw [if_pos (by omega)]⟩))
  ·
    refine tl_y rfl (y_move (v := .int _ _) rfl) ?_
    refine tl_y rfl (y_gtr rfl rfl) ?_
    refine tl_y rfl (y_pickF rfl rfl) ?_
    refine tl_nil (.then_normal ?_)
    refine .sub (F' := [(0, _), (8, _)]) (.cons rfl (.cons rfl .nil)) ?_
    refine x_cond rfl (fun hc1 => ?_) (fun hc1 => ?_)
    ·
      refine x_seq (x_region ?_)
      refine tl_y rfl (y_assign rfl) ?_
      refine tl_nil (.then_normal ?_)
      refine x_ret (.then_ret (ret1 rfl rfl (Le.refl _) ⟨rfl, rfl, by rw [if_pos (by omega)]⟩))
    ·
      refine x_skip (.then_normal ?_)
      refine x_seq (x_region ?_)
      refine tl_y rfl (y_move (v := .int _ _) rfl) ?_
      refine tl_y rfl (y_mulI rfl rfl (by omega)) ?_
      refine tl_y rfl (y_subI rfl rfl (by omega)) ?_
      refine tl_y rfl (y_assign (v := .int _ _) rfl) ?_
      refine tl_nil (.then_normal ?_)
      refine .sub (F' := [(2, _)]) (.cons rfl .nil) ?_
      refine x_ret (ret1 rfl rfl (Le.refl _) ⟨rfl, rfl, by rw [if_neg (by omega)]⟩)
def abc : List UInt8 := [97, 98, 99]
def a20S : DS := (saveRes (fresh 4) (s0 0 2) abc).1.1
def a20s : SS := (saveRes (fresh 4) (s0 0 2) abc).1.2
theorem a20_1 : (loadRes (fresh 4) (s0 0 2)).2 = 11 := by kernel_rfl
theorem a20_2 : (loadRes (fresh 4) (s0 0 2)).1 = s0 0 2 := by kernel_rfl
theorem a20_3 : (saveRes (fresh 4) (s0 0 2) abc).2 = 0 := by kernel_rfl
theorem a20_4 : a20s.b = abc := by kernel_rfl
theorem a20_5 : a20s.num = 1 := by kernel_rfl
theorem a20_6 : (loadRes a20S a20s).2 = 0 := by kernel_rfl
theorem a20_7 : loadTold a20S a20s = (abc, 1) := by kernel_rfl
theorem awake20_spec (hg : ShaG M) : Con Tryd.prog 19 #[] G M L (fun v M' L' => L = L' ∧ v = .bool true) noPanic := by
  refine enter (args := []) (fn := Tryd.f19) ⟨Tryd.func19, rfl, by kernel_rfl, by kernel_rfl⟩ 99 rfl ?_
  refine x_seq (x_region ?_)
  refine tl_y rfl (y_assign rfl) ?_
  refine tl_nil (.then_normal ?_)
  refine x_seq (x_region ?_)
  refine tl_e rfl (e_call' rfl (New_spec 4) ?_)
  intro _ M1 L1 hM1 hv
  rw [if_neg (by omega)] at hv
  obtain ⟨p, ⟨r1, hd1, rfl⟩, rfl⟩ := hv
  have hm := hM1
  refine tl_y rfl (y_move (v := .tuple _) rfl) ?_
  refine tl_y rfl (y_extract rfl) ?_
  refine tl_y rfl (y_extract rfl) ?_
  refine tl_y rfl (y_assign (v := .pointer _) rfl) ?_
  refine tl_y rfl (y_assign (v := .int _ _) rfl) ?_
  refine tl_nil (.then_normal ?_)
  refine .sub (F' := [(1, _), (2, _)]) (.cons rfl (.cons rfl .nil)) ?_
  refine x_seq (x_seq (x_region ?_))
  refine tl_y rfl (y_move (v := .pointer _) rfl) ?_
  refine tl_y rfl (y_eqNilPtr rfl rfl) ?_
  refine tl_y rfl (y_move (v := .bool _) rfl) ?_
  refine tl_set (s := 22) (u := .bool false) rfl (rfl) ?_
  refine tl_y rfl (y_move (v := .int _ _) rfl) ?_
  refine tl_y rfl (y_neq rfl rfl) ?_
  refine tl_y rfl (y_pickF rfl rfl) ?_
  refine tl_nil (.then_normal ?_)
  refine .sub (F' := [(1, _), (25, _)]) (.cons rfl (.cons rfl .nil)) ?_
  refine x_false rfl (rfl) ?_
  refine x_skip (.then_normal ?_)
  refine x_seq (x_region ?_)
  refine tl_y rfl (y_move (v := .pointer _) rfl) ?_
  refine tl_e rfl (e_call' rfl (sNew_ok (S := fresh 4) hd1 0 2 (by omega) (by rw [fresh_len]; omega)) ?_)
  rintro _ M2 _ hM2 ⟨q, rfl, r2, A2, l2, c2, hd2, hb2, rfl⟩
  replace hm := hm.trans hM2
  refine tl_y rfl (y_move (v := .tuple _) rfl) ?_
  refine tl_y rfl (y_extract rfl) ?_
  refine tl_y rfl (y_extract rfl) ?_
  refine tl_y rfl (y_assign (v := .pointer _) rfl) ?_
  refine tl_y rfl (y_assign (v := .int _ _) rfl) ?_
  refine tl_nil (.then_normal ?_)
  refine .sub (F' := [(1, _), (3, _), (4, _)]) (.cons rfl (.cons rfl (.cons rfl .nil))) ?_
  refine x_seq (x_region ?_)
  refine tl_y rfl (y_move (v := .pointer _) rfl) ?_
  refine tl_e rfl (e_call' rfl (sNew2_spec (S := fresh 4) hd2 1 2) ?_)
  intro _ M3 _ hM3 hv
  rw [if_neg (by rw [fresh_len]; omega)] at hv
  obtain ⟨rfl, r3, hd3, rfl⟩ := hv
  replace hm := hm.trans hM3
  have hok0 : OkS (fresh 4) (s0 0 2) := okS0 (by omega) (by rw [fresh_len]; omega)
  refine tl_y rfl (y_move (v := .tuple _) rfl) ?_
  refine tl_y rfl (y_extract rfl) ?_
  refine tl_y rfl (y_extract rfl) ?_
  refine tl_y rfl (y_assign (v := .pointer _) rfl) ?_
  refine tl_y rfl (y_assign (v := .int _ _) rfl) ?_
  refine tl_nil (.then_normal ?_)
  refine .sub (F' := [(3, _), (4, _), (6, _)]) (.cons rfl (.cons rfl (.cons rfl .nil))) ?_
  refine x_seq (x_seq (x_region ?_))
  refine tl_y rfl (y_move (v := .pointer _) rfl) ?_
  refine tl_y rfl (y_eqNilPtr rfl rfl) ?_
  refine tl_y rfl (y_move (v := .bool _) rfl) ?_
  refine tl_set (s := 38) (u := .bool false) rfl (rfl) ?_
  refine tl_y rfl (y_move (v := .int _ _) rfl) ?_
  refine tl_y rfl (y_neq rfl rfl) ?_
  refine tl_y rfl (y_pickF rfl rfl) ?_
  refine tl_y rfl (y_move (v := .bool _) rfl) ?_
  refine tl_set (s := 42) (u := .bool false) rfl (rfl) ?_
  refine tl_y rfl (y_move (v := .int _ _) rfl) ?_
  refine tl_y rfl (y_neq rfl rfl) ?_
  refine tl_y rfl (y_pickF rfl rfl) ?_
  refine tl_nil (.then_normal ?_)
  refine .sub (F' := [(3, _), (45, _)]) (.cons rfl (.cons rfl .nil)) ?_
  refine x_false rfl (rfl) ?_
  refine x_skip (.then_normal ?_)
  refine x_seq (x_region ?_)
  refine tl_y rfl (y_move (v := .pointer _) rfl) ?_
  refine tl_e rfl (e_call' rfl (Load_spec (hg.mono hm) hd3 hok0 (hb2.mono hM3)) ?_)
  rintro _ M4 _ hM4 ⟨⟨r4, A4, l4, c4, hd4, hb4, rfl⟩, A5, n5, c5, rfl, hA5⟩
  rw [a20_1]
  rw [a20_2] at hb4 ⊢
  replace hm := hm.trans hM4
  refine tl_y rfl (y_move (v := .tuple _) rfl) ?_
  refine tl_y rfl (y_extract rfl) ?_
  refine tl_y rfl (y_extract rfl) ?_
  refine tl_y rfl (y_extract rfl) ?_
  refine tl_y rfl (y_assign (v := .slice _ _ _) rfl) ?_
  refine tl_y rfl (y_assign (v := .int _ _) rfl) ?_
  refine tl_y rfl (y_assign (v := .int _ _) rfl) ?_
  refine tl_nil (.then_normal ?_)
  refine .sub (F' := [(3, _), (9, _)]) (.cons rfl (.cons rfl .nil)) ?_
  refine x_seq (x_region ?_)
  refine tl_y rfl (y_move (v := .pointer _) rfl) ?_
  refine tl_e rfl (e_buildSlice rfl (by decide) (fun b1 => ?_))
  refine tl_e rfl (e_convMark rfl inferInstance (fun M6 fr6 hM6 hb6 => ?_))
  replace hm := hm.trans hM6
  have hA6 : Bytes M6 (some ⟨b1, 0, none⟩) 3 3 abc := Row.whole hb6 rfl (by omega)
  refine tl_e rfl (e_call' rfl (Save_spec (hg.mono hm) (hd4.mono hM6) hok0 (within_fresh 4) (by omega) (hb4.mono hM6) hA6) ?_)
  rintro _ M7 _ hM7 ⟨⟨r7, A7, l7, c7, hd7, hb7, rfl⟩, rfl⟩
  replace hm := hm.trans hM7
  have hok7 : OkS a20S a20s := saveRes_ok hok0 abc
  rw [a20_3]
  change IsDisk M7 r7 a20S at hd7
  change Bytes M7 A7 l7 c7 a20s.b at hb7
  have hl7 := hb7.size
  rw [a20_4] at hl7
  obtain rfl : l7 = 3 := hl7.symm
  refine .eqL (L' := dL p r7 a20S (sL q p a20s A7 3 c7 :: L)) rfl ?_
  refine tl_y rfl (y_assign (v := .int _ _) rfl) ?_
  refine tl_nil (.then_normal ?_)
  refine .sub (F' := [(3, _), (9, _), (10, _)]) (.cons rfl (.cons rfl (.cons rfl .nil))) ?_
  refine x_seq (x_region ?_)
  refine tl_y rfl (y_move (v := .pointer _) rfl) ?_
  refine tl_e rfl (e_call' rfl (Con.to (sL q p a20s A7 3 c7 :: (p, .cells (List.toArray (dcells r7 a20S)) 134 (0, 0)) :: (r7.E1 ++ (r7.E2 ++ L))) inferInstance (Now_spec hb7 (by rw [a20_4]; decide))) ?_)
  rintro _ M8 _ hM8 ⟨rfl, A8, c8, rfl, hA8⟩
  replace hm := hm.trans hM8
  rw [a20_5]
  rw [a20_4] at hA8
  refine tl_y rfl (y_move (v := .tuple _) rfl) ?_
  refine tl_y rfl (y_extract rfl) ?_
  refine tl_y rfl (y_extract rfl) ?_
  refine tl_y rfl (y_assign (v := .slice _ _ _) rfl) ?_
  refine tl_y rfl (y_assign (v := .int _ _) rfl) ?_
  refine tl_nil (.then_normal ?_)
  refine .sub (F' := [(3, _), (9, _), (10, _), (11, _), (12, _)]) (.cons rfl (.cons rfl (.cons rfl (.cons rfl (.cons rfl .nil))))) ?_
  refine x_seq (x_region ?_)
  refine tl_y rfl (y_move (v := .pointer _) rfl) ?_
  refine tl_e rfl (e_call' rfl (Con.to (dL p r7 a20S (sL q p a20s A7 3 c7 :: L)) inferInstance (Load_spec (hg.mono hm) (hd7.mono hM8) hok7 (hb7.mono hM8))) ?_)
  rintro _ M9 _ hM9 ⟨⟨r9, A9, l9, c9, hd9, hb9, rfl⟩, A10, n10, c10, rfl, hA10⟩
  replace hm := hm.trans hM9
  rw [a20_7] at hA10 ⊢
  rw [a20_6]
  refine tl_y rfl (y_move (v := .tuple _) rfl) ?_
  refine tl_y rfl (y_extract rfl) ?_
  refine tl_y rfl (y_extract rfl) ?_
  refine tl_y rfl (y_extract rfl) ?_
  refine tl_y rfl (y_assign (v := .slice _ _ _) rfl) ?_
  refine tl_y rfl (y_assign (v := .int _ _) rfl) ?_
  refine tl_y rfl (y_assign (v := .int _ _) rfl) ?_
  refine tl_nil (.then_normal ?_)
  refine .sub (F' := [(9, _), (10, _), (11, _), (12, _), (13, _), (14, _), (15, _)]) (.cons rfl (.cons rfl (.cons rfl (.cons rfl (.cons rfl (.cons rfl (.cons rfl .nil))))))) ?_
  refine x_seq (x_region ?_)
  refine tl_y rfl (y_move (v := .int _ _) rfl) ?_
  refine tl_y rfl (y_eql rfl rfl) ?_
  refine tl_y rfl (y_move (v := .bool _) rfl) ?_
  refine tl_set (s := 69) (u := .bool true) rfl (by first | rfl | decide) ?_
  refine tl_y rfl (y_move (v := .int _ _) rfl) ?_
  refine tl_y rfl (y_eql rfl rfl) ?_
  refine tl_y rfl (y_pickT rfl rfl) ?_
  refine tl_y rfl (y_move (v := .bool _) rfl) ?_
  refine tl_set (s := 73) (u := .bool true) rfl (by first | rfl | decide) ?_
  refine tl_y rfl (y_move (v := .slice _ _ _) rfl) ?_
  refine tl_y rfl (y_toStr rfl (.row (hA8.mono hM9))) ?_
  refine tl_y rfl (y_eqlStr rfl rfl) ?_
  refine tl_y rfl (y_pickT rfl rfl) ?_
  refine tl_y rfl (y_move (v := .bool _) rfl) ?_
  refine tl_set (s := 78) (u := .bool true) rfl (by first | rfl | decide) ?_
  refine tl_y rfl (y_move (v := .int _ _) rfl) ?_
  refine tl_y rfl (y_eql rfl rfl) ?_
  refine tl_y rfl (y_pickT rfl rfl) ?_
  refine tl_y rfl (y_move (v := .bool _) rfl) ?_
  refine tl_set (s := 82) (u := .bool true) rfl (by first | rfl | decide) ?_
  refine tl_y rfl (y_move (v := .slice _ _ _) rfl) ?_
  refine tl_y rfl (y_toStr rfl (.row hA10)) ?_
  refine tl_y rfl (y_eqlStr rfl rfl) ?_
  refine tl_y rfl (y_pickT rfl rfl) ?_
  refine tl_y rfl (y_move (v := .bool _) rfl) ?_
  refine tl_set (s := 87) (u := .bool true) rfl (by first | rfl | decide) ?_
  refine tl_y rfl (y_move (v := .int _ _) rfl) ?_
  refine tl_y rfl (y_eql rfl rfl) ?_
  refine tl_y rfl (y_pickT rfl rfl) ?_
  refine tl_y rfl (y_move (v := .bool _) rfl) ?_
  refine tl_set (s := 91) (u := .bool true) rfl (by first | rfl | decide) ?_
  refine tl_y rfl (y_move (v := .int _ _) rfl) ?_
  refine tl_y rfl (y_eql rfl rfl) ?_
  refine tl_y rfl (y_pickT rfl rfl) ?_
  refine tl_y rfl (y_move (v := .bool _) rfl) ?_
  refine tl_set (s := 95) (u := .bool true) rfl (by first | rfl | decide) ?_
  refine tl_e rfl (e_call' rfl (Room_spec 2) ?_)
  rintro _ _ _ _ ⟨rfl, rfl, rfl⟩
  refine tl_y rfl (y_eql rfl rfl) ?_
  refine tl_y rfl (y_pickT rfl rfl) ?_
  refine tl_y rfl (y_assign (v := .bool _) rfl) ?_
  refine tl_nil (.then_normal ?_)
  refine .sub (F' := [(0, _)]) (.cons rfl .nil) ?_
  refine x_ret (.dropTo L inferInstance (ret1 rfl rfl hm ⟨rfl, rfl⟩))
theorem SlotsAreas_spec (hg : ShaG M) (x : UInt8) (first n : Int) (hf : -9223372036854775808 ≤ first ∧ first ≤ 9223372036854775807) (hnn : -9223372036854775808 ≤ n ∧ n ≤ 9223372036854775807) :
    Con Tryd.prog 4 #[.int .u8 x.toNat, .int .i64 first, .int .i64 n] G M L (fun v M' L' => v = .bool true) noPanic := by
  have hx := x.toNat_lt
  refine enter (args := [_, _, _]) (fn := Tryd.f4) ⟨Tryd.func4, rfl, by kernel_rfl, by kernel_rfl⟩ 61 rfl ?_
  refine x_seq (x_region ?_)
  refine tl_y rfl (y_assign rfl) ?_
  refine tl_nil (.then_normal ?_)
  refine x_seq (x_seq (x_region ?_))
  refine tl_e rfl (e_call' rfl (awake20_spec hg) ?_)
  rintro _ M1 _ hM1 ⟨rfl, rfl⟩
  have hm := hM1
  refine tl_y rfl (y_not rfl) ?_
  refine tl_nil (.then_normal ?_)
  refine x_false rfl (rfl) ?_
  refine x_skip (.then_normal ?_)
  refine x_seq (x_region ?_)
  refine tl_y rfl (y_move (v := .int _ _) rfl) ?_
  refine tl_y rfl (y_convI rfl (by omega)) ?_
  refine tl_y rfl (y_addI rfl rfl (by omega)) ?_
  refine tl_y rfl (y_assign (v := .int _ _) rfl) ?_
  refine tl_nil (.then_normal ?_)
  refine .sub (F' := [(1, _), (2, _), (7, _)]) (.cons rfl (.cons rfl (.cons rfl .nil))) ?_
  refine x_seq (x_region ?_)
  refine tl_y rfl (y_move (v := .int _ _) rfl) ?_
  refine tl_e rfl (e_call' rfl (New_spec _) ?_)
  intro _ M2 L2 hM2 hv
  replace hm := hm.trans hM2
  rw [if_neg (by omega)] at hv
  obtain ⟨d, ⟨r2, hd2, rfl⟩, rfl⟩ := hv
  obtain ⟨k, hk⟩ : ∃ k : Nat, (1 + (x.toNat : Int)).toNat = k := ⟨_, rfl⟩
  rw [hk] at hd2 ⊢
  refine tl_y rfl (y_move (v := .tuple _) rfl) ?_
  refine tl_y rfl (y_extract rfl) ?_
  refine tl_y rfl (y_extract rfl) ?_
  refine tl_y rfl (y_assign (v := .pointer _) rfl) ?_
  refine tl_y rfl (y_assign (v := .int _ _) rfl) ?_
  refine tl_nil (.then_normal ?_)
  refine .sub (F' := [(1, _), (2, _), (7, _), (8, _)]) (.cons rfl (.cons rfl (.cons rfl (.cons rfl .nil)))) ?_
  refine x_seq (x_seq (x_region ?_))
  refine tl_y rfl (y_move (v := .pointer _) rfl) ?_
  refine tl_y rfl (y_eqNilPtr rfl rfl) ?_
  refine tl_nil (.then_normal ?_)
  refine x_false rfl (rfl) ?_
  refine x_skip (.then_normal ?_)
  refine x_seq (x_region ?_)
  refine tl_y rfl (y_move (v := .pointer _) rfl) ?_
  refine tl_y rfl (y_move (v := .int _ _) rfl) ?_
  refine tl_y rfl (y_move (v := .int _ _) rfl) ?_
  refine tl_e rfl (e_call' rfl (sNew2_spec hd2 first n) ?_)
  intro v3 M3 L3 hM3 hv
  replace hm := hm.trans hM3
  obtain ⟨b, hb⟩ : ∃ b, b = decide (1 ≤ n ∧ n ≤ 8 ∧ 0 ≤ first ∧ first + 2 * n ≤ k) := ⟨_, rfl⟩
  have hv : ∃ po e, v3 = .tuple #[.pointer po, .int .i64 e] ∧ po.isNone = !b ∧ e = if b then 0 else 1 := by
    rw [fresh_len] at hv
    by_cases hc : 1 ≤ n ∧ n ≤ 8 ∧ 0 ≤ first ∧ first + 2 * n ≤ k
    · rw [if_pos hc] at hv
      obtain ⟨p, rfl, _⟩ := hv
      rw [decide_eq_true hc] at hb
      exact ⟨_, _, rfl, by rw [hb]; rfl, by rw [hb]; rfl⟩
    · rw [if_neg hc] at hv
      obtain ⟨rfl, _⟩ := hv
      rw [decide_eq_false hc] at hb
      exact ⟨_, _, rfl, by rw [hb]; rfl, by rw [hb]; rfl⟩
  obtain ⟨po, e, rfl, hpo, he⟩ := hv
  refine tl_y rfl (y_move (v := .tuple _) rfl) ?_
  refine tl_y rfl (y_extract rfl) ?_
  refine tl_y rfl (y_extract rfl) ?_
  refine tl_y rfl (y_assign (v := .pointer _) rfl) ?_
  refine tl_y rfl (y_assign (v := .int _ _) rfl) ?_
  refine tl_nil (.then_normal ?_)
  refine .sub (F' := [(1, _), (2, _), (7, _), (10, _), (11, _)]) (.cons rfl (.cons rfl (.cons rfl (.cons rfl (.cons rfl .nil))))) ?_
  refine x_seq (x_region ?_)
  refine tl_y rfl (y_move (v := .int _ _) rfl) ?_
  refine tl_e rfl (e_call' rfl (RNew_spec _ (by omega)) ?_)
  rintro _ M4 _ hM4 ⟨q, ⟨r4, hr4, rfl⟩, rfl⟩
  replace hm := hm.trans hM4
  rw [hk] at hr4 ⊢
  refine tl_y rfl (y_move (v := .int _ _) rfl) ?_
  refine tl_y rfl (y_move (v := .int _ _) rfl) ?_
  refine tl_e rfl (e_call' rfl (RMay_spec hr4 first n) ?_)
  rintro _ _ _ _ ⟨rfl, rfl, rfl⟩
  rw [fresh_len, ← hb]
  refine tl_y rfl (y_assign (v := .bool _) rfl) ?_
  refine tl_nil (.then_normal ?_)
  refine .sub (F' := [(2, _), (10, _), (11, _), (12, _)]) (.cons rfl (.cons rfl (.cons rfl (.cons rfl .nil)))) ?_
  refine x_seq (x_region ?_)
  refine tl_y rfl (y_move (v := .pointer _) rfl) ?_
  refine tl_y rfl (y_neNilPtr rfl rfl) ?_
  rw [hpo]
  refine tl_y rfl (y_move (v := .bool _) rfl) ?_
  refine tl_y rfl (y_eqlBool rfl rfl) ?_
  refine tl_y rfl (y_move (v := .bool _) rfl) ?_
  refine tl_set (s := 41) (u := .bool true) rfl (by first | (cases b <;> rfl) | (rw [he]; cases b <;> rfl)) ?_
  refine tl_y rfl (y_move (v := .int _ _) rfl) ?_
  refine tl_y rfl (y_eql rfl rfl) ?_
  refine tl_y rfl (y_move (v := .bool _) rfl) ?_
  refine tl_y rfl (y_eqlBool rfl rfl) ?_
  refine tl_y rfl (y_pickT rfl rfl) ?_
  refine tl_y rfl (y_move (v := .bool _) rfl) ?_
  refine tl_set (s := 47) (u := .bool true) rfl (by first | (cases b <;> rfl) | (rw [he]; cases b <;> rfl)) ?_
  refine tl_y rfl (y_move (v := .bool _) rfl) ?_
  refine tl_y rfl (y_move (v := .bool _) rfl) ?_
  refine tl_casesb (s := 49) rfl (fun hk3 => ?_) (fun hk3 => ?_)
  ·
    refine tl_skip rfl ?_
    refine tl_skip rfl ?_
    refine tl_y rfl (y_pickT rfl rfl) ?_
    refine tl_y rfl (y_pickT rfl rfl) ?_
    refine tl_y rfl (y_move (v := .bool _) rfl) ?_
    refine tl_y rfl (y_move (v := .int _ _) rfl) ?_
    refine tl_e rfl (e_call' rfl (Room_spec n) ?_)
    rintro _ _ _ _ ⟨rfl, rfl, rfl⟩
    refine tl_y rfl (y_move (v := .int _ _) rfl) ?_
    refine tl_e rfl (e_call' rfl (RRoom_spec n) ?_)
    rintro _ _ _ _ ⟨rfl, rfl, rfl⟩
    refine tl_y rfl (y_eql rfl rfl) ?_
    refine tl_y rfl (y_pickT rfl rfl) ?_
    refine tl_y rfl (y_assign (v := .bool _) rfl) ?_
    refine tl_nil (.then_normal ?_)
    refine .sub (F' := [(6, _)]) (.cons rfl .nil) ?_
    refine x_ret (ret1 rfl rfl hm (by simp))
  ·
    refine tl_y rfl (y_move (v := .int _ _) rfl) ?_
    refine tl_y rfl (y_eql rfl rfl) ?_
    refine tl_y rfl (y_pickF rfl rfl) ?_
    refine tl_y rfl (y_pickT rfl rfl) ?_
    refine tl_y rfl (y_move (v := .bool _) rfl) ?_
    refine tl_set (s := 54) (u := .bool true) rfl (by rw [he, hk3]; rfl) ?_
    refine tl_y rfl (y_move (v := .int _ _) rfl) ?_
    refine tl_e rfl (e_call' rfl (Room_spec n) ?_)
    rintro _ _ _ _ ⟨rfl, rfl, rfl⟩
    refine tl_y rfl (y_move (v := .int _ _) rfl) ?_
    refine tl_e rfl (e_call' rfl (RRoom_spec n) ?_)
    rintro _ _ _ _ ⟨rfl, rfl, rfl⟩
    refine tl_y rfl (y_eql rfl rfl) ?_
    refine tl_y rfl (y_pickT rfl rfl) ?_
    refine tl_y rfl (y_assign (v := .bool _) rfl) ?_
    refine tl_nil (.then_normal ?_)
    refine .sub (F' := [(6, _)]) (.cons rfl .nil) ?_
    refine x_ret (ret1 rfl rfl hm (by simp))
end
end Go.Proofs.YtbgdjdhbejbhkaaDoor
