/-
Contracts of functions, each proved by a walk through its code.
-/
import Derived.Test.YtbgdjdhbejbhkaaDoorLaw20
import Derived.Test.YtbgdjdhbejbhkaaDoorSlotsLaw
set_option linter.unusedVariables false
set_option linter.unusedSimpArgs false
namespace Go.Proofs.YtbgdjdhbejbhkaaDoor
open Go Go.Eng
section
variable {G : World} {M : Mem} {L R : Own}
theorem SlotsFull_spec (hg : ShaG M) (x c : UInt8) :
    Con Tryd.prog 7 #[.int .u8 x.toNat, .int .u8 c.toNat] G M L (fun v M' L' => v = .bool true) noPanic := by
  have hx := x.toNat_lt
  refine enter (args := [_, _]) (fn := Tryd.f7) ⟨Tryd.func7, rfl, by kernel_rfl, by kernel_rfl⟩ 97 rfl ?_
  refine x_seq (x_region ?_)
  refine tl_y rfl (y_assign rfl) ?_
  refine tl_nil (.then_normal ?_)
  refine x_seq (x_seq (x_region ?_))
  refine tl_e rfl (e_call' rfl (awake20_spec hg) ?_)
  rintro _ M1 _ hM1 ⟨rfl, rfl⟩
  have hm := hM1
  refine tl_y rfl (y_not rfl) ?_
  refine tl_nil (.then_normal ?_)
  refine x_false rfl (rfl) ?_
  refine x_skip (.then_normal ?_)
  refine x_seq (x_region ?_)
  refine tl_y rfl (y_move (v := .int _ _) rfl) ?_
  refine tl_y rfl (y_convI rfl (by omega)) ?_
  refine tl_y rfl (y_remI rfl rfl (by omega)) ?_
  refine tl_y rfl (y_addI rfl rfl (by omega)) ?_
  obtain ⟨k, hk⟩ : ∃ k : Nat, 1 + (x.toNat : Int) % 8 = k := ⟨(1 + (x.toNat : Int) % 8).toNat, by omega⟩
  have hk8 : 1 ≤ k ∧ k ≤ 8 := by omega
  rw [hk]
  refine tl_y rfl (y_assign (v := .int _ _) rfl) ?_
  refine tl_nil (.then_normal ?_)
  refine .sub (F' := [(1, _), (5, _)]) (.cons rfl (.cons rfl .nil)) ?_
  refine x_seq (x_region ?_)
  refine tl_y rfl (y_move (v := .int _ _) rfl) ?_
  refine tl_y rfl (y_mulI rfl rfl (by omega)) ?_
  refine tl_e rfl (e_call' rfl (New_spec _) ?_)
  intro _ M2 L2 hM2 hv
  replace hm := hm.trans hM2
  rw [if_neg (by omega), show (2 * (k : Int)).toNat = 2 * k by omega] at hv
  obtain ⟨d, ⟨r2, hd2, rfl⟩, rfl⟩ := hv
  have hfl := fresh_len (2 * k)
  refine tl_y rfl (y_move (v := .tuple _) rfl) ?_
  refine tl_y rfl (y_extract rfl) ?_
  refine tl_y rfl (y_extract rfl) ?_
  refine tl_y rfl (y_assign (v := .pointer _) rfl) ?_
  refine tl_y rfl (y_assign (v := .int _ _) rfl) ?_
  refine tl_nil (.then_normal ?_)
  refine .sub (F' := [(1, _), (5, _), (6, _)]) (.cons rfl (.cons rfl (.cons rfl .nil))) ?_
  refine x_seq (x_seq (x_region ?_))
  refine tl_y rfl (y_move (v := .pointer _) rfl) ?_
  refine tl_y rfl (y_eqNilPtr rfl rfl) ?_
  refine tl_nil (.then_normal ?_)
  refine x_false rfl (rfl) ?_
  refine x_skip (.then_normal ?_)
  refine x_seq (x_region ?_)
  refine tl_y rfl (y_move (v := .pointer _) rfl) ?_
  refine tl_y rfl (y_move (v := .int _ _) rfl) ?_
  refine tl_e rfl (e_call' rfl (sNew_ok (S := fresh (2 * k)) hd2 0 k hk8 (by omega)) ?_)
  rintro _ M3 _ hM3 ⟨p, rfl, r3, A3, l3, c3, hd3, hb3, rfl⟩
  replace hm := hm.trans hM3
  have hok : OkS (fresh (2 * k)) (s0 0 k) := okS0 hk8 (by omega)
  have hbear : Bears (fresh (2 * k)) (s0 0 k) := bears_fresh hk8 (by omega)
  refine tl_y rfl (y_move (v := .tuple _) rfl) ?_
  refine tl_y rfl (y_extract rfl) ?_
  refine tl_y rfl (y_extract rfl) ?_
  refine tl_y rfl (y_assign (v := .pointer _) rfl) ?_
  refine tl_y rfl (y_assign (v := .int _ _) rfl) ?_
  refine tl_nil (.then_normal ?_)
  refine .sub (F' := [(1, _), (5, _), (6, _), (8, _)]) (.cons rfl (.cons rfl (.cons rfl (.cons rfl .nil)))) ?_
  refine x_seq (x_seq (x_region ?_))
  refine tl_y rfl (y_move (v := .pointer _) rfl) ?_
  refine tl_y rfl (y_eqNilPtr rfl rfl) ?_
  refine tl_nil (.then_normal ?_)
  refine x_false rfl (rfl) ?_
  refine x_skip (.then_normal ?_)
  refine x_seq (x_region ?_)
  refine tl_y rfl (y_move (v := .int _ _) rfl) ?_
  refine tl_y rfl (y_move (v := .int _ _) rfl) ?_
  refine tl_e rfl (e_call' rfl (Room_spec (k : Int)) ?_)
  rintro _ _ _ _ ⟨rfl, rfl, rfl⟩
  rw [if_neg (by omega), show (64 * (k : Int) - 28) = ((64 * k - 28 : Nat) : Int) by omega]
  refine tl_e rfl (e_call' rfl (RFill_spec c (64 * k - 28) (by omega)) ?_)
  rintro _ M4 _ hM4 ⟨rfl, A4, c4, rfl, hA4⟩
  replace hm := hm.trans hM4
  refine tl_y rfl (y_assign (v := .slice _ _ _) rfl) ?_
  refine tl_nil (.then_normal ?_)
  refine .sub (F' := [(1, _), (5, _), (6, _), (8, _), (10, _)]) (.cons rfl (.cons rfl (.cons rfl (.cons rfl (.cons rfl .nil))))) ?_
  refine x_seq (x_region ?_)
  refine tl_y rfl (y_move (v := .pointer _) rfl) ?_
  refine tl_e rfl (e_buildSlice0 (fun b1 => ?_))
  refine tl_y rfl (y_move (v := .slice _ _ _) rfl) ?_
  refine tl_e rfl (e_append1 (by decide) rfl rfl OwnRow.made00 (.row hA4) (all_one_bv _) (by omega) (by omega) (fun A5 cap5 E5 hE5 => ?_))
  refine tl_y rfl (y_move (v := .int _ _) rfl) ?_
  refine tl_e rfl (e_buildSlice rfl (by decide) (fun b2 => ?_))
  refine .bringE E5 inferInstance ?_
  refine tl_e rfl (e_append (E := E5) (by decide) rfl rfl hE5 (.own inferInstance rfl) rfl (by omega) (by omega) (fun A6 cap6 E6 hE6 => ?_))
  rw [List.nil_append, show (List.replicate (64 * k - 28) c).map bv ++ [Value.int .u8 (c.toNat : Int)] = (List.replicate (64 * k - 28 + 1) c).map bv by rw [List.replicate_succ']; simp [bv]] at hE6
  refine .pubRow hE6 (fun M7 hM7 hA7 => ?_)
  replace hm := hm.trans hM7
  refine .dropTo (dL d r3 (fresh (2 * k)) (sL p d (s0 0 k) A3 l3 c3 :: L)) inferInstance ?_
  refine tl_e rfl (e_call' rfl (Save_spec (hg.mono hm) (hd3.mono (hM4.trans hM7)) hok (within_fresh (2 * k)) (by omega) (hb3.mono (hM4.trans hM7)) hA7) ?_)
  rintro _ M8 _ hM8 ⟨⟨r8, A8, l8, c8, hd8, hb8, rfl⟩, rfl⟩
  replace hm := hm.trans hM8
  rw [show saveRes (fresh (2 * k)) (s0 0 k) (List.replicate (64 * k - 28 + 1) c) = ((fresh (2 * k), s0 0 k), 1) by rw [saveRes, if_pos (by rw [List.length_replicate]; show 64 * k - 28 < _; omega)]] at hd8 hb8 ⊢
  refine .eqL (L' := dL d r8 (fresh (2 * k)) (sL p d (s0 0 k) A8 l8 c8 :: L)) rfl ?_
  change IsDisk M8 r8 (fresh (2 * k)) at hd8
  refine tl_y rfl (y_assign (v := .int _ _) rfl) ?_
  refine tl_nil (.then_normal ?_)
  refine .sub (F' := [(5, _), (6, _), (8, _), (10, _), (11, _)]) (.cons rfl (.cons rfl (.cons rfl (.cons rfl (.cons rfl .nil))))) ?_
  refine x_seq (x_region ?_)
  refine tl_y rfl (y_move (v := .pointer _) rfl) ?_
  refine tl_e rfl (e_call' rfl (Count_spec (S := fresh (2 * k)) hd8) ?_)
  rintro _ _ _ _ ⟨rfl, rfl, rfl⟩
  rw [show (fresh (2 * k)).count = 0 from rfl]
  have hA4' := hA4.mono (hM7.trans hM8)
  have hsv := save_calm (b := List.replicate (64 * k - 28) c) hbear.calm hok (by rw [List.length_replicate]; show 64 * k - 28 + 28 ≤ 64 * k; omega)
  have hbs := hbear.save (b := List.replicate (64 * k - 28) c) (by rw [List.length_replicate]; show 64 * k - 28 + 28 ≤ 64 * k; omega) (show (0 : UInt64).toNat < 18446744073709551615 by decide)
  refine tl_y rfl (y_move (v := .tuple _) rfl) ?_
  refine tl_y rfl (y_extract rfl) ?_
  refine tl_y rfl (y_extract rfl) ?_
  refine tl_y rfl (y_assign (v := .int _ _) rfl) ?_
  refine tl_y rfl (y_assign (v := .int _ _) rfl) ?_
  refine tl_nil (.then_normal ?_)
  refine .sub (F' := [(5, _), (8, _), (10, _), (11, _), (12, _)]) (.cons rfl (.cons rfl (.cons rfl (.cons rfl (.cons rfl .nil))))) ?_
  refine x_seq (x_region ?_)
  refine tl_y rfl (y_move (v := .pointer _) rfl) ?_
  refine tl_y rfl (y_move (v := .slice _ _ _) rfl) ?_
  refine tl_e rfl (e_call' rfl (Save_spec (S := fresh (2 * k)) (s := s0 0 k) (hg.mono hm) hd8 hok (within_fresh (2 * k)) (by omega) hb8 hA4') ?_)
  rintro _ M9 _ hM9 ⟨⟨r9, A9, l9, c9, hd9, hb9, rfl⟩, rfl⟩
  replace hm := hm.trans hM9
  rw [hsv] at hd9 hb9 ⊢
  change IsDisk M9 r9 (savedD (fresh (2 * k)) (s0 0 k) (List.replicate (64 * k - 28) c)) at hd9
  refine .eqL (L' := dL d r9 (savedD (fresh (2 * k)) (s0 0 k) (List.replicate (64 * k - 28) c)) (sL p d ((s0 0 k).saved (List.replicate (64 * k - 28) c)) A9 l9 c9 :: L)) rfl ?_
  have hload := hbs.load (t := (s0 0 k).saved (List.replicate (64 * k - 28) c)) (show (0 : UInt64) + 1 ≠ 0 by decide) rfl rfl
  have htold : loadTold (savedD (fresh (2 * k)) (s0 0 k) (List.replicate (64 * k - 28) c)) ((s0 0 k).saved (List.replicate (64 * k - 28) c)) = (List.replicate (64 * k - 28) c, 1) := by
    rw [loadTold, hload]; rfl
  refine tl_y rfl (y_assign (v := .int _ _) rfl) ?_
  refine tl_nil (.then_normal ?_)
  refine x_seq (x_region ?_)
  refine tl_y rfl (y_move (v := .pointer _) rfl) ?_
  refine tl_e rfl (e_call' rfl (Load_spec (hg.mono hm) hd9 hbs.ok hb9) ?_)
  rintro _ M10 _ hM10 ⟨⟨r10, A10, l10, c10, hd10, hb10, rfl⟩, A11, n11, c11, rfl, hA11⟩
  replace hm := hm.trans hM10
  rw [htold] at hA11 ⊢
  rw [hload]
  refine tl_y rfl (y_move (v := .tuple _) rfl) ?_
  refine tl_y rfl (y_extract rfl) ?_
  refine tl_y rfl (y_extract rfl) ?_
  refine tl_y rfl (y_extract rfl) ?_
  refine tl_y rfl (y_assign (v := .slice _ _ _) rfl) ?_
  refine tl_y rfl (y_assign (v := .int _ _) rfl) ?_
  refine tl_y rfl (y_assign (v := .int _ _) rfl) ?_
  refine tl_nil (.then_normal ?_)
  refine .sub (F' := [(5, _), (10, _), (11, _), (12, _), (14, _), (15, _), (16, _), (17, _)]) (.cons rfl (.cons rfl (.cons rfl (.cons rfl (.cons rfl (.cons rfl (.cons rfl (.cons rfl .nil)))))))) ?_
  refine x_seq (x_region ?_)
  refine tl_y rfl (y_move (v := .int _ _) rfl) ?_
  refine tl_y rfl (y_eql rfl rfl) ?_
  refine tl_y rfl (y_move (v := .bool _) rfl) ?_
  refine tl_set (s := 68) (u := .bool true) rfl (by first | rfl | decide) ?_
  refine tl_y rfl (y_move (v := .int _ _) rfl) ?_
  refine tl_y rfl (y_eql rfl rfl) ?_
  refine tl_y rfl (y_pickT rfl rfl) ?_
  refine tl_y rfl (y_move (v := .bool _) rfl) ?_
  refine tl_set (s := 72) (u := .bool true) rfl (by first | rfl | decide) ?_
  refine tl_y rfl (y_move (v := .int _ _) rfl) ?_
  refine tl_y rfl (y_eql rfl rfl) ?_
  refine tl_y rfl (y_pickT rfl rfl) ?_
  refine tl_y rfl (y_move (v := .bool _) rfl) ?_
  refine tl_set (s := 76) (u := .bool true) rfl (by first | rfl | decide) ?_
  refine tl_y rfl (y_move (v := .int _ _) rfl) ?_
  refine tl_y rfl (y_eql rfl rfl) ?_
  refine tl_y rfl (y_pickT rfl rfl) ?_
  refine tl_y rfl (y_move (v := .bool _) rfl) ?_
  refine tl_set (s := 80) (u := .bool true) rfl (by first | rfl | decide) ?_
  refine tl_y rfl (y_move (v := .int _ _) rfl) ?_
  refine tl_y rfl (y_eql rfl rfl) ?_
  refine tl_y rfl (y_pickT rfl rfl) ?_
  refine tl_y rfl (y_move (v := .bool _) rfl) ?_
  refine tl_set (s := 84) (u := .bool true) rfl (by first | rfl | decide) ?_
  refine tl_y rfl (y_move (v := .slice _ _ _) rfl) ?_
  refine tl_y rfl (y_move (v := .slice _ _ _) rfl) ?_
  refine tl_e rfl (e_call' rfl (same_spec hA11 (hA4'.mono (hM9.trans hM10))) ?_)
  rintro _ _ _ _ ⟨rfl, rfl, rfl⟩
  refine tl_y rfl (y_pickT rfl rfl) ?_
  refine tl_y rfl (y_move (v := .bool _) rfl) ?_
  refine tl_set (s := 89) (u := .bool true) rfl (by simp) ?_
  refine tl_y rfl (y_move (v := .slice _ _ _) rfl) ?_
  refine tl_y rfl (y_len rfl) ?_
  refine tl_y rfl (y_move (v := .int _ _) rfl) ?_
  refine tl_y rfl (y_mulI rfl rfl (by omega)) ?_
  refine tl_y rfl (y_subI rfl rfl (by omega)) ?_
  refine tl_y rfl (y_eql rfl rfl) ?_
  refine tl_y rfl (y_pickT rfl rfl) ?_
  refine tl_y rfl (y_assign (v := .bool _) rfl) ?_
  refine tl_nil (.then_normal ?_)
  refine .sub (F' := [(4, _)]) (.cons rfl .nil) ?_
  refine x_ret (ret1 rfl rfl hm (by congr 1; rw [decide_eq_true]; omega))
theorem getB_take8 (n : Nat) (num : UInt64) (b : List UInt8) : getB (((recB n num b).take 64).take 8) = num.toNat := by
  have hlt := num.toNat_lt
  rw [List.take_take, show min 8 64 = 8 from rfl, recB, recH, List.append_assoc, List.take_append_of_le_length (by rw [putB_length]; omega), List.take_of_length_le (by rw [putB_length]; omega), getB_put]
  omega
theorem SlotsTurns_spec (hg : ShaG M) {A : Option Addr} {n c : Nat} {vs : List Value} {bss : List (List UInt8)} (h : Row M 1 A n c vs) (hb : BRows M vs bss) :
    Con Tryd.prog 5 #[.slice A n c] G M L (fun v M' L' => v = .bool true) noPanic := by
  have hvl := hb.len
  have hnl : vs.length = n := by have := h.len; omega
  have hmx := h.max
  have hle := h.le
  refine enter (args := [_]) (fn := Tryd.f5) ⟨Tryd.func5, rfl, by kernel_rfl, by kernel_rfl⟩ 106 rfl ?_
  refine x_seq (x_region ?_)
  refine tl_y rfl (y_assign rfl) ?_
  refine tl_nil (.then_normal ?_)
  refine x_seq (x_seq (x_region ?_))
  refine tl_e rfl (e_call' rfl (awake20_spec hg) ?_)
  rintro _ M1 _ hM1 ⟨rfl, rfl⟩
  have hm := hM1
  refine tl_y rfl (y_not rfl) ?_
  refine tl_nil (.then_normal ?_)
  refine x_false rfl (rfl) ?_
  refine x_skip (.then_normal ?_)
  refine x_seq (x_region ?_)
  refine tl_e rfl (e_call' rfl (New_spec 4) ?_)
  intro _ M2 L2 hM2 hv
  replace hm := hm.trans hM2
  rw [if_neg (by omega)] at hv
  obtain ⟨d, ⟨r2, hd2, rfl⟩, rfl⟩ := hv
  refine tl_y rfl (y_move (v := .tuple _) rfl) ?_
  refine tl_y rfl (y_extract rfl) ?_
  refine tl_y rfl (y_extract rfl) ?_
  refine tl_y rfl (y_assign (v := .pointer _) rfl) ?_
  refine tl_y rfl (y_assign (v := .int _ _) rfl) ?_
  refine tl_nil (.then_normal ?_)
  refine .sub (F' := [(0, _), (2, _), (3, _)]) (.cons rfl (.cons rfl (.cons rfl .nil))) ?_
  refine x_seq (x_seq (x_region ?_))
  refine tl_y rfl (y_move (v := .pointer _) rfl) ?_
  refine tl_y rfl (y_eqNilPtr rfl rfl) ?_
  refine tl_nil (.then_normal ?_)
  refine x_false rfl (rfl) ?_
  refine x_skip (.then_normal ?_)
  refine x_seq (x_region ?_)
  refine tl_y rfl (y_move (v := .pointer _) rfl) ?_
  refine tl_e rfl (e_call' rfl (sNew_ok (S := fresh 4) hd2 0 2 (by omega) (by rw [fresh_len]; omega)) ?_)
  rintro _ M3 _ hM3 ⟨p, rfl, r3, A3, l3, c3, hd3, hb3, rfl⟩
  replace hm := hm.trans hM3
  refine tl_y rfl (y_move (v := .tuple _) rfl) ?_
  refine tl_y rfl (y_extract rfl) ?_
  refine tl_y rfl (y_extract rfl) ?_
  refine tl_y rfl (y_assign (v := .pointer _) rfl) ?_
  refine tl_y rfl (y_assign (v := .int _ _) rfl) ?_
  refine tl_nil (.then_normal ?_)
  refine .sub (F' := [(0, _), (2, _), (3, _), (5, _)]) (.cons rfl (.cons rfl (.cons rfl (.cons rfl .nil)))) ?_
  refine x_seq (x_seq (x_region ?_))
  refine tl_y rfl (y_move (v := .pointer _) rfl) ?_
  refine tl_y rfl (y_eqNilPtr rfl rfl) ?_
  refine tl_nil (.then_normal ?_)
  refine x_false rfl (rfl) ?_
  refine x_skip (.then_normal ?_)
  refine x_seq (x_seq (x_region ?_))
  refine tl_y rfl (y_assign rfl) ?_
  refine tl_nil (.then_normal ?_)
  refine x_block ?_
  refine x_loop (I := fun m' F D M4 L1 => ∃ (k : Nat) (S : DS) (s : SS) (r : DRep) (A4 : Option Addr) (l4 c4 : Nat), m' = 30 - k ∧ k ≤ 30 ∧ Le M M4 ∧ Bears S s ∧ S.within (9 * k) ∧ s.first = 0 ∧ s.n = 2 ∧ S.sure.length = 4 ∧ s.num.toNat = k ∧ (0 < k → s.at_ = (k - 1) % 2) ∧ IsDisk M4 r S ∧ Bytes M4 A4 l4 c4 s.b ∧ D = [] ∧ L1 = dL d r S (sL p d s A4 l4 c4 :: L) ∧ F = [(0, .slice A n c), (2, .bool false), (3, .pointer (some ⟨d, 0, none⟩)), (5, .pointer (some ⟨p, 0, none⟩)), (7, .int .i64 k)]) (30) (F0 := [(0, _), (2, _), (3, _), (5, _), (7, _)]) ?_ (.cons rfl (.cons rfl (.cons rfl (.cons rfl (.cons rfl .nil))))) ?_  -- slots [0, 2, 3, 5, 7], written [2, 7]
  · exact ⟨0, fresh 4, s0 0 2, r3, A3, l3, c3, rfl, by omega, hm, bears_fresh (by omega) (by omega), within_fresh 4, rfl, rfl, rfl, rfl, (fun h => by omega), hd3, hb3, rfl, rfl, rfl⟩
  rintro m _ _ M4 L4 ⟨k, S, s, r, A4, l4, c4, rfl, hk, hM4, hbe, hw, hf, hn2, hsl, hnum, hat, hd4, hb4, rfl, rfl, rfl⟩
  refine x_seq (x_seq (x_region ?_))
  refine tl_y rfl (y_move (v := .int _ _) rfl) ?_
  refine tl_y rfl (y_move (v := .slice _ _ _) rfl) ?_
  refine tl_y rfl (y_len rfl) ?_
  refine tl_y rfl (y_lss rfl rfl) ?_
  refine tl_y rfl (y_move (v := .bool _) rfl) ?_
  refine tl_cases (s := 36) rfl (fun hk1 => ?_) (fun hk1 => ?_)
  ·
    have hkn : k < n := by omega
    obtain ⟨g, o, rfl, hcell⟩ := (h.mono hM4).addr (by omega)
    obtain ⟨A5, n5, c5, hv5, hb5⟩ := (hb.mono hM4).get k (by omega)
    have hn5 := hb5.size
    refine tl_y rfl (y_move (v := .int _ _) rfl) ?_
    refine tl_y rfl (y_lss rfl rfl) ?_
    refine tl_y rfl (y_pickT rfl rfl) ?_
    refine tl_nil (.then_normal ?_)
    refine .sub (F' := [(0, _), (2, _), (3, _), (5, _), (7, _), (39, _)]) (.cons rfl (.cons rfl (.cons rfl (.cons rfl (.cons rfl (.cons rfl .nil)))))) ?_
    refine x_cond rfl (fun hc4 => ?_) (fun hc4 => ?_)
    ·
      refine x_skip (.then_normal ?_)
      refine x_seq ?_
      refine x_block ?_
      refine x_seq (x_region ?_)
      refine tl_y rfl (y_move (v := .slice _ _ _) rfl) ?_
      refine tl_y rfl (y_move (v := .int _ _) rfl) ?_
      refine tl_y rfl (y_indexAddr rfl rfl (by omega)) ?_
      refine tl_y rfl (y_load rfl rfl (.at_ (hcell _ k _ hv5) (by omega))) ?_
      refine tl_y rfl (y_assign (v := .slice _ _ _) rfl) ?_
      refine tl_nil (.then_normal ?_)
      refine .sub (F' := [(0, _), (2, _), (3, _), (5, _), (7, _), (8, _)]) (.cons rfl (.cons rfl (.cons rfl (.cons rfl (.cons rfl (.cons rfl .nil)))))) ?_
      refine x_seq (x_seq (x_region ?_))
      refine tl_y rfl (y_move (v := .slice _ _ _) rfl) ?_
      refine tl_y rfl (y_len rfl) ?_
      refine tl_y rfl (y_gtr rfl rfl) ?_
      refine tl_nil (.then_normal ?_)
      refine x_cond rfl (fun hc5 => ?_) (fun hc5 => ?_)
      ·
        refine x_seq (x_region ?_)
        refine tl_y rfl (y_move (v := .pointer _) rfl) ?_
        refine tl_y rfl (y_move (v := .slice _ _ _) rfl) ?_
        refine tl_e rfl (e_call' rfl (Save_spec (hg.mono hM4) hd4 hbe.ok hw (by omega) hb4 hb5) ?_)
        rintro _ M6 _ hM6 ⟨_, rfl⟩
        rw [show saveRes S s (bss.getD k []) = ((S, s), 1) by rw [saveRes, if_pos (by rw [hn2]; omega)]]
        refine tl_y rfl (y_eql rfl rfl) ?_
        refine tl_y rfl (y_assign (v := .bool _) rfl) ?_
        refine tl_nil (.then_normal ?_)
        refine .sub (F' := [(0, _), (2, _), (3, _), (5, _), (7, _)]) (.cons rfl (.cons rfl (.cons rfl (.cons rfl (.cons rfl .nil))))) ?_
        refine x_ret (.then_ret (.block_ret (.then_ret (.loop_ret (.block_ret (.then_ret (ret1 rfl rfl (hM4.trans hM6) rfl)))))))
      ·
        have hle100 : (bss.getD k []).length + 28 ≤ 64 * s.n := by rw [hn2]; omega
        have hsv := save_calm hbe.calm hbe.ok hle100
        have hbs := hbe.save hle100 (by omega)
        have hok7 := hbs.ok
        have hnum7 : (s.num + 1).toNat = k + 1 := by rw [UInt64.toNat_add]; simp; omega
        have hnz7 : s.num + 1 ≠ 0 := fun e => by rw [e] at hnum7; simp at hnum7
        have hw7 := saveRes_within hw (s := s) (by omega) (bss.getD k [])
        rw [hsv] at hw7
        have hto : s.to = k % 2 := by
          by_cases h0 : k = 0
          · rw [SS.to, hnum, h0]; rfl
          · have := hat (by omega)
            rw [SS.to, hnum, if_pos (by omega), this]; omega
        have hsl7 : (savedD S s (bss.getD k [])).sure.length = 4 := by rw [← hsl]; exact setSecs_length _ _ _ _
        have hload := hbs.load (t := s0 0 2) hnz7 (by show 0 = s.first; exact hf.symm) (by show 2 = s.n; exact hn2.symm)
        have htold : loadTold (savedD S s (bss.getD k [])) (s0 0 2) = (bss.getD k [], s.num + 1) := by rw [loadTold, hload]; rfl
        have hsec : (savedD S s (bss.getD k [])).sure.getD (2 * (k % 2)) [] = (recB s.n (s.num + 1) (bss.getD k [])).take 64 := by
          show (setSecs S.sure _ _ s.n).getD _ [] = _
          rw [setSecs_get _ _ _ _ _ (by rw [hf, hn2, hto]; omega), if_pos (by rw [hf, hn2, hto]; omega), hf, hn2, hto, show 2 * (k % 2) - (0 + k % 2 * 2) = 0 by omega, chunk]
          simp
        refine x_skip (.then_normal ?_)
        refine x_seq (x_seq (x_region ?_))
        refine tl_y rfl (y_move (v := .pointer _) rfl) ?_
        refine tl_y rfl (y_move (v := .slice _ _ _) rfl) ?_
        refine tl_e rfl (e_call' rfl (Save_spec (hg.mono hM4) hd4 hbe.ok hw (by omega) hb4 hb5) ?_)
        rintro _ M7 _ hM7 ⟨⟨r7, A7, l7, c7, hd7, hb7, rfl⟩, rfl⟩
        have hm7 := hM4.trans hM7
        rw [hsv] at hd7 hb7 ⊢
        change IsDisk M7 r7 (savedD S s (bss.getD k [])) at hd7
        refine .eqL (L' := dL d r7 (savedD S s (bss.getD k [])) (sL p d (s.saved (bss.getD k [])) A7 l7 c7 :: L)) rfl ?_
        refine tl_y rfl (y_neq rfl rfl) ?_
        refine tl_nil (.then_normal ?_)
        refine .sub (F' := [(0, _), (2, _), (3, _), (5, _), (7, _), (8, _), (56, _)]) (.cons rfl (.cons rfl (.cons rfl (.cons rfl (.cons rfl (.cons rfl (.cons rfl .nil))))))) ?_
        refine x_false rfl (rfl) ?_
        refine x_skip (.then_normal ?_)
        refine x_seq (x_region ?_)
        refine tl_y rfl (y_move (v := .pointer _) rfl) ?_
        refine tl_e rfl (e_call' rfl (Sure_spec hd7) ?_)
        rintro _ M8 _ hM8 ⟨rfl, A8, n8, c8, vs8, rfl, hr8, hb8⟩
        replace hm7 := hm7.trans hM8
        have hn8 : n8 = 4 := by have := hr8.len; have := hb8.len; omega
        subst hn8
        obtain ⟨g8, o8, rfl, hcell8⟩ := hr8.addr (by omega)
        obtain ⟨A9, n9, c9, hv9, hb9⟩ := hb8.get (2 * (k % 2)) (by omega)
        rw [hsec] at hb9
        have hn9 := hb9.size
        have hrl := recB_length (num := s.num + 1) hle100
        rw [List.length_take, hrl, hn2] at hn9
        have hc9 := hb9.le
        refine tl_y rfl (y_assign (v := .slice _ _ _) rfl) ?_
        refine tl_nil (.then_normal ?_)
        refine x_seq (x_seq (x_region ?_))
        refine tl_y rfl (y_move (v := .slice _ _ _) rfl) ?_
        refine tl_y rfl (y_len rfl) ?_
        refine tl_y rfl (y_neq rfl rfl) ?_
        refine tl_nil (.then_normal ?_)
        refine .sub (F' := [(0, _), (2, _), (3, _), (5, _), (7, _), (8, _), (9, _), (61, _)]) (.cons rfl (.cons rfl (.cons rfl (.cons rfl (.cons rfl (.cons rfl (.cons rfl (.cons rfl .nil)))))))) ?_
        refine x_false rfl (by rw [decide_eq_false]; simp) ?_
        refine x_skip (.then_normal ?_)
        refine x_seq (x_region ?_)
        refine tl_y rfl (y_move (v := .slice _ _ _) rfl) ?_
        refine tl_y rfl (y_move (v := .int _ _) rfl) ?_
        refine tl_y rfl (y_remI rfl rfl (by omega)) ?_
        rw [show ((k : Int) % 2) = ((k % 2 : Nat) : Int) by omega]
        refine tl_y rfl (y_mulI rfl rfl (by omega)) ?_
        refine tl_y rfl (y_indexAddr rfl rfl (by omega)) ?_
        refine tl_y rfl (y_load rfl rfl (.at_ (hcell8 _ (2 * (k % 2)) _ hv9) (by omega))) ?_
        refine tl_y rfl (y_sliceH rfl rfl (by omega) (by omega)) ?_
        refine tl_e rfl (e_call' rfl (RGet_spec (n := 8) (Bytes.take hb9 8 (by omega)) (by omega)) ?_)
        rintro _ _ _ _ ⟨rfl, rfl, x, hx, rfl⟩
        rw [getB_take8, hnum7] at hx
        refine tl_y rfl (y_move (v := .tuple _) rfl) ?_
        refine tl_y rfl (y_extract rfl) ?_
        refine tl_y rfl (y_extract rfl) ?_
        refine tl_y rfl (y_assign (v := .int _ _) rfl) ?_
        refine tl_y rfl (y_assign (v := .bool _) rfl) ?_
        refine tl_nil (.then_normal ?_)
        refine .sub (F' := [(0, _), (2, _), (3, _), (5, _), (7, _), (8, _), (10, _)]) (.cons rfl (.cons rfl (.cons rfl (.cons rfl (.cons rfl (.cons rfl (.cons rfl .nil))))))) ?_
        refine x_seq (x_region ?_)
        refine tl_y rfl (y_move (v := .pointer _) rfl) ?_
        refine tl_e rfl (e_call' rfl (sNew_ok (hd7.mono hM8) 0 2 (by omega) (by omega)) ?_)
        rintro _ M10 _ hM10 ⟨p2, rfl, r10, A10, l10, c10, hd10, hb10, rfl⟩
        replace hm7 := hm7.trans hM10
        have hok10 : OkS (savedD S s (bss.getD k [])) (s0 0 2) := okS0 (by omega) (by omega)
        refine tl_y rfl (y_move (v := .tuple _) rfl) ?_
        refine tl_y rfl (y_extract rfl) ?_
        refine tl_y rfl (y_extract rfl) ?_
        refine tl_y rfl (y_assign (v := .pointer _) rfl) ?_
        refine tl_y rfl (y_assign (v := .int _ _) rfl) ?_
        refine tl_nil (.then_normal ?_)
        refine .sub (F' := [(0, _), (2, _), (3, _), (5, _), (7, _), (8, _), (10, _), (12, _)]) (.cons rfl (.cons rfl (.cons rfl (.cons rfl (.cons rfl (.cons rfl (.cons rfl (.cons rfl .nil)))))))) ?_
        refine x_seq (x_seq (x_region ?_))
        refine tl_y rfl (y_move (v := .pointer _) rfl) ?_
        refine tl_y rfl (y_eqNilPtr rfl rfl) ?_
        refine tl_nil (.then_normal ?_)
        refine x_false rfl (rfl) ?_
        refine x_skip (.then_normal ?_)
        refine x_seq (x_region ?_)
        refine tl_y rfl (y_move (v := .pointer _) rfl) ?_
        refine tl_e rfl (e_call' rfl (Load_spec (hg.mono hm7) hd10 hok10 hb10) ?_)
        rintro _ M11 _ hM11 ⟨⟨r11, A11, l11, c11, hd11, hb11, rfl⟩, A12, n12, c12, rfl, hA12⟩
        replace hm7 := hm7.trans hM11
        rw [htold] at hA12 ⊢
        rw [hload]
        refine tl_y rfl (y_move (v := .tuple _) rfl) ?_
        refine tl_y rfl (y_extract rfl) ?_
        refine tl_y rfl (y_extract rfl) ?_
        refine tl_y rfl (y_extract rfl) ?_
        refine tl_y rfl (y_assign (v := .slice _ _ _) rfl) ?_
        refine tl_y rfl (y_assign (v := .int _ _) rfl) ?_
        refine tl_y rfl (y_assign (v := .int _ _) rfl) ?_
        refine tl_nil (.then_normal ?_)
        refine .sub (F' := [(0, _), (2, _), (3, _), (5, _), (7, _), (8, _), (10, _), (14, _), (15, _), (16, _)]) (.cons rfl (.cons rfl (.cons rfl (.cons rfl (.cons rfl (.cons rfl (.cons rfl (.cons rfl (.cons rfl (.cons rfl .nil)))))))))) ?_
        refine x_seq (x_region ?_)
        refine tl_y rfl (y_move (v := .int _ _) rfl) ?_
        refine tl_y rfl (y_move (v := .int _ _) rfl) ?_
        refine tl_y rfl (y_addI rfl rfl (by omega)) ?_
        refine tl_y rfl (y_convN64 rfl (by omega)) ?_
        refine tl_y rfl (y_neq rfl rfl) ?_
        refine tl_y rfl (y_move (v := .bool _) rfl) ?_
        refine tl_set (s := 91) (u := .bool false) rfl (by rw [decide_eq_false]; omega) ?_
        refine tl_y rfl (y_move (v := .int _ _) rfl) ?_
        refine tl_y rfl (y_neq rfl rfl) ?_
        refine tl_y rfl (y_pickF rfl rfl) ?_
        refine tl_y rfl (y_move (v := .bool _) rfl) ?_
        refine tl_set (s := 95) (u := .bool false) rfl (rfl) ?_
        refine tl_y rfl (y_move (v := .int _ _) rfl) ?_
        refine tl_y rfl (y_move (v := .int _ _) rfl) ?_
        refine tl_y rfl (y_neq rfl rfl) ?_
        refine tl_y rfl (y_pickF rfl rfl) ?_
        refine tl_y rfl (y_move (v := .bool _) rfl) ?_
        refine tl_set (s := 100) (u := .bool false) rfl (by rw [decide_eq_false]; show ¬ (((s.num + 1).toNat : Int) ≠ _); omega) ?_
        refine tl_y rfl (y_move (v := .slice _ _ _) rfl) ?_
        refine tl_y rfl (y_move (v := .slice _ _ _) rfl) ?_
        refine tl_e rfl (e_call' rfl (same_spec hA12 (hb5.mono (hM7.trans (hM8.trans (hM10.trans hM11))))) ?_)
        rintro _ _ _ _ ⟨rfl, rfl, rfl⟩
        refine tl_y rfl (y_not rfl) ?_
        refine tl_y rfl (y_pickF rfl rfl) ?_
        refine tl_nil (.then_normal ?_)
        refine .sub (F' := [(0, _), (2, _), (3, _), (5, _), (7, _), (105, _)]) (.cons rfl (.cons rfl (.cons rfl (.cons rfl (.cons rfl (.cons rfl .nil)))))) ?_
        refine x_false rfl (by simp) ?_
        refine x_skip (.block_normal (.then_normal ?_))
        refine x_region ?_
        refine tl_y rfl (y_move (v := .int _ _) rfl) ?_
        refine tl_y rfl (y_addI rfl rfl (by omega)) ?_
        refine tl_y rfl (y_assign (v := .int _ _) rfl) ?_
        refine .dropTo (dL d r11 (savedD S s (bss.getD k [])) (sL p d (s.saved (bss.getD k [])) A7 l7 c7 :: L)) inferInstance ?_
        refine tl_nil (.loop_next (m' := 30 - (k + 1)) (by omega) (F' := [(0, _), (2, _), (3, _), (5, _), (7, _)]) (.cons rfl (.cons rfl (.cons rfl (.cons rfl (.cons rfl .nil))))) ?_)
        exact ⟨k + 1, savedD S s (bss.getD k []), s.saved (bss.getD k []), r11, A7, l7, c7, rfl, by omega, hm7, hbs, hw7.mono (by omega), hf, hn2, hsl7, hnum7, (fun _ => by show s.to = _; rw [hto]; omega), hd11, hb7.mono (hM8.trans (hM10.trans hM11)), rfl, rfl, rfl⟩
    ·
      refine x_exit (.then_exit (.loop_exit (.block_exit (.then_normal ?_))))
      refine .sub (F' := []) .nil ?_
      refine x_seq (x_region ?_)
      refine tl_y rfl (y_assign rfl) ?_
      refine tl_nil (.then_normal ?_)
      refine x_ret (ret1 rfl rfl hM4 rfl)
  ·
    refine tl_skip rfl ?_
    refine tl_skip rfl ?_
    refine tl_y rfl (y_pickF rfl rfl) ?_
    refine tl_nil (.then_normal ?_)
    refine .sub (F' := [(0, _), (2, _), (3, _), (5, _), (7, _), (39, _)]) (.cons rfl (.cons rfl (.cons rfl (.cons rfl (.cons rfl (.cons rfl .nil)))))) ?_
    refine x_false rfl rfl ?_
    refine x_exit (.then_exit (.loop_exit (.block_exit (.then_normal ?_))))
    refine .sub (F' := []) .nil ?_
    refine x_seq (x_region ?_)
    refine tl_y rfl (y_assign rfl) ?_
    refine tl_nil (.then_normal ?_)
    refine x_ret (ret1 rfl rfl hM4 rfl)
end
end Go.Proofs.YtbgdjdhbejbhkaaDoor
