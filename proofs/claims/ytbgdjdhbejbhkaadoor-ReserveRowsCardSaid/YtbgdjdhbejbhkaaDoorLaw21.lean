/-
Contracts of functions, each proved by a walk through its code.
-/
import Derived.Test.YtbgdjdhbejbhkaaDoorLaw21F
set_option linter.unusedVariables false
set_option linter.unusedSimpArgs false
set_option linter.constructorNameAsVariable false
namespace Go.Proofs.YtbgdjdhbejbhkaaDoor
open Go Go.Eng
section
variable {G : World} {M : Mem} {L R : Own} {p d : Nat} {r : DRep} {S : DS} {s : SS} {A0 : Option Addr} {l0 c0 : Nat}
theorem awake21_spec (hg : ShaG M) : Con Tryd.prog 46 #[] G M L (fun v M' L' => L = L' ∧ v = .bool true) noPanic := by
  obtain ⟨N, T, O, s3, U, V, eN, eT, eO, es3, eU, eV, f1, f2, f3, f4, f5, f6, f7⟩ := f21
  refine enter (args := []) (fn := Tryd.f46) ⟨Tryd.func46, rfl, by kernel_rfl, by kernel_rfl⟩ 97 rfl ?_
  refine x_seq (x_region ?_)
  refine tl_y rfl (y_assign rfl) ?_
  refine tl_nil (.then_normal ?_)
  refine x_seq (x_region ?_)
  refine tl_e rfl (e_call' rfl (New_spec 16) ?_)
  intro _ M1 L1 hM1 hv
  rw [if_neg (by omega)] at hv
  obtain ⟨d, ⟨r1, hd1, rfl⟩, rfl⟩ := hv
  have hm := hM1
  refine tl_y rfl (y_move (v := .tuple _) rfl) ?_
  refine tl_y rfl (y_extract rfl) ?_
  refine tl_y rfl (y_extract rfl) ?_
  refine tl_y rfl (y_assign (v := .pointer _) rfl) ?_
  refine tl_y rfl (y_assign (v := .int _ _) rfl) ?_
  refine tl_nil (.then_normal ?_)
  refine .sub (F' := [(1, _)]) (.cons rfl .nil) ?_
  refine x_seq (x_seq (x_region ?_))
  refine tl_y rfl (y_move (v := .pointer _) rfl) ?_
  refine tl_y rfl (y_eqNilPtr rfl rfl) ?_
  refine tl_nil (.then_normal ?_)
  refine x_false rfl (rfl) ?_
  refine x_skip (.then_normal ?_)
  refine x_seq (x_region ?_)
  refine tl_y rfl (y_move (v := .pointer _) rfl) ?_
  refine tl_e rfl (e_call' rfl (sNew_ok (S := fresh 16) hd1 0 8 (by omega) (by rw [fresh_len]; omega)) ?_)
  rintro _ M2 _ hM2 ⟨p, rfl, r2, A2, l2, c2, hd2, hb2, rfl⟩
  replace hm := hm.trans hM2
  have hok0 : OkS (fresh 16) (s0 0 8) := okS0 (by omega) (by rw [fresh_len]; omega)
  refine tl_y rfl (y_move (v := .tuple _) rfl) ?_
  refine tl_y rfl (y_extract rfl) ?_
  refine tl_y rfl (y_extract rfl) ?_
  refine tl_y rfl (y_assign (v := .pointer _) rfl) ?_
  refine tl_y rfl (y_assign (v := .int _ _) rfl) ?_
  refine tl_nil (.then_normal ?_)
  refine .sub (F' := [(3, _)]) (.cons rfl .nil) ?_
  refine x_seq (x_seq (x_region ?_))
  refine tl_y rfl (y_move (v := .pointer _) rfl) ?_
  refine tl_y rfl (y_eqNilPtr rfl rfl) ?_
  refine tl_nil (.then_normal ?_)
  refine x_false rfl (rfl) ?_
  refine x_skip (.then_normal ?_)
  refine x_seq (x_region ?_)
  refine tl_y rfl (y_move (v := .pointer _) rfl) ?_
  refine tl_e rfl (e_buildSlice rfl (by decide) (fun b1 => ?_))
  refine tl_e rfl (e_convMark rfl inferInstance (fun M3 fr3 hM3 hb3 => ?_))
  replace hm := hm.trans hM3
  have hA3 : Bytes M3 (some ⟨b1, 0, none⟩) 1 1 h21 := Row.whole hb3 rfl (by omega)
  refine tl_e rfl (e_call' rfl (cNew_spec (hg.mono hm) (hd2.mono hM3) hok0 (within_fresh 16) (by omega) (hb2.mono hM3) hA3 10 4) ?_)
  intro _ M4 _ hM4 hv
  replace hm := hm.trans hM4
  rw [eN, if_pos f1] at hv
  obtain ⟨c, A4, c4, rfl, hh4, r4, A5, l5, c5, hd4, hb4, rfl⟩ := hv
  have hok1 : OkS N.1.1 N.1.2 := eN ▸ newC_ok hok0 h21 10 4
  have hw1 : N.1.1.within 9 := eN ▸ newC_within (within_fresh 16) (show (8 : Nat) ≤ 8 by decide) h21 10 4
  refine tl_y rfl (y_move (v := .tuple _) rfl) ?_
  refine tl_y rfl (y_extract rfl) ?_
  refine tl_y rfl (y_extract rfl) ?_
  refine tl_y rfl (y_assign (v := .pointer _) rfl) ?_
  refine tl_y rfl (y_assign (v := .int _ _) rfl) ?_
  refine tl_nil (.then_normal ?_)
  refine .sub (F' := [(3, _), (5, _), (6, _)]) (.cons rfl (.cons rfl (.cons rfl .nil))) ?_
  refine x_seq (x_seq (x_region ?_))
  refine tl_y rfl (y_move (v := .pointer _) rfl) ?_
  refine tl_y rfl (y_eqNilPtr rfl rfl) ?_
  refine tl_y rfl (y_move (v := .bool _) rfl) ?_
  refine tl_set (s := 37) (u := .bool false) rfl (rfl) ?_
  refine tl_y rfl (y_move (v := .int _ _) rfl) ?_
  refine tl_y rfl (y_neq rfl rfl) ?_
  refine tl_y rfl (y_pickF rfl rfl) ?_
  refine tl_nil (.then_normal ?_)
  refine .sub (F' := [(3, _), (5, _), (40, _)]) (.cons rfl (.cons rfl (.cons rfl .nil))) ?_
  refine x_false rfl (rfl) ?_
  refine x_skip (.then_normal ?_)
  refine x_seq (x_region ?_)
  refine tl_y rfl (y_move (v := .pointer _) rfl) ?_
  refine tl_e rfl (e_call' rfl (Take_spec (hg.mono hm) hd4 hok1 hw1 (by omega) hb4 hh4 (newX 10 4)) ?_)
  rintro _ M6 _ hM6 ⟨⟨r6, A6, l6, c6, hd6, hb6, rfl⟩, rfl⟩
  replace hm := hm.trans hM6
  rw [eT] at hd6 hb6 ⊢
  have hok2 : OkS T.1.1.1 T.1.1.2 := eT ▸ takeC_ok hok1 (newX 10 4) h21
  have hw2 : T.1.1.1.within 18 := eT ▸ takeC_within hw1 hok1.n.2 (newX 10 4) h21
  rw [f2]
  refine tl_y rfl (y_move (v := .tuple _) rfl) ?_
  refine tl_y rfl (y_extract rfl) ?_
  refine tl_y rfl (y_extract rfl) ?_
  refine tl_y rfl (y_assign (v := .int _ _) rfl) ?_
  refine tl_y rfl (y_assign (v := .int _ _) rfl) ?_
  refine tl_nil (.then_normal ?_)
  refine .sub (F' := [(3, _), (7, _), (8, _)]) (.cons rfl (.cons rfl (.cons rfl .nil))) ?_
  refine x_seq (x_region ?_)
  refine tl_y rfl (y_move (v := .pointer _) rfl) ?_
  refine tl_e rfl (e_call' rfl (cOpen_spec (hg.mono hm) hd6 hok2 hb6) ?_)
  intro _ M7 _ hM7 hv
  replace hm := hm.trans hM7
  rw [eO, if_pos f3, es3, f6] at hv
  obtain ⟨o, A7, n7, c7, rfl, hh7, r7, A8, l8, c8, hd7, hb7, rfl⟩ := hv
  have hok3 : OkS T.1.1.1 s3 := es3 ▸ loadRes_ok hok2
  have hl7 := hh7.size
  obtain rfl : n7 = 1 := hl7.symm
  refine tl_y rfl (y_move (v := .tuple _) rfl) ?_
  refine tl_y rfl (y_extract rfl) ?_
  refine tl_y rfl (y_extract rfl) ?_
  refine tl_y rfl (y_assign (v := .pointer _) rfl) ?_
  refine tl_y rfl (y_assign (v := .int _ _) rfl) ?_
  refine tl_nil (.then_normal ?_)
  refine .sub (F' := [(3, _), (7, _), (8, _), (9, _), (10, _)]) (.cons rfl (.cons rfl (.cons rfl (.cons rfl (.cons rfl .nil))))) ?_
  refine x_seq (x_seq (x_region ?_))
  refine tl_y rfl (y_move (v := .pointer _) rfl) ?_
  refine tl_y rfl (y_eqNilPtr rfl rfl) ?_
  refine tl_nil (.then_normal ?_)
  refine x_false rfl (rfl) ?_
  refine x_skip (.then_normal ?_)
  refine x_seq (x_region ?_)
  refine tl_y rfl (y_move (v := .pointer _) rfl) ?_
  refine tl_e rfl (e_call' rfl (Take_spec (hg.mono hm) hd7 hok3 hw2 (by omega) hb7 hh7 O.1.1) ?_)
  rintro _ M9 _ hM9 ⟨⟨r9, A9, l9, c9, hd9, hb9, rfl⟩, rfl⟩
  replace hm := hm.trans hM9
  rw [eU] at hd9 hb9 ⊢
  have hok4 : OkS U.1.1.1 U.1.1.2 := eU ▸ takeC_ok hok3 O.1.1 h21
  have hw4 : U.1.1.1.within 27 := eU ▸ takeC_within hw2 hok3.n.2 O.1.1 h21
  have hh9 := hh7.mono hM9
  rw [f4, f7]
  refine tl_y rfl (y_move (v := .tuple _) rfl) ?_
  refine tl_y rfl (y_extract rfl) ?_
  refine tl_y rfl (y_extract rfl) ?_
  refine tl_y rfl (y_assign (v := .int _ _) rfl) ?_
  refine tl_y rfl (y_assign (v := .int _ _) rfl) ?_
  refine tl_nil (.then_normal ?_)
  refine .sub (F' := [(3, _), (7, _), (8, _), (9, _), (10, _), (11, _), (12, _)]) (.cons rfl (.cons rfl (.cons rfl (.cons rfl (.cons rfl (.cons rfl (.cons rfl .nil))))))) ?_
  refine x_seq (x_region ?_)
  refine tl_y rfl (y_move (v := .pointer _) rfl) ?_
  refine tl_e rfl (e_call' rfl (cNew_spec (hg.mono hm) hd9 hok4 hw4 (by omega) hb9 (show Bytes M9 none 0 0 [] from Row.nil M9 _) 10 4) ?_)
  intro _ M10 _ hM10 hv
  replace hm := hm.trans hM10
  rw [eV, if_neg (by rw [f5]; decide)] at hv
  obtain ⟨rfl, r10, A10, l10, c10, hd10, hb10, rfl⟩ := hv
  rw [f5]
  refine tl_y rfl (y_move (v := .tuple _) rfl) ?_
  refine tl_y rfl (y_extract rfl) ?_
  refine tl_y rfl (y_extract rfl) ?_
  refine tl_y rfl (y_assign (v := .pointer _) rfl) ?_
  refine tl_y rfl (y_assign (v := .int _ _) rfl) ?_
  refine tl_nil (.then_normal ?_)
  refine .sub (F' := [(7, _), (8, _), (9, _), (10, _), (11, _), (12, _), (14, _)]) (.cons rfl (.cons rfl (.cons rfl (.cons rfl (.cons rfl (.cons rfl (.cons rfl .nil))))))) ?_
  refine x_seq (x_region ?_)
  refine tl_y rfl (y_move (v := .int _ _) rfl) ?_
  refine tl_y rfl (y_eql rfl rfl) ?_
  refine tl_y rfl (y_move (v := .bool _) rfl) ?_
  refine tl_set (s := 65) (u := .bool true) rfl (by first | rfl | decide) ?_
  refine tl_y rfl (y_move (v := .int _ _) rfl) ?_
  refine tl_y rfl (y_eql rfl rfl) ?_
  refine tl_y rfl (y_pickT rfl rfl) ?_
  refine tl_y rfl (y_move (v := .bool _) rfl) ?_
  refine tl_set (s := 69) (u := .bool true) rfl (by first | rfl | decide) ?_
  refine tl_y rfl (y_move (v := .int _ _) rfl) ?_
  refine tl_y rfl (y_eql rfl rfl) ?_
  refine tl_y rfl (y_pickT rfl rfl) ?_
  refine tl_y rfl (y_move (v := .bool _) rfl) ?_
  refine tl_set (s := 73) (u := .bool true) rfl (by first | rfl | decide) ?_
  refine tl_y rfl (y_move (v := .int _ _) rfl) ?_
  refine tl_y rfl (y_eql rfl rfl) ?_
  refine tl_y rfl (y_pickT rfl rfl) ?_
  refine tl_y rfl (y_move (v := .bool _) rfl) ?_
  refine tl_set (s := 77) (u := .bool true) rfl (by first | rfl | decide) ?_
  refine tl_y rfl (y_move (v := .int _ _) rfl) ?_
  refine tl_y rfl (y_eql rfl rfl) ?_
  refine tl_y rfl (y_pickT rfl rfl) ?_
  refine tl_y rfl (y_move (v := .bool _) rfl) ?_
  refine tl_set (s := 81) (u := .bool true) rfl (by first | rfl | decide) ?_
  refine tl_y rfl (y_move (v := .pointer _) rfl) ?_
  refine tl_e rfl (e_call' rfl (Con.bring o inferInstance (Head_spec _ (hh9.mono hM10) (by omega))) ?_)
  rintro _ M11 _ hM11 ⟨rfl, A11, c11, rfl, hA11⟩
  replace hm := hm.trans hM11
  refine tl_y rfl (y_toStr rfl (.row hA11)) ?_
  refine tl_y rfl (y_eqlStr rfl rfl) ?_
  refine tl_y rfl (y_pickT rfl rfl) ?_
  refine tl_y rfl (y_move (v := .bool _) rfl) ?_
  refine tl_set (s := 87) (u := .bool true) rfl (by first | rfl | decide) ?_
  refine tl_y rfl (y_move (v := .pointer _) rfl) ?_
  refine tl_e rfl (e_call' rfl (State_spec ⟨10, 4, 8, 5, false⟩) ?_)
  rintro _ _ _ _ ⟨rfl, rfl, rfl⟩
  refine tl_y rfl (y_build rfl) ?_
  refine tl_y rfl (y_eqlS rfl rfl eqs81) ?_
  refine tl_y rfl (y_pickT rfl rfl) ?_
  refine tl_y rfl (y_move (v := .bool _) rfl) ?_
  refine tl_set (s := 93) (u := .bool true) rfl (by first | rfl | decide) ?_
  refine tl_y rfl (y_move (v := .int _ _) rfl) ?_
  refine tl_y rfl (y_eql rfl rfl) ?_
  refine tl_y rfl (y_pickT rfl rfl) ?_
  refine tl_y rfl (y_assign (v := .bool _) rfl) ?_
  refine tl_nil (.then_normal ?_)
  refine .sub (F' := [(0, _)]) (.cons rfl .nil) ?_
  refine x_ret (.dropTo L inferInstance (ret1 rfl rfl hm ⟨rfl, rfl⟩))
end
end Go.Proofs.YtbgdjdhbejbhkaaDoor
