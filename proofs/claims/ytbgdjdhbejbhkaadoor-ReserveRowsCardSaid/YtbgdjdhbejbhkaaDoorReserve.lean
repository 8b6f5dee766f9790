/-
Contracts of functions, each proved by a walk through its code.
-/
import Derived.Test.YtbgdjdhbejbhkaaDoorReservePure
import Derived.Test.YtbgdjdhbejbhkaaDoorSlots4
set_option linter.unusedVariables false
set_option linter.unusedSimpArgs false
namespace Go.Proofs.YtbgdjdhbejbhkaaDoor
open Go Go.Eng
section
variable {G : World} {M : Mem} {L R : Own}
theorem may_spec (x : Cn) {A : Option Addr} {n c : Nat} :
    Con Tryd.prog 91 #[.agg (List.toArray (ccells x)), .slice A n c] G M L (fun v M' L' => M = M' ∧ L = L' ∧ v = .bool (mayB x n)) noPanic := by
  refine enter (args := [_, _]) (fn := Tryd.f91) ⟨Tryd.func91, rfl, by kernel_rfl, by kernel_rfl⟩ 35 rfl ?_
  refine x_seq (x_region ?_)
  refine tl_e rfl (e_box rfl (fun b1 => ?_))
  refine tl_y rfl (y_assign rfl) ?_
  refine tl_nil (.then_normal ?_)
  refine x_seq (x_region ?_)
  refine tl_y rfl (y_fieldAddr rfl) ?_
  refine tl_y rfl (y_load rfl rfl (.own inferInstance inferInstance)) ?_
  refine tl_y rfl (y_geq rfl rfl) ?_
  refine tl_y rfl (y_move (v := .bool _) rfl) ?_
  refine tl_cases (s := 8) rfl (fun hk1 => ?_) (fun hk1 => ?_)
  ·
    refine tl_y rfl (y_fieldAddr rfl) ?_
    refine tl_y rfl (y_load rfl rfl (.own inferInstance inferInstance)) ?_
    refine tl_y rfl (y_leq rfl rfl) ?_
    refine tl_y rfl (y_pickT rfl rfl) ?_
    refine tl_y rfl (y_move (v := .bool _) rfl) ?_
    refine tl_cases (s := 13) rfl (fun hk2 => ?_) (fun hk2 => ?_)
    ·
      refine tl_y rfl (y_fieldAddr rfl) ?_
      refine tl_y rfl (y_load rfl rfl (.own inferInstance inferInstance)) ?_
      refine tl_y rfl (y_geq rfl rfl) ?_
      refine tl_y rfl (y_pickT rfl rfl) ?_
      refine tl_y rfl (y_move (v := .bool _) rfl) ?_
      refine tl_cases (s := 18) rfl (fun hk3 => ?_) (fun hk3 => ?_)
      ·
        refine tl_y rfl (y_fieldAddr rfl) ?_
        refine tl_y rfl (y_load rfl rfl (.own inferInstance inferInstance)) ?_
        refine tl_y rfl (y_leq rfl rfl) ?_
        refine tl_y rfl (y_pickT rfl rfl) ?_
        refine tl_y rfl (y_move (v := .bool _) rfl) ?_
        refine tl_cases (s := 23) rfl (fun hk4 => ?_) (fun hk4 => ?_)
        ·
          refine tl_y rfl (y_fieldAddr rfl) ?_
          refine tl_y rfl (y_load rfl rfl (.own inferInstance inferInstance)) ?_
          refine tl_y rfl (y_fieldAddr rfl) ?_
          refine tl_y rfl (y_load rfl rfl (.own inferInstance inferInstance)) ?_
          refine tl_y rfl (y_leq rfl rfl) ?_
          refine tl_y rfl (y_pickT rfl rfl) ?_
          refine tl_y rfl (y_move (v := .bool _) rfl) ?_
          refine tl_cases (s := 30) rfl (fun hk5 => ?_) (fun hk5 => ?_)
          ·
            refine tl_y rfl (y_move (v := .slice _ _ _) rfl) ?_
            refine tl_y rfl (y_len rfl) ?_
            refine tl_y rfl (y_leq rfl rfl) ?_
            refine tl_y rfl (y_pickT rfl rfl) ?_
            refine tl_y rfl (y_assign (v := .bool _) rfl) ?_
            refine tl_nil (.then_normal ?_)
            refine .sub (F' := [(4, _)]) (.cons rfl .nil) ?_
            refine x_ret (.dropTo L inferInstance (ret1 rfl rfl (Le.refl _) ⟨rfl, rfl, by congr 1; rw [mayB, decide_eq_decide]; omega⟩))
          ·
            refine tl_skip rfl ?_
            refine tl_skip rfl ?_
            refine tl_skip rfl ?_
            refine tl_y rfl (y_pickF rfl rfl) ?_
            refine tl_y rfl (y_assign (v := .bool _) rfl) ?_
            refine tl_nil (.then_normal ?_)
            refine .sub (F' := [(4, _)]) (.cons rfl .nil) ?_
            refine x_ret (.dropTo L inferInstance (ret1 rfl rfl (Le.refl _) ⟨rfl, rfl, by congr 1; symm; rw [mayB, decide_eq_false_iff_not]; omega⟩))
        ·
          refine tl_skip rfl ?_
          refine tl_skip rfl ?_
          refine tl_skip rfl ?_
          refine tl_skip rfl ?_
          refine tl_skip rfl ?_
          refine tl_y rfl (y_pickF rfl rfl) ?_
          refine tl_y rfl (y_move (v := .bool _) rfl) ?_
          refine tl_skip rfl ?_
          refine tl_skip rfl ?_
          refine tl_skip rfl ?_
          refine tl_y rfl (y_pickF rfl rfl) ?_
          refine tl_y rfl (y_assign (v := .bool _) rfl) ?_
          refine tl_nil (.then_normal ?_)
          refine .sub (F' := [(4, _)]) (.cons rfl .nil) ?_
          refine x_ret (.dropTo L inferInstance (ret1 rfl rfl (Le.refl _) ⟨rfl, rfl, by congr 1; symm; rw [mayB, decide_eq_false_iff_not]; omega⟩))
      ·
        refine tl_skip rfl ?_
        refine tl_skip rfl ?_
        refine tl_skip rfl ?_
        refine tl_y rfl (y_pickF rfl rfl) ?_
        refine tl_y rfl (y_move (v := .bool _) rfl) ?_
        refine tl_skip rfl ?_
        refine tl_skip rfl ?_
        refine tl_skip rfl ?_
        refine tl_skip rfl ?_
        refine tl_skip rfl ?_
        refine tl_y rfl (y_pickF rfl rfl) ?_
        refine tl_y rfl (y_move (v := .bool _) rfl) ?_
        refine tl_skip rfl ?_
        refine tl_skip rfl ?_
        refine tl_skip rfl ?_
        refine tl_y rfl (y_pickF rfl rfl) ?_
        refine tl_y rfl (y_assign (v := .bool _) rfl) ?_
        refine tl_nil (.then_normal ?_)
        refine .sub (F' := [(4, _)]) (.cons rfl .nil) ?_
        refine x_ret (.dropTo L inferInstance (ret1 rfl rfl (Le.refl _) ⟨rfl, rfl, by congr 1; symm; rw [mayB, decide_eq_false_iff_not]; omega⟩))
    ·
      refine tl_skip rfl ?_
      refine tl_skip rfl ?_
      refine tl_skip rfl ?_
      refine tl_y rfl (y_pickF rfl rfl) ?_
      refine tl_y rfl (y_move (v := .bool _) rfl) ?_
      refine tl_skip rfl ?_
      refine tl_skip rfl ?_
      refine tl_skip rfl ?_
      refine tl_y rfl (y_pickF rfl rfl) ?_
      refine tl_y rfl (y_move (v := .bool _) rfl) ?_
      refine tl_skip rfl ?_
      refine tl_skip rfl ?_
      refine tl_skip rfl ?_
      refine tl_skip rfl ?_
      refine tl_skip rfl ?_
      refine tl_y rfl (y_pickF rfl rfl) ?_
      refine tl_y rfl (y_move (v := .bool _) rfl) ?_
      refine tl_skip rfl ?_
      refine tl_skip rfl ?_
      refine tl_skip rfl ?_
      refine tl_y rfl (y_pickF rfl rfl) ?_
      refine tl_y rfl (y_assign (v := .bool _) rfl) ?_
      refine tl_nil (.then_normal ?_)
      refine .sub (F' := [(4, _)]) (.cons rfl .nil) ?_
      refine x_ret (.dropTo L inferInstance (ret1 rfl rfl (Le.refl _) ⟨rfl, rfl, by congr 1; symm; rw [mayB, decide_eq_false_iff_not]; omega⟩))
  ·
    refine tl_skip rfl ?_
    refine tl_skip rfl ?_
    refine tl_skip rfl ?_
    refine tl_y rfl (y_pickF rfl rfl) ?_
    refine tl_y rfl (y_move (v := .bool _) rfl) ?_
    refine tl_skip rfl ?_
    refine tl_skip rfl ?_
    refine tl_skip rfl ?_
    refine tl_y rfl (y_pickF rfl rfl) ?_
    refine tl_y rfl (y_move (v := .bool _) rfl) ?_
    refine tl_skip rfl ?_
    refine tl_skip rfl ?_
    refine tl_skip rfl ?_
    refine tl_y rfl (y_pickF rfl rfl) ?_
    refine tl_y rfl (y_move (v := .bool _) rfl) ?_
    refine tl_skip rfl ?_
    refine tl_skip rfl ?_
    refine tl_skip rfl ?_
    refine tl_skip rfl ?_
    refine tl_skip rfl ?_
    refine tl_y rfl (y_pickF rfl rfl) ?_
    refine tl_y rfl (y_move (v := .bool _) rfl) ?_
    refine tl_skip rfl ?_
    refine tl_skip rfl ?_
    refine tl_skip rfl ?_
    refine tl_y rfl (y_pickF rfl rfl) ?_
    refine tl_y rfl (y_assign (v := .bool _) rfl) ?_
    refine tl_nil (.then_normal ?_)
    refine .sub (F' := [(4, _)]) (.cons rfl .nil) ?_
    refine x_ret (.dropTo L inferInstance (ret1 rfl rfl (Le.refl _) ⟨rfl, rfl, by congr 1; symm; rw [mayB, decide_eq_false_iff_not]; omega⟩))
theorem Bytes_spec (x : Cn) {A : Option Addr} {n c : Nat} {head : List UInt8} (h : Bytes M A n c head) :
    Con Tryd.prog 47 #[.agg (List.toArray (ccells x)), .slice A n c] G M L (fun v M' L' => L' = L ∧ if mayB x n = true then ∃ A' c', v = .tuple #[.slice A' (25 + n) c', .int .i64 0] ∧ Bytes M' A' (25 + n) c' (bytesC x head) else v = .tuple #[.slice none 0 0, .int .i64 1]) noPanic := by
  have hl := h.size
  have hbl := bytesC_length x head
  refine enter (args := [_, _]) (fn := Tryd.f47) ⟨Tryd.func47, rfl, by kernel_rfl, by kernel_rfl⟩ 27 rfl ?_
  refine x_seq (x_region ?_)
  refine tl_e rfl (e_box rfl (fun b1 => ?_))
  refine tl_y rfl (y_assign rfl) ?_
  refine tl_y rfl (y_assign rfl) ?_
  refine tl_nil (.then_normal ?_)
  refine x_seq (x_seq (x_region ?_))
  refine tl_y rfl (y_loadAgg rfl rfl (.own inferInstance inferInstance)) ?_
  refine tl_y rfl (y_move (v := .slice _ _ _) rfl) ?_
  refine tl_e rfl (e_call' rfl (may_spec x) ?_)
  rintro _ _ _ _ ⟨rfl, rfl, rfl⟩
  refine tl_y rfl (y_not rfl) ?_
  refine tl_nil (.then_normal ?_)
  refine .sub (F' := [(1, _), (2, _), (10, _)]) (.cons rfl (.cons rfl (.cons rfl .nil))) ?_
  refine x_condb rfl (fun hc1 => ?_) (fun hc1 => ?_)
  ·
    refine x_seq (x_region ?_)
    refine tl_y rfl (y_assign rfl) ?_
    refine tl_y rfl (y_assign rfl) ?_
    refine tl_nil (.then_normal ?_)
    refine x_ret (.then_ret (.dropTo L inferInstance (ret2 rfl rfl rfl (Le.refl _) ⟨rfl, by rw [if_neg (by simpa using hc1)]⟩)))
  ·
    have hmay : mayB x n = true := by simpa using hc1
    have hn200 : n ≤ 200 := by rw [mayB, decide_eq_true_eq] at hmay; omega
    refine x_skip (.then_normal ?_)
    refine x_seq (x_region ?_)
    refine tl_y rfl (y_assign rfl) ?_
    refine tl_nil (.then_normal ?_)
    refine x_join (I := fun F D M1 L1 => D = [] ∧ M = M1 ∧ L1 = (b1, .cells (List.toArray (ccells x)) 81 (0, 0)) :: L ∧ F = [(1, .slice A n c), (2, .pointer (some ⟨b1, 0, none⟩)), (6, .int .u8 (((if x.retired then 1 else 0 : UInt8)).toNat : Int))]) ?_ (fun Jj1 => ?_)
    ·
      rintro _ _ M1 L1 ⟨rfl, rfl, rfl, rfl⟩  -- slots [1, 2, 6]
      refine x_seq ?_
      refine x_meet (I := fun F D M1 L1 => D = [] ∧ Le M M1 ∧ ∃ A' c', Bytes M1 A' (25 + n) c' (bytesC x head) ∧ DropTo L1 L ∧ F = [(4, .slice A' (25 + n) c'), (5, .int .i64 0)]) ?_ (fun Jd6 => ?_)
      ·
        rintro _ _ M1 L1 ⟨rfl, hM1, A', c', hA', hdr, rfl⟩  -- slots [4, 5]
        refine x_ret (.dropTo L hdr (ret2 rfl rfl rfl hM1 ⟨rfl, by rw [if_pos hmay]; exact ⟨A', c', rfl, hA'⟩⟩))
      ·
        refine x_draw 16 hmix rfl ?_
        refine to_p 0 rfl (by kernel_rfl) rfl (y_fieldAddr rfl) ?_
        refine to_y 1 rfl (by kernel_rfl) rfl (y_load rfl rfl (.own inferInstance inferInstance)) ?_
        refine to_p 3 rfl (by kernel_rfl) rfl (y_fieldAddr rfl) ?_
        refine to_y 4 rfl (by kernel_rfl) rfl (y_load rfl rfl (.own inferInstance inferInstance)) ?_
        refine to_p 6 rfl (by kernel_rfl) rfl (y_fieldAddr rfl) ?_
        refine to_y 7 rfl (by kernel_rfl) rfl (y_load rfl rfl (.own inferInstance inferInstance)) ?_
        refine to_p 9 rfl (by kernel_rfl) rfl (y_move (v := .int _ _) rfl) ?_
        refine to_p 11 rfl (by kernel_rfl) rfl (y_move (v := .slice _ _ _) rfl) ?_
        refine to_two 2 10 (by kernel_rfl) ?_ ?_
        ·
          refine two_e 2 rfl rfl (e_call' rfl (PutN_spec x.total 8 (by omega)) ?_)
          rintro _ M2 _ hM2 ⟨rfl, A2, c2, rfl, hA2⟩
          refine ⟨⟨hM2, Keeps.mem⟩, ?_⟩
          refine to_two 5 10 (by kernel_rfl) ?_ ?_
          ·
            refine two_e 5 rfl rfl (e_call' rfl (PutN_spec x.batch 8 (by omega)) ?_)
            rintro _ M3 _ hM3 ⟨rfl, A3, c3, rfl, hA3⟩
            refine ⟨⟨hM2.trans hM3, Keeps.mem⟩, ?_⟩
            refine to_two 8 10 (by kernel_rfl) ?_ ?_
            ·
              refine two_e 8 rfl rfl (e_call' rfl (PutN_spec x.reserved 8 (by omega)) ?_)
              rintro _ M4 _ hM4 ⟨rfl, A4, c4, rfl, hA4⟩
              refine ⟨⟨hM2.trans (hM3.trans hM4), Keeps.mem⟩, ?_⟩
              refine to_e 10 rfl (by kernel_rfl) rfl (e_buildSlice rfl (by decide) (fun bA => ?_))
              refine ⟨⟨by first | exact Le.refl _ | exact hM2 | exact hM2.trans hM3 | exact hM2.trans (hM3.trans hM4), Keeps.mem⟩, ?_⟩
              refine to_e 12 rfl (by kernel_rfl) rfl (e_buildSlice rfl (by decide) (fun bB => ?_))
              refine ⟨⟨hM2.trans (hM3.trans hM4), Keeps.mem⟩, ?_⟩
              refine .pub bA inferInstance (fun M5 hM5 hbA => ?_)
              refine .pub bB inferInstance (fun M6 hM6 hbB => ?_)
              have hm : Le M M6 := hM2.trans (hM3.trans (hM4.trans (hM5.trans hM6)))
              have hfl : [putB x.total.toNat 8, putB x.batch.toNat 8, putB x.reserved.toNat 8, [if x.retired then 1 else 0], head].flatten = bytesC x head := by simp [bytesC]
              have hR : Bytes M6 (some ⟨bA, 0, none⟩) 1 1 [if x.retired then 1 else 0] := Row.mono (Row.whole hbA rfl (by omega)) hM6
              refine to_e 13 rfl (by kernel_rfl) rfl (e_call' rfl (Cat_spec (Row.whole hbB rfl (by omega)) (.cons (hA2.mono (hM3.trans (hM4.trans (hM5.trans hM6)))) (.cons (hA3.mono (hM4.trans (hM5.trans hM6))) (.cons (hA4.mono (hM5.trans hM6)) (.cons hR (.cons (h.mono hm) .nil))))) (by rw [hfl, hbl]; omega)) ?_)
              rintro _ M7 _ hM7 ⟨rfl, A7, c7, rfl, hA7⟩
              rw [hfl, hbl, hl] at hA7
              rw [hfl, hbl, hl]
              refine ⟨⟨hm.trans hM7, Keeps.mem⟩, ?_⟩
              refine to_p 14 rfl (by kernel_rfl) rfl (y_assign (v := .slice _ _ _) rfl) ?_
              refine to_p 15 rfl (by kernel_rfl) rfl (y_assign rfl) ?_
              refine to_nil (by kernel_rfl) (.then_normal (.sub (F' := [(4, _), (5, _)]) (.cons rfl (.cons rfl .nil)) (Jd6 _ _ _ _ ?_)))
              exact ⟨rfl, hm.trans hM7, A7, c7, hA7, inferInstance, rfl⟩
            ·
              refine two_e 10 rfl rfl (e_buildSlice rfl (by decide) (fun bA => ?_))
              refine ⟨⟨by first | exact Le.refl _ | exact hM2 | exact hM2.trans hM3 | exact hM2.trans (hM3.trans hM4), Keeps.mem⟩, ?_⟩
              refine to_e 8 rfl (by kernel_rfl) rfl (e_call' rfl (PutN_spec x.reserved 8 (by omega)) ?_)
              rintro _ M4 _ hM4 ⟨rfl, A4, c4, rfl, hA4⟩
              refine ⟨⟨hM2.trans (hM3.trans hM4), Keeps.mem⟩, ?_⟩
              refine to_e 12 rfl (by kernel_rfl) rfl (e_buildSlice rfl (by decide) (fun bB => ?_))
              refine ⟨⟨hM2.trans (hM3.trans hM4), Keeps.mem⟩, ?_⟩
              refine .pub bA inferInstance (fun M5 hM5 hbA => ?_)
              refine .pub bB inferInstance (fun M6 hM6 hbB => ?_)
              have hm : Le M M6 := hM2.trans (hM3.trans (hM4.trans (hM5.trans hM6)))
              have hfl : [putB x.total.toNat 8, putB x.batch.toNat 8, putB x.reserved.toNat 8, [if x.retired then 1 else 0], head].flatten = bytesC x head := by simp [bytesC]
              have hR : Bytes M6 (some ⟨bA, 0, none⟩) 1 1 [if x.retired then 1 else 0] := Row.mono (Row.whole hbA rfl (by omega)) hM6
              refine to_e 13 rfl (by kernel_rfl) rfl (e_call' rfl (Cat_spec (Row.whole hbB rfl (by omega)) (.cons (hA2.mono (hM3.trans (hM4.trans (hM5.trans hM6)))) (.cons (hA3.mono (hM4.trans (hM5.trans hM6))) (.cons (hA4.mono (hM5.trans hM6)) (.cons hR (.cons (h.mono hm) .nil))))) (by rw [hfl, hbl]; omega)) ?_)
              rintro _ M7 _ hM7 ⟨rfl, A7, c7, rfl, hA7⟩
              rw [hfl, hbl, hl] at hA7
              rw [hfl, hbl, hl]
              refine ⟨⟨hm.trans hM7, Keeps.mem⟩, ?_⟩
              refine to_p 14 rfl (by kernel_rfl) rfl (y_assign (v := .slice _ _ _) rfl) ?_
              refine to_p 15 rfl (by kernel_rfl) rfl (y_assign rfl) ?_
              refine to_nil (by kernel_rfl) (.then_normal (.sub (F' := [(4, _), (5, _)]) (.cons rfl (.cons rfl .nil)) (Jd6 _ _ _ _ ?_)))
              exact ⟨rfl, hm.trans hM7, A7, c7, hA7, inferInstance, rfl⟩
          ·
            refine two_e 10 rfl rfl (e_buildSlice rfl (by decide) (fun bA => ?_))
            refine ⟨⟨by first | exact Le.refl _ | exact hM2 | exact hM2.trans hM3 | exact hM2.trans (hM3.trans hM4), Keeps.mem⟩, ?_⟩
            refine to_e 5 rfl (by kernel_rfl) rfl (e_call' rfl (PutN_spec x.batch 8 (by omega)) ?_)
            rintro _ M3 _ hM3 ⟨rfl, A3, c3, rfl, hA3⟩
            refine ⟨⟨hM2.trans hM3, Keeps.mem⟩, ?_⟩
            refine to_e 8 rfl (by kernel_rfl) rfl (e_call' rfl (PutN_spec x.reserved 8 (by omega)) ?_)
            rintro _ M4 _ hM4 ⟨rfl, A4, c4, rfl, hA4⟩
            refine ⟨⟨hM2.trans (hM3.trans hM4), Keeps.mem⟩, ?_⟩
            refine to_e 12 rfl (by kernel_rfl) rfl (e_buildSlice rfl (by decide) (fun bB => ?_))
            refine ⟨⟨hM2.trans (hM3.trans hM4), Keeps.mem⟩, ?_⟩
            refine .pub bA inferInstance (fun M5 hM5 hbA => ?_)
            refine .pub bB inferInstance (fun M6 hM6 hbB => ?_)
            have hm : Le M M6 := hM2.trans (hM3.trans (hM4.trans (hM5.trans hM6)))
            have hfl : [putB x.total.toNat 8, putB x.batch.toNat 8, putB x.reserved.toNat 8, [if x.retired then 1 else 0], head].flatten = bytesC x head := by simp [bytesC]
            have hR : Bytes M6 (some ⟨bA, 0, none⟩) 1 1 [if x.retired then 1 else 0] := Row.mono (Row.whole hbA rfl (by omega)) hM6
            refine to_e 13 rfl (by kernel_rfl) rfl (e_call' rfl (Cat_spec (Row.whole hbB rfl (by omega)) (.cons (hA2.mono (hM3.trans (hM4.trans (hM5.trans hM6)))) (.cons (hA3.mono (hM4.trans (hM5.trans hM6))) (.cons (hA4.mono (hM5.trans hM6)) (.cons hR (.cons (h.mono hm) .nil))))) (by rw [hfl, hbl]; omega)) ?_)
            rintro _ M7 _ hM7 ⟨rfl, A7, c7, rfl, hA7⟩
            rw [hfl, hbl, hl] at hA7
            rw [hfl, hbl, hl]
            refine ⟨⟨hm.trans hM7, Keeps.mem⟩, ?_⟩
            refine to_p 14 rfl (by kernel_rfl) rfl (y_assign (v := .slice _ _ _) rfl) ?_
            refine to_p 15 rfl (by kernel_rfl) rfl (y_assign rfl) ?_
            refine to_nil (by kernel_rfl) (.then_normal (.sub (F' := [(4, _), (5, _)]) (.cons rfl (.cons rfl .nil)) (Jd6 _ _ _ _ ?_)))
            exact ⟨rfl, hm.trans hM7, A7, c7, hA7, inferInstance, rfl⟩
        ·
          refine two_e 10 rfl rfl (e_buildSlice rfl (by decide) (fun bA => ?_))
          refine ⟨⟨by first | exact Le.refl _ | exact hM2 | exact hM2.trans hM3 | exact hM2.trans (hM3.trans hM4), Keeps.mem⟩, ?_⟩
          refine to_e 2 rfl (by kernel_rfl) rfl (e_call' rfl (PutN_spec x.total 8 (by omega)) ?_)
          rintro _ M2 _ hM2 ⟨rfl, A2, c2, rfl, hA2⟩
          refine ⟨⟨hM2, Keeps.mem⟩, ?_⟩
          refine to_e 5 rfl (by kernel_rfl) rfl (e_call' rfl (PutN_spec x.batch 8 (by omega)) ?_)
          rintro _ M3 _ hM3 ⟨rfl, A3, c3, rfl, hA3⟩
          refine ⟨⟨hM2.trans hM3, Keeps.mem⟩, ?_⟩
          refine to_e 8 rfl (by kernel_rfl) rfl (e_call' rfl (PutN_spec x.reserved 8 (by omega)) ?_)
          rintro _ M4 _ hM4 ⟨rfl, A4, c4, rfl, hA4⟩
          refine ⟨⟨hM2.trans (hM3.trans hM4), Keeps.mem⟩, ?_⟩
          refine to_e 12 rfl (by kernel_rfl) rfl (e_buildSlice rfl (by decide) (fun bB => ?_))
          refine ⟨⟨hM2.trans (hM3.trans hM4), Keeps.mem⟩, ?_⟩
          refine .pub bA inferInstance (fun M5 hM5 hbA => ?_)
          refine .pub bB inferInstance (fun M6 hM6 hbB => ?_)
          have hm : Le M M6 := hM2.trans (hM3.trans (hM4.trans (hM5.trans hM6)))
          have hfl : [putB x.total.toNat 8, putB x.batch.toNat 8, putB x.reserved.toNat 8, [if x.retired then 1 else 0], head].flatten = bytesC x head := by simp [bytesC]
          have hR : Bytes M6 (some ⟨bA, 0, none⟩) 1 1 [if x.retired then 1 else 0] := Row.mono (Row.whole hbA rfl (by omega)) hM6
          refine to_e 13 rfl (by kernel_rfl) rfl (e_call' rfl (Cat_spec (Row.whole hbB rfl (by omega)) (.cons (hA2.mono (hM3.trans (hM4.trans (hM5.trans hM6)))) (.cons (hA3.mono (hM4.trans (hM5.trans hM6))) (.cons (hA4.mono (hM5.trans hM6)) (.cons hR (.cons (h.mono hm) .nil))))) (by rw [hfl, hbl]; omega)) ?_)
          rintro _ M7 _ hM7 ⟨rfl, A7, c7, rfl, hA7⟩
          rw [hfl, hbl, hl] at hA7
          rw [hfl, hbl, hl]
          refine ⟨⟨hm.trans hM7, Keeps.mem⟩, ?_⟩
          refine to_p 14 rfl (by kernel_rfl) rfl (y_assign (v := .slice _ _ _) rfl) ?_
          refine to_p 15 rfl (by kernel_rfl) rfl (y_assign rfl) ?_
          refine to_nil (by kernel_rfl) (.then_normal (.sub (F' := [(4, _), (5, _)]) (.cons rfl (.cons rfl .nil)) (Jd6 _ _ _ _ ?_)))
          exact ⟨rfl, hm.trans hM7, A7, c7, hA7, inferInstance, rfl⟩
    ·
      refine x_seq (x_region ?_)
      refine tl_y rfl (y_fieldAddr rfl) ?_
      refine tl_y rfl (y_load rfl rfl (.own inferInstance inferInstance)) ?_
      refine tl_nil (.then_normal ?_)
      refine x_condb rfl (fun hc2 => ?_) (fun hc2 => ?_)
      ·
        refine x_region ?_
        refine tl_y rfl (y_assign rfl) ?_
        refine tl_nil (.then_normal (.sub (F' := [(1, _), (2, _), (6, _)]) (.cons rfl (.cons rfl (.cons rfl .nil))) (Jj1 _ _ _ _ ?_)))
        exact ⟨rfl, rfl, rfl, by rw [hc2]; rfl⟩
      ·
        refine x_skip (.then_normal (.sub (F' := [(1, _), (2, _), (6, _)]) (.cons rfl (.cons rfl (.cons rfl .nil))) (Jj1 _ _ _ _ ?_)))
        exact ⟨rfl, rfl, rfl, by rw [hc2]; rfl⟩
end
end Go.Proofs.YtbgdjdhbejbhkaaDoor
