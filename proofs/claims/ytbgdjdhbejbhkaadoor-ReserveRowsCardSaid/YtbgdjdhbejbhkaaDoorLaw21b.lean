/-
Contracts of functions, each proved by a walk through its code.
-/
import Derived.Test.YtbgdjdhbejbhkaaDoorLaw21
set_option linter.unusedVariables false
set_option linter.unusedSimpArgs false
set_option linter.constructorNameAsVariable false
namespace Go.Proofs.YtbgdjdhbejbhkaaDoor
open Go Go.Eng
section
variable {G : World} {M : Mem} {L R : Own}
/-- A counter as bytes, in one shape. -/
theorem Bytes2_spec (x : Cn) {A : Option Addr} {n c : Nat} {head : List UInt8} (h : Bytes M A n c head) :
    Con Tryd.prog 47 #[.agg (List.toArray (ccells x)), .slice A n c] G M L (fun v M' L' => L' = L ∧ ∃ A' n' c' w, v = .tuple #[.slice A' n' c', .int .i64 (if mayB x n = true then 0 else 1)] ∧ Bytes M' A' n' c' w ∧ w = (if mayB x n = true then bytesC x head else [])) noPanic :=
  (Bytes_spec x h).post fun v M' L' hM ⟨hL, hv⟩ => by
    refine ⟨hL, ?_⟩
    by_cases hm : mayB x n = true
    · rw [if_pos hm] at hv ⊢
      obtain ⟨A', c', rfl, hb⟩ := hv
      exact ⟨A', _, c', _, rfl, hb, by rw [if_pos hm]⟩
    · rw [if_neg hm] at hv ⊢
      exact ⟨none, 0, 0, [], hv, Row.nil _ _, by rw [if_neg hm]⟩
theorem bytesC_inj (x y : Cn) (h g : List UInt8) : bytesC x h = bytesC y g ↔ ((x.total.toNat : Int) = y.total.toNat ∧ ((x.batch.toNat : Int) = y.batch.toNat ∧ ((x.reserved.toNat : Int) = y.reserved.toNat ∧ ((0 : Int) = 0 ∧ (x.retired = y.retired ∧ True))))) ∧ h = g := by
  constructor
  · intro e
    have e1 := congrArg xOf e
    have e2 := congrArg (List.drop 25) e
    rw [xOf_bytes, xOf_bytes] at e1
    rw [drop25_bytes, drop25_bytes] at e2
    simp only [Cn.mk.injEq] at e1
    obtain ⟨a, b, c, _, d⟩ := e1
    exact ⟨⟨by rw [a], by rw [b], by rw [c], rfl, d, trivial⟩, e2⟩
  · rintro ⟨⟨a, b, c, _, d, _⟩, rfl⟩
    rw [bytesC, bytesC, d, show x.total.toNat = y.total.toNat by omega, show x.batch.toNat = y.batch.toNat by omega, show x.reserved.toNat = y.reserved.toNat by omega]
theorem ReserveRows_spec (hg : ShaG M) (x y : Cn) {A B : Option Addr} {n c m d : Nat} {h g : List UInt8} (hh : Bytes M A n c h) (hgg : Bytes M B m d g) :
    Con Tryd.prog 11 #[.agg (List.toArray (ccells x)), .agg (List.toArray (ccells y)), .agg #[.slice A n c, .slice B m d]] G M L (fun v M' L' => v = .bool true) noPanic := by
  refine enter (args := [_, _, _]) (fn := Tryd.f11) ⟨Tryd.func11, rfl, by kernel_rfl, by kernel_rfl⟩ 68 rfl ?_
  refine x_seq (x_region ?_)
  refine tl_e rfl (e_box rfl (fun b1 => ?_))
  refine tl_e rfl (e_box rfl (fun b2 => ?_))
  refine tl_e rfl (e_box rfl (fun b3 => ?_))
  refine tl_y rfl (y_assign rfl) ?_
  refine tl_nil (.then_normal ?_)
  refine .sub (F' := [(3, _), (4, _), (5, _)]) (.cons rfl (.cons rfl (.cons rfl .nil))) ?_
  refine x_seq (x_seq (x_region ?_))
  refine tl_e rfl (e_call' rfl (awake21_spec hg) ?_)
  rintro _ M1 _ hM1 ⟨rfl, rfl⟩
  refine tl_y rfl (y_not rfl) ?_
  refine tl_nil (.then_normal ?_)
  refine x_false rfl (rfl) ?_
  refine x_skip (.then_normal ?_)
  refine x_seq (x_region ?_)
  refine tl_y rfl (y_loadAgg rfl rfl (.own inferInstance inferInstance)) ?_
  refine tl_y rfl (y_indexArrK 0 rfl rfl (by omega)) ?_
  refine tl_y rfl (y_load rfl rfl (.own inferInstance inferInstance)) ?_
  refine tl_e rfl (e_call' rfl (Bytes2_spec x (hh.mono hM1)) ?_)
  rintro _ M2 _ hM2 ⟨rfl, A2, n2, c2, w, rfl, hw, ew⟩
  refine tl_y rfl (y_move (v := .tuple _) rfl) ?_
  refine tl_y rfl (y_extract rfl) ?_
  refine tl_y rfl (y_extract rfl) ?_
  refine tl_y rfl (y_assign (v := .slice _ _ _) rfl) ?_
  refine tl_y rfl (y_assign (v := .int _ _) rfl) ?_
  refine tl_nil (.then_normal ?_)
  refine .sub (F' := [(3, _), (4, _), (5, _), (7, _), (8, _)]) (.cons rfl (.cons rfl (.cons rfl (.cons rfl (.cons rfl .nil))))) ?_
  refine x_seq (x_region ?_)
  refine tl_y rfl (y_loadAgg rfl rfl (.own inferInstance inferInstance)) ?_
  refine tl_y rfl (y_indexArrK 1 rfl rfl (by omega)) ?_
  refine tl_y rfl (y_load rfl rfl (.own inferInstance inferInstance)) ?_
  refine tl_e rfl (e_call' rfl (Bytes2_spec y (hgg.mono (hM1.trans hM2))) ?_)
  rintro _ M3 _ hM3 ⟨rfl, A3, n3, c3, u, rfl, hu, eu⟩
  have hLe : Le M M3 := hM1.trans (hM2.trans hM3)
  have hz : ∀ b : Bool, ¬ (if b = true then (0 : Int) else 1) = 0 → decide ((if b = true then (0 : Int) else 1) = 1) = true := fun b => by cases b <;> simp
  refine tl_y rfl (y_move (v := .tuple _) rfl) ?_
  refine tl_y rfl (y_extract rfl) ?_
  refine tl_y rfl (y_extract rfl) ?_
  refine tl_y rfl (y_assign (v := .slice _ _ _) rfl) ?_
  refine tl_y rfl (y_assign (v := .int _ _) rfl) ?_
  refine tl_nil (.then_normal ?_)
  refine .sub (F' := [(3, _), (4, _), (5, _), (7, _), (8, _), (9, _), (10, _)]) (.cons rfl (.cons rfl (.cons rfl (.cons rfl (.cons rfl (.cons rfl (.cons rfl .nil))))))) ?_
  refine x_seq (x_seq (x_region ?_))
  refine tl_y rfl (y_move (v := .int _ _) rfl) ?_
  refine tl_y rfl (y_neq rfl rfl) ?_
  refine tl_y rfl (y_move (v := .bool _) rfl) ?_
  refine tl_cases (s := 31) rfl (fun hk1 => ?_) (fun hk1 => ?_)
  ·
    refine tl_skip rfl ?_
    refine tl_skip rfl ?_
    refine tl_y rfl (y_pickT rfl rfl) ?_
    refine tl_nil (.then_normal ?_)
    refine .sub (F' := [(3, _), (4, _), (5, _), (7, _), (8, _), (9, _), (34, _)]) (.cons rfl (.cons rfl (.cons rfl (.cons rfl (.cons rfl (.cons rfl (.cons rfl .nil))))))) ?_
    refine x_true rfl rfl ?_
    refine x_seq (x_region ?_)
    refine tl_y rfl (y_move (v := .int _ _) rfl) ?_
    refine tl_y rfl (y_eql rfl rfl) ?_
    refine tl_y rfl (y_move (v := .bool _) rfl) ?_
    refine tl_cases (s := 37) rfl (fun hk2 => ?_) (fun hk2 => ?_)
    ·
      refine tl_skip rfl ?_
      refine tl_skip rfl ?_
      refine tl_y rfl (y_pickT rfl rfl) ?_
      refine tl_y rfl (y_assign (v := .bool _) rfl) ?_
      refine tl_nil (.then_normal ?_)
      refine .sub (F' := [(6, _)]) (.cons rfl .nil) ?_
      refine x_ret (.then_ret (ret1 rfl rfl hLe rfl))
    ·
      refine tl_y rfl (y_move (v := .int _ _) rfl) ?_
      refine tl_y rfl (y_eql rfl rfl) ?_
      refine tl_y rfl (y_pickF rfl rfl) ?_
      refine tl_y rfl (y_assign (v := .bool _) rfl) ?_
      refine tl_nil (.then_normal ?_)
      refine .sub (F' := [(6, _)]) (.cons rfl .nil) ?_
      refine x_ret (.then_ret (ret1 rfl rfl hLe (by rw [hz _ (by assumption)])))
  ·
    refine tl_y rfl (y_move (v := .int _ _) rfl) ?_
    refine tl_y rfl (y_neq rfl rfl) ?_
    refine tl_y rfl (y_pickF rfl rfl) ?_
    refine tl_nil (.then_normal ?_)
    refine .sub (F' := [(3, _), (4, _), (5, _), (7, _), (8, _), (9, _), (34, _)]) (.cons rfl (.cons rfl (.cons rfl (.cons rfl (.cons rfl (.cons rfl (.cons rfl .nil))))))) ?_
    refine x_cond rfl (fun hc2 => ?_) (fun hc2 => ?_)
    ·
      refine x_seq (x_region ?_)
      refine tl_y rfl (y_move (v := .int _ _) rfl) ?_
      refine tl_y rfl (y_eql rfl rfl) ?_
      refine tl_y rfl (y_move (v := .bool _) rfl) ?_
      refine tl_cases (s := 37) rfl (fun hk3 => ?_) (fun hk3 => ?_)
      ·
        refine tl_skip rfl ?_
        refine tl_skip rfl ?_
        refine tl_y rfl (y_pickT rfl rfl) ?_
        refine tl_y rfl (y_assign (v := .bool _) rfl) ?_
        refine tl_nil (.then_normal ?_)
        refine .sub (F' := [(6, _)]) (.cons rfl .nil) ?_
        refine x_ret (.then_ret (ret1 rfl rfl hLe rfl))
      ·
        refine tl_y rfl (y_move (v := .int _ _) rfl) ?_
        refine tl_y rfl (y_eql rfl rfl) ?_
        refine tl_y rfl (y_pickF rfl rfl) ?_
        refine tl_y rfl (y_assign (v := .bool _) rfl) ?_
        refine tl_nil (.then_normal ?_)
        refine .sub (F' := [(6, _)]) (.cons rfl .nil) ?_
        refine x_ret (.then_ret (ret1 rfl rfl hLe (by rw [hz _ (by assumption)])))
    ·
      have hmx : mayB x n = true := by
        have h0 : ¬ (if mayB x n = true then (0 : Int) else 1) ≠ 0 := by simpa using hk1
        cases hb : mayB x n with
        | true => rfl
        | false => rw [hb] at h0; exact absurd (by decide) h0
      have hmy : mayB y m = true := by
        have h0 : ¬ (if mayB y m = true then (0 : Int) else 1) ≠ 0 := by simpa using hc2
        cases hb : mayB y m with
        | true => rfl
        | false => rw [hb] at h0; exact absurd (by decide) h0
      have hn : n ≤ 200 := by have h := hmx; rw [mayB, decide_eq_true_eq] at h; omega
      rw [if_pos hmx] at ew
      rw [if_pos hmy] at eu
      have hn2 : n2 = 25 + n := by have := hw.size; rw [ew, bytesC_length] at this; have := hh.size; omega
      subst hn2
      refine x_skip (.then_normal ?_)
      refine x_seq (x_region ?_)
      refine tl_y rfl (y_loadAgg rfl rfl (.own inferInstance inferInstance)) ?_
      refine tl_e rfl (e_alloc (fun b4 => ?_))
      refine tl_e rfl (e_store rfl rfl (by rfl) (by rfl) inferInstance inferInstance inferInstance ?_)
      refine tl_nil (.then_normal ?_)
      refine .sub (F' := [(4, _), (5, _), (7, _), (9, _), (11, _)]) (.cons rfl (.cons rfl (.cons rfl (.cons rfl (.cons rfl .nil))))) ?_
      refine x_seq (x_region ?_)
      refine tl_y rfl (y_loadAgg rfl rfl (.own inferInstance inferInstance)) ?_
      refine tl_e rfl (e_alloc (fun b5 => ?_))
      refine tl_e rfl (e_store rfl rfl (by rfl) (by rfl) inferInstance inferInstance inferInstance ?_)
      refine tl_nil (.then_normal ?_)
      refine x_seq (x_region ?_)
      refine tl_y rfl (y_fieldAddr rfl) ?_
      refine tl_e rfl (e_store rfl rfl (by rfl) (by rfl) inferInstance inferInstance inferInstance ?_)
      refine tl_nil (.then_normal ?_)
      refine x_seq (x_region ?_)
      refine tl_y rfl (y_fieldAddr rfl) ?_
      refine tl_e rfl (e_store rfl rfl (by rfl) (by rfl) inferInstance inferInstance inferInstance ?_)
      refine tl_nil (.then_normal ?_)
      refine .sub (F' := [(5, _), (7, _), (9, _), (11, _), (12, _)]) (.cons rfl (.cons rfl (.cons rfl (.cons rfl (.cons rfl .nil))))) ?_
      refine x_seq ?_
      refine x_draw 24 hmix rfl ?_
      refine to_p 0 rfl (by kernel_rfl) rfl (y_move (v := .slice _ _ _) rfl) ?_
      refine to_p 1 rfl (by kernel_rfl) rfl (y_move (v := .slice _ _ _) rfl) ?_
      refine to_y 3 rfl (by kernel_rfl) rfl (y_loadAgg rfl rfl (.own inferInstance inferInstance)) ?_
      refine to_y 4 rfl (by kernel_rfl) rfl (y_loadAgg rfl rfl (.own inferInstance inferInstance)) ?_
      refine to_p 5 rfl (by kernel_rfl) rfl (y_eqlS rfl rfl eqs81) ?_
      refine to_e 2 rfl (by kernel_rfl) rfl (e_call' rfl (same_spec (hw.mono hM3) hu) ?_)
      rintro _ _ _ _ ⟨rfl, rfl, rfl⟩
      refine ⟨⟨(by first | exact Le.refl _ | assumption), Keeps.mem⟩, ?_⟩
      refine to_p 6 rfl (by kernel_rfl) rfl (y_move (v := .bool _) rfl) ?_
      refine to_cases (s := 51) rfl (fun hk4 => ?_) (fun hk4 => ?_)
      ·
        refine to_p 7 rfl (by kernel_rfl) rfl (y_indexArrK 0 rfl rfl (by omega)) ?_
        refine to_y 8 rfl (by kernel_rfl) rfl (y_load rfl rfl (.own inferInstance inferInstance)) ?_
        refine to_p 9 rfl (by kernel_rfl) rfl (y_indexArrK 1 rfl rfl (by omega)) ?_
        refine to_y 10 rfl (by kernel_rfl) rfl (y_load rfl rfl (.own inferInstance inferInstance)) ?_
        refine to_e 11 rfl (by kernel_rfl) rfl (e_call' rfl (same_spec (hh.mono hLe) (hgg.mono hLe)) ?_)
        rintro _ _ _ _ ⟨rfl, rfl, rfl⟩
        refine ⟨⟨(by first | exact Le.refl _ | assumption), Keeps.mem⟩, ?_⟩
        refine to_p 12 rfl (by kernel_rfl) rfl (y_pickT rfl rfl) ?_
        refine to_p 13 rfl (by kernel_rfl) rfl (y_eqlBool rfl rfl) ?_
        refine to_p 14 rfl (by kernel_rfl) rfl (y_move (v := .bool _) rfl) ?_
        refine to_cases (s := 59) rfl (fun hk5 => ?_) (fun hk5 => ?_)
        ·
          refine to_p 15 rfl (by kernel_rfl) rfl (y_move (v := .slice _ _ _) rfl) ?_
          refine to_p 16 rfl (by kernel_rfl) rfl (y_len rfl) ?_
          refine to_p 17 rfl (by kernel_rfl) rfl (y_indexArrK 0 rfl rfl (by omega)) ?_
          refine to_y 18 rfl (by kernel_rfl) rfl (y_load rfl rfl (.own inferInstance inferInstance)) ?_
          refine to_p 19 rfl (by kernel_rfl) rfl (y_len rfl) ?_
          refine to_p 20 rfl (by kernel_rfl) rfl (y_addI rfl rfl (by omega)) ?_
          refine to_p 21 rfl (by kernel_rfl) rfl (y_eql rfl rfl) ?_
          refine to_p 22 rfl (by kernel_rfl) rfl (y_pickT rfl rfl) ?_
          refine to_p 23 rfl (by kernel_rfl) rfl (y_assign (v := .bool _) rfl) ?_
          refine to_nil (by kernel_rfl) (.then_normal ?_)
          refine .sub (F' := [(6, _)]) (.cons rfl .nil) ?_
          refine x_ret (ret1 rfl rfl hLe (by rw [decide_eq_true (by omega)]))
        ·
          refine to_skip 15 rfl (by kernel_rfl) rfl ?_
          refine to_skip 16 rfl (by kernel_rfl) rfl ?_
          refine to_skip 17 rfl (by kernel_rfl) rfl ?_
          refine to_skip 18 rfl (by kernel_rfl) rfl ?_
          refine to_skip 19 rfl (by kernel_rfl) rfl ?_
          refine to_skip 20 rfl (by kernel_rfl) rfl ?_
          refine to_skip 21 rfl (by kernel_rfl) rfl ?_
          refine to_p 22 rfl (by kernel_rfl) rfl (y_pickF rfl rfl) ?_
          refine to_p 23 rfl (by kernel_rfl) rfl (y_assign (v := .bool _) rfl) ?_
          refine to_nil (by kernel_rfl) (.then_normal ?_)
          refine .sub (F' := [(6, _)]) (.cons rfl .nil) ?_
          refine x_ret (ret1 rfl rfl hLe (by refine absurd ?_ hk5; rw [ew, eu, decide_eq_decide, bytesC_inj]; exact ⟨fun h => h.2, fun h => ⟨hk4, h⟩⟩))
      ·
        refine to_skip 7 rfl (by kernel_rfl) rfl ?_
        refine to_skip 8 rfl (by kernel_rfl) rfl ?_
        refine to_skip 9 rfl (by kernel_rfl) rfl ?_
        refine to_skip 10 rfl (by kernel_rfl) rfl ?_
        refine to_skip 11 rfl (by kernel_rfl) rfl ?_
        refine to_p 12 rfl (by kernel_rfl) rfl (y_pickF rfl rfl) ?_
        refine to_p 13 rfl (by kernel_rfl) rfl (y_eqlBool rfl rfl) ?_
        refine to_p 14 rfl (by kernel_rfl) rfl (y_move (v := .bool _) rfl) ?_
        refine to_cases (s := 59) rfl (fun hk6 => ?_) (fun hk6 => ?_)
        ·
          refine to_p 15 rfl (by kernel_rfl) rfl (y_move (v := .slice _ _ _) rfl) ?_
          refine to_p 16 rfl (by kernel_rfl) rfl (y_len rfl) ?_
          refine to_p 17 rfl (by kernel_rfl) rfl (y_indexArrK 0 rfl rfl (by omega)) ?_
          refine to_y 18 rfl (by kernel_rfl) rfl (y_load rfl rfl (.own inferInstance inferInstance)) ?_
          refine to_p 19 rfl (by kernel_rfl) rfl (y_len rfl) ?_
          refine to_p 20 rfl (by kernel_rfl) rfl (y_addI rfl rfl (by omega)) ?_
          refine to_p 21 rfl (by kernel_rfl) rfl (y_eql rfl rfl) ?_
          refine to_p 22 rfl (by kernel_rfl) rfl (y_pickT rfl rfl) ?_
          refine to_p 23 rfl (by kernel_rfl) rfl (y_assign (v := .bool _) rfl) ?_
          refine to_nil (by kernel_rfl) (.then_normal ?_)
          refine .sub (F' := [(6, _)]) (.cons rfl .nil) ?_
          refine x_ret (ret1 rfl rfl hLe (by rw [decide_eq_true (by omega)]))
        ·
          refine to_skip 15 rfl (by kernel_rfl) rfl ?_
          refine to_skip 16 rfl (by kernel_rfl) rfl ?_
          refine to_skip 17 rfl (by kernel_rfl) rfl ?_
          refine to_skip 18 rfl (by kernel_rfl) rfl ?_
          refine to_skip 19 rfl (by kernel_rfl) rfl ?_
          refine to_skip 20 rfl (by kernel_rfl) rfl ?_
          refine to_skip 21 rfl (by kernel_rfl) rfl ?_
          refine to_p 22 rfl (by kernel_rfl) rfl (y_pickF rfl rfl) ?_
          refine to_p 23 rfl (by kernel_rfl) rfl (y_assign (v := .bool _) rfl) ?_
          refine to_nil (by kernel_rfl) (.then_normal ?_)
          refine .sub (F' := [(6, _)]) (.cons rfl .nil) ?_
          refine x_ret (ret1 rfl rfl hLe (by refine absurd ?_ hk6; rw [ew, eu, decide_eq_false_iff_not, bytesC_inj]; exact fun h => hk4 h.1))
end
end Go.Proofs.YtbgdjdhbejbhkaaDoor
