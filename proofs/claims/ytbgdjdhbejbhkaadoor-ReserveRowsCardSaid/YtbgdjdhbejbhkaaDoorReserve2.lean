/-
Contracts of functions, each proved by a walk through its code.
-/
import Derived.Test.YtbgdjdhbejbhkaaDoorReserve
set_option linter.unusedVariables false
set_option linter.unusedSimpArgs false
namespace Go.Proofs.YtbgdjdhbejbhkaaDoor
open Go Go.Eng
section
variable {G : World} {M : Mem} {L R : Own}
abbrev bboxL (x0 : Nat) (A : Option Addr) (n c : Nat) (R : Own) : Own := (x0, .cells (List.toArray [.slice A n c]) 45 (0, 0)) :: R
theorem Read1_spec {x0 : Nat} {A : Option Addr} {n c : Nat} {b : List UInt8} (h : Bytes M A n c b) (hn : 25 ≤ n) (i : Nat) (hi : i ≤ 2) :
    Con Tryd.prog 97 #[.int .i64 (i : Int), .pointer (some ⟨x0, 0, none⟩)] G M (bboxL x0 A n c R) (fun v M' L' => M = M' ∧ L' = bboxL x0 A n c R ∧ v = .int .u64 ((UInt64.ofNat (getB ((b.drop (8 * i)).take 8))).toNat : Int)) noPanic := by
  have hc := h.le
  have hs := h.size
  refine enter (args := [_, _]) (fn := Tryd.f97) ⟨Tryd.func97, rfl, by kernel_rfl, by kernel_rfl⟩ 18 rfl ?_
  refine x_seq (x_region ?_)
  refine tl_y rfl (y_assign rfl) ?_
  refine tl_nil (.then_normal ?_)
  refine x_seq (x_region ?_)
  refine tl_y rfl (y_load rfl rfl (.own inferInstance inferInstance)) ?_
  refine tl_y rfl (y_move (v := .int _ _) rfl) ?_
  refine tl_y rfl (y_mulI rfl rfl (by omega)) ?_
  refine tl_y rfl (y_move (v := .int _ _) rfl) ?_
  refine tl_y rfl (y_addI rfl rfl (by omega)) ?_
  refine tl_y rfl (y_mulI rfl rfl (by omega)) ?_
  refine tl_y rfl (y_sliceLH rfl rfl rfl (by omega) (by omega)) ?_
  rw [show ((i : Int) * 8).toNat = 8 * i by omega, show (((i : Int) + 1) * 8).toNat = 8 * i + 8 by omega]
  have hsub := Bytes.sub h (8 * i) (8 * i + 8) (by omega) (by omega)
  rw [show 8 * i + 8 - 8 * i = 8 by omega] at hsub ⊢
  refine tl_e rfl (e_call' rfl (Get8_spec (n := 8) hsub (by omega)) ?_)
  rintro _ _ _ _ ⟨rfl, rfl, x, hx, rfl⟩
  refine tl_y rfl (y_move (v := .tuple _) rfl) ?_
  refine tl_y rfl (y_extract rfl) ?_
  refine tl_y rfl (y_extract rfl) ?_
  refine tl_y rfl (y_assign (v := .int _ _) rfl) ?_
  refine tl_y rfl (y_assign (v := .bool _) rfl) ?_
  refine tl_nil (.then_normal ?_)
  refine .sub (F' := [(4, _)]) (.cons rfl .nil) ?_
  refine x_seq (x_region ?_)
  refine tl_y rfl (y_move (v := .int _ _) rfl) ?_
  refine tl_y rfl (y_assign (v := .int _ _) rfl) ?_
  refine tl_nil (.then_normal ?_)
  refine x_ret (ret1 rfl rfl (Le.refl _) ⟨rfl, rfl, by rw [← hx]; simp⟩)
theorem Read_spec' {A : Option Addr} {n c : Nat} {b : List UInt8} (h : Bytes M A n c b) (hn : n ≤ 140737488355328) :
    Con Tryd.prog 49 #[.slice A n c] G M L (fun v M' L' => L' = L ∧ ∃ A' n' c', v = .tuple #[.agg (List.toArray (ccells (readC b).1.1)), .slice A' n' c', .int .i64 (readC b).2] ∧ Bytes M' A' n' c' (readC b).1.2) noPanic := by
  have hc := h.le
  have hs := h.size
  have hX : List.toArray (ccells (xOf b)) = #[u64v (UInt64.ofNat (getB (List.take 8 (List.drop (8 * 0) b)))), u64v (UInt64.ofNat (getB (List.take 8 (List.drop (8 * 1) b)))), u64v (UInt64.ofNat (getB (List.take 8 (List.drop (8 * 2) b)))), u64v (UInt64.ofNat (getB (List.take 8 (List.drop (8 * 2) b)))), .bool (decide (((b.getD 24 0).toNat : Int) = 1))] := by
    have e : (b.getD 24 0 == 1) = decide (((b.getD 24 0).toNat : Int) = 1) := by
      rw [Bool.eq_iff_iff, beq_iff_eq, decide_eq_true_eq, ← UInt8.toNat_inj]
      show _ = 1 ↔ _
      omega
    rw [← e]; rfl
  have hz : ccells zeroC = [.int .u64 0, .int .u64 0, .int .u64 0, .int .u64 0, .bool false] := rfl
  refine enter (args := [_]) (fn := Tryd.f49) ⟨Tryd.func49, rfl, by kernel_rfl, by kernel_rfl⟩ 41 rfl ?_
  refine x_seq (x_region ?_)
  refine tl_e rfl (e_box rfl (fun b1 => ?_))
  refine tl_e rfl (e_alloc (fun b2 => ?_))
  refine tl_y rfl (y_assign rfl) ?_
  refine tl_y rfl (y_assign rfl) ?_
  refine tl_nil (.then_normal ?_)
  refine x_seq (x_seq (x_region ?_))
  refine tl_y rfl (y_load rfl rfl (.own inferInstance inferInstance)) ?_
  refine tl_y rfl (y_len rfl) ?_
  refine tl_y rfl (y_lss rfl rfl) ?_
  refine tl_nil (.then_normal ?_)
  refine .sub (F' := [(1, _), (2, _), (9, _)]) (.cons rfl (.cons rfl (.cons rfl .nil))) ?_
  refine x_cond rfl (fun hc1 => ?_) (fun hc1 => ?_)
  ·
    refine x_seq (x_region ?_)
    refine tl_y rfl (y_build rfl) ?_
    refine tl_e rfl (e_store rfl rfl (by rfl) (by rfl) inferInstance inferInstance inferInstance ?_)
    refine tl_y rfl (y_assign rfl) ?_
    refine tl_y rfl (y_assign rfl) ?_
    refine tl_nil (.then_normal ?_)
    refine x_ret (.then_ret (retRV (L' := L) (rv3 rfl (rc_cellAgg (by rfl) rfl (.own inferInstance inferInstance)) (rc_tmp rfl) (rc_tmp rfl)) inferInstance (Le.refl _) (by
  rw [show readC b = ((zeroC, []), 2) by rw [readC, if_pos (by omega)]]
  exact ⟨rfl, none, 0, 0, rfl, Row.nil _ _⟩)))
  ·
    have hn25 : 25 ≤ n := by omega
    obtain ⟨g, o, hAe, hby⟩ := h.byte (by omega)
    have h24 := fun L => hby L 24 (by omega)
    have hbx := (b.getD 24 0).toNat_lt
    refine x_skip (.then_normal ?_)
    refine x_seq (x_region ?_)
    refine tl_y rfl (y_makeFunc rfl rfl) ?_
    refine tl_y rfl (y_assign (v := .func _ _ _) rfl) ?_
    refine tl_nil (.then_normal ?_)
    refine x_seq ?_
    refine x_meet (I := fun F D M1 L1 => D = [] ∧ M = M1 ∧ ∃ x3, DropTo L1 ((x3, .cells (List.toArray (ccells (xOf b))) 81 (0, 0)) :: bboxL b1 A n c ((b2, .cells (List.toArray [.int .u64 0, .int .u64 0, .int .u64 0, .int .u64 0, .bool false]) 81 (0, 0)) :: L)) ∧ F = [(1, .pointer (some ⟨b1, 0, none⟩)), (2, .pointer (some ⟨b2, 0, none⟩)), (6, .pointer (some ⟨x3, 0, none⟩))]) ?_ (fun Jd4 => ?_)
    ·
      rintro _ _ M1 L1 ⟨rfl, rfl, x3, hdr, rfl⟩  -- slots [1, 2, 6]
      refine .dropTo _ hdr ?_
      refine x_seq (x_seq ?_)
      refine x_draw 11 hmix rfl ?_
      refine to_y 0 rfl (by kernel_rfl) rfl (y_load rfl rfl (.own inferInstance inferInstance)) ?_
      refine to_p 1 rfl (by kernel_rfl) rfl (y_indexAddr (b := g) (o := o) (by rw [hAe]; rfl) rfl (by omega)) ?_
      refine to_y 2 rfl (by kernel_rfl) rfl (y_load rfl rfl (.at_ (h24 _) (by omega))) ?_
      refine to_p 3 rfl (by kernel_rfl) rfl (y_gtr rfl rfl) ?_
      refine to_p 4 rfl (by kernel_rfl) rfl (y_move (v := .bool _) rfl) ?_
      refine to_cases (s := 29) rfl (fun hk1 => ?_) (fun hk1 => ?_)
      ·
        refine to_skip 5 rfl (by kernel_rfl) rfl ?_
        refine to_skip 6 rfl (by kernel_rfl) rfl ?_
        refine to_skip 7 rfl (by kernel_rfl) rfl ?_
        refine to_skip 8 rfl (by kernel_rfl) rfl ?_
        refine to_skip 9 rfl (by kernel_rfl) rfl ?_
        refine to_p 10 rfl (by kernel_rfl) rfl (y_pickT rfl rfl) ?_
        refine to_nil (by kernel_rfl) (.then_normal ?_)
        refine .sub (F' := [(1, _), (2, _), (6, _), (35, _)]) (.cons rfl (.cons rfl (.cons rfl (.cons rfl .nil)))) ?_
        refine x_true rfl rfl ?_
        refine x_seq (x_region ?_)
        refine tl_y rfl (y_build rfl) ?_
        refine tl_e rfl (e_store rfl rfl (by rfl) (by rfl) inferInstance inferInstance inferInstance ?_)
        refine tl_y rfl (y_assign rfl) ?_
        refine tl_y rfl (y_assign rfl) ?_
        refine tl_nil (.then_normal ?_)
        refine .sub (F' := [(2, _), (3, _), (4, _)]) (.cons rfl (.cons rfl (.cons rfl .nil))) ?_
        refine x_ret (.then_ret (retRV (L' := L) (rv3 rfl (rc_cellAgg (by rfl) rfl (.own inferInstance inferInstance)) (rc_tmp rfl) (rc_tmp rfl)) inferInstance (Le.refl _) (by
  rw [show readC b = ((zeroC, []), 3) by rw [readC, if_neg (by omega), if_pos (Or.inl (by omega))]]
  exact ⟨rfl, none, 0, 0, rfl, Row.nil _ _⟩)))
      ·
        refine to_y 5 rfl (by kernel_rfl) rfl (y_loadAgg rfl rfl (.own inferInstance inferInstance)) ?_
        refine to_y 6 rfl (by kernel_rfl) rfl (y_load rfl rfl (.own inferInstance inferInstance)) ?_
        refine to_p 7 rfl (by kernel_rfl) rfl (y_sliceL rfl rfl (by omega)) ?_
        refine to_e 8 rfl (by kernel_rfl) rfl (e_call' rfl (may_spec (xOf b)) ?_)
        rintro _ _ _ _ ⟨rfl, rfl, rfl⟩
        refine ⟨⟨(by first | exact Le.refl _ | assumption), Keeps.mem⟩, ?_⟩
        refine to_p 9 rfl (by kernel_rfl) rfl (y_not rfl) ?_
        refine to_p 10 rfl (by kernel_rfl) rfl (y_pickF rfl rfl) ?_
        refine to_nil (by kernel_rfl) (.then_normal ?_)
        refine .sub (F' := [(1, _), (2, _), (6, _), (35, _)]) (.cons rfl (.cons rfl (.cons rfl (.cons rfl .nil)))) ?_
        refine x_condb rfl (fun hc2 => ?_) (fun hc2 => ?_)
        ·
          refine x_seq (x_region ?_)
          refine tl_y rfl (y_build rfl) ?_
          refine tl_e rfl (e_store rfl rfl (by rfl) (by rfl) inferInstance inferInstance inferInstance ?_)
          refine tl_y rfl (y_assign rfl) ?_
          refine tl_y rfl (y_assign rfl) ?_
          refine tl_nil (.then_normal ?_)
          refine .sub (F' := [(2, _), (3, _), (4, _)]) (.cons rfl (.cons rfl (.cons rfl .nil))) ?_
          refine x_ret (.then_ret (retRV (L' := L) (rv3 rfl (rc_cellAgg (by rfl) rfl (.own inferInstance inferInstance)) (rc_tmp rfl) (rc_tmp rfl)) inferInstance (Le.refl _) (by
  rw [show readC b = ((zeroC, []), 3) by rw [readC, if_neg (by omega), if_pos (Or.inr (by rw [hs]; simpa using hc2))]]
  exact ⟨rfl, none, 0, 0, rfl, Row.nil _ _⟩)))
        ·
          refine x_skip (.then_normal ?_)
          refine x_seq ?_
          refine x_draw 4 hmix rfl ?_
          refine to_y 0 rfl (by kernel_rfl) rfl (y_loadAgg rfl rfl (.own inferInstance inferInstance)) ?_
          refine to_y1 1 rfl (by kernel_rfl) rfl (y_load rfl rfl (.own inferInstance inferInstance)) ?_
          refine to_p 2 rfl (by kernel_rfl) rfl (y_sliceL rfl rfl (by omega)) ?_
          refine to_e 3 rfl (by kernel_rfl) rfl (e_call' rfl (bytesClone_spec (h.sub 25 n (by omega) (by omega)) (by omega)) ?_)
          rintro _ M2 _ hM2 ⟨rfl, A2, c2, rfl, hA2⟩
          refine ⟨⟨hM2, Keeps.mem⟩, ?_⟩
          refine to_t 4 rfl (by kernel_rfl) (by kernel_rfl) rfl (e_store rfl rfl (by rfl) (by rfl) inferInstance inferInstance inferInstance ?_)
          refine to_p 5 rfl (by kernel_rfl) rfl (y_assign (v := .slice _ _ _) rfl) ?_
          refine to_p 6 rfl (by kernel_rfl) rfl (y_assign rfl) ?_
          refine to_nil (by kernel_rfl) (.then_normal ?_)
          refine .sub (F' := [(2, _), (3, _), (4, _)]) (.cons rfl (.cons rfl (.cons rfl .nil))) ?_
          refine x_ret (retRV (L' := L) (rv3 rfl (rc_cellAgg (by rfl) rfl (.own inferInstance inferInstance)) (rc_tmp rfl) (rc_tmp rfl)) inferInstance hM2 (by
  have : 25 < n + 1 := by omega
  rw [show readC b = ((xOf b, b.drop 25), 0) by rw [readC, if_neg (by omega), if_neg (by rw [hs]; simp at hc2 hk1; simp [hc2]; omega)]]
  rw [List.take_of_length_le (by simp; omega)] at hA2; exact ⟨rfl, A2, _, c2, rfl, hA2⟩))
    ·
      refine x_draw 14 hmix rfl ?_
      refine to_p 0 rfl (by kernel_rfl) rfl (y_move (v := .func _ _ _) rfl) ?_
      refine to_p 2 rfl (by kernel_rfl) rfl (y_move (v := .func _ _ _) rfl) ?_
      refine to_p 4 rfl (by kernel_rfl) rfl (y_move (v := .func _ _ _) rfl) ?_
      refine to_p 6 rfl (by kernel_rfl) rfl (y_move (v := .func _ _ _) rfl) ?_
      refine to_y 8 rfl (by kernel_rfl) rfl (y_load rfl rfl (.own inferInstance inferInstance)) ?_
      refine to_p 9 rfl (by kernel_rfl) rfl (y_indexAddr (b := g) (o := o) (by rw [hAe]; rfl) rfl (by omega)) ?_
      refine to_y 10 rfl (by kernel_rfl) rfl (y_load rfl rfl (.at_ (h24 _) (by omega))) ?_
      refine to_p 11 rfl (by kernel_rfl) rfl (y_eql rfl rfl) ?_
      refine to_two 1 13 (by kernel_rfl) ?_ ?_
      ·
        refine two_e 1 rfl rfl (e_callv rfl rfl (Con.bring b1 inferInstance (Read1_spec h hn25 0 (by omega))) (fun _ _ _ _ h => h.elim) ?_)
        rintro _ _ _ _ ⟨rfl, rfl, rfl⟩
        refine ⟨⟨(by first | exact Le.refl _ | assumption), Keeps.mem⟩, ?_⟩
        refine to_two 3 13 (by kernel_rfl) ?_ ?_
        ·
          refine two_e 3 rfl rfl (e_callv rfl rfl (Con.bring b1 inferInstance (Read1_spec h hn25 1 (by omega))) (fun _ _ _ _ h => h.elim) ?_)
          rintro _ _ _ _ ⟨rfl, rfl, rfl⟩
          refine ⟨⟨(by first | exact Le.refl _ | assumption), Keeps.mem⟩, ?_⟩
          refine to_two 5 13 (by kernel_rfl) ?_ ?_
          ·
            refine two_e 5 rfl rfl (e_callv rfl rfl (Con.bring b1 inferInstance (Read1_spec h hn25 2 (by omega))) (fun _ _ _ _ h => h.elim) ?_)
            rintro _ _ _ _ ⟨rfl, rfl, rfl⟩
            refine ⟨⟨(by first | exact Le.refl _ | assumption), Keeps.mem⟩, ?_⟩
            refine to_two 7 13 (by kernel_rfl) ?_ ?_
            ·
              refine two_e 7 rfl rfl (e_callv rfl rfl (Con.bring b1 inferInstance (Read1_spec h hn25 2 (by omega))) (fun _ _ _ _ h => h.elim) ?_)
              rintro _ _ _ _ ⟨rfl, rfl, rfl⟩
              refine ⟨⟨(by first | exact Le.refl _ | assumption), Keeps.mem⟩, ?_⟩
              refine to_p 12 rfl (by kernel_rfl) rfl (y_build rfl) ?_
              refine to_e 13 rfl (by kernel_rfl) rfl (e_alloc (fun bA => ?_))
              refine ⟨⟨(by first | exact Le.refl _ | assumption), Keeps.mem⟩, ?_⟩
              refine to_t 14 rfl (by kernel_rfl) (by kernel_rfl) rfl (e_store rfl rfl (by rfl) (by rfl) inferInstance inferInstance inferInstance ?_)
              refine to_nil (by kernel_rfl) (.then_normal (.sub (F' := [(1, _), (2, _), (6, _)]) (.cons rfl (.cons rfl (.cons rfl .nil))) (Jd4 _ _ _ _ ?_)))
              exact ⟨rfl, rfl, _, by rw [hX]; exact inferInstance, rfl⟩
            ·
              refine two_e 13 rfl rfl (e_alloc (fun bA => ?_))
              refine ⟨⟨(by first | exact Le.refl _ | assumption), Keeps.mem⟩, ?_⟩
              refine to_e 7 rfl (by kernel_rfl) rfl (e_callv rfl rfl (Con.bring b1 inferInstance (Read1_spec h hn25 2 (by omega))) (fun _ _ _ _ h => h.elim) ?_)
              rintro _ _ _ _ ⟨rfl, rfl, rfl⟩
              refine ⟨⟨(by first | exact Le.refl _ | assumption), Keeps.mem⟩, ?_⟩
              refine to_p 12 rfl (by kernel_rfl) rfl (y_build rfl) ?_
              refine to_t 14 rfl (by kernel_rfl) (by kernel_rfl) rfl (e_store rfl rfl (by rfl) (by rfl) inferInstance inferInstance inferInstance ?_)
              refine to_nil (by kernel_rfl) (.then_normal (.sub (F' := [(1, _), (2, _), (6, _)]) (.cons rfl (.cons rfl (.cons rfl .nil))) (Jd4 _ _ _ _ ?_)))
              exact ⟨rfl, rfl, _, by rw [hX]; exact inferInstance, rfl⟩
          ·
            refine two_e 13 rfl rfl (e_alloc (fun bA => ?_))
            refine ⟨⟨(by first | exact Le.refl _ | assumption), Keeps.mem⟩, ?_⟩
            refine to_e 5 rfl (by kernel_rfl) rfl (e_callv rfl rfl (Con.bring b1 inferInstance (Read1_spec h hn25 2 (by omega))) (fun _ _ _ _ h => h.elim) ?_)
            rintro _ _ _ _ ⟨rfl, rfl, rfl⟩
            refine ⟨⟨(by first | exact Le.refl _ | assumption), Keeps.mem⟩, ?_⟩
            refine to_e 7 rfl (by kernel_rfl) rfl (e_callv rfl rfl (Con.bring b1 inferInstance (Read1_spec h hn25 2 (by omega))) (fun _ _ _ _ h => h.elim) ?_)
            rintro _ _ _ _ ⟨rfl, rfl, rfl⟩
            refine ⟨⟨(by first | exact Le.refl _ | assumption), Keeps.mem⟩, ?_⟩
            refine to_p 12 rfl (by kernel_rfl) rfl (y_build rfl) ?_
            refine to_t 14 rfl (by kernel_rfl) (by kernel_rfl) rfl (e_store rfl rfl (by rfl) (by rfl) inferInstance inferInstance inferInstance ?_)
            refine to_nil (by kernel_rfl) (.then_normal (.sub (F' := [(1, _), (2, _), (6, _)]) (.cons rfl (.cons rfl (.cons rfl .nil))) (Jd4 _ _ _ _ ?_)))
            exact ⟨rfl, rfl, _, by rw [hX]; exact inferInstance, rfl⟩
        ·
          refine two_e 13 rfl rfl (e_alloc (fun bA => ?_))
          refine ⟨⟨(by first | exact Le.refl _ | assumption), Keeps.mem⟩, ?_⟩
          refine to_e 3 rfl (by kernel_rfl) rfl (e_callv rfl rfl (Con.bring b1 inferInstance (Read1_spec h hn25 1 (by omega))) (fun _ _ _ _ h => h.elim) ?_)
          rintro _ _ _ _ ⟨rfl, rfl, rfl⟩
          refine ⟨⟨(by first | exact Le.refl _ | assumption), Keeps.mem⟩, ?_⟩
          refine to_e 5 rfl (by kernel_rfl) rfl (e_callv rfl rfl (Con.bring b1 inferInstance (Read1_spec h hn25 2 (by omega))) (fun _ _ _ _ h => h.elim) ?_)
          rintro _ _ _ _ ⟨rfl, rfl, rfl⟩
          refine ⟨⟨(by first | exact Le.refl _ | assumption), Keeps.mem⟩, ?_⟩
          refine to_e 7 rfl (by kernel_rfl) rfl (e_callv rfl rfl (Con.bring b1 inferInstance (Read1_spec h hn25 2 (by omega))) (fun _ _ _ _ h => h.elim) ?_)
          rintro _ _ _ _ ⟨rfl, rfl, rfl⟩
          refine ⟨⟨(by first | exact Le.refl _ | assumption), Keeps.mem⟩, ?_⟩
          refine to_p 12 rfl (by kernel_rfl) rfl (y_build rfl) ?_
          refine to_t 14 rfl (by kernel_rfl) (by kernel_rfl) rfl (e_store rfl rfl (by rfl) (by rfl) inferInstance inferInstance inferInstance ?_)
          refine to_nil (by kernel_rfl) (.then_normal (.sub (F' := [(1, _), (2, _), (6, _)]) (.cons rfl (.cons rfl (.cons rfl .nil))) (Jd4 _ _ _ _ ?_)))
          exact ⟨rfl, rfl, _, by rw [hX]; exact inferInstance, rfl⟩
      ·
        refine two_e 13 rfl rfl (e_alloc (fun bA => ?_))
        refine ⟨⟨(by first | exact Le.refl _ | assumption), Keeps.mem⟩, ?_⟩
        refine to_e 1 rfl (by kernel_rfl) rfl (e_callv rfl rfl (Con.bring b1 inferInstance (Read1_spec h hn25 0 (by omega))) (fun _ _ _ _ h => h.elim) ?_)
        rintro _ _ _ _ ⟨rfl, rfl, rfl⟩
        refine ⟨⟨(by first | exact Le.refl _ | assumption), Keeps.mem⟩, ?_⟩
        refine to_e 3 rfl (by kernel_rfl) rfl (e_callv rfl rfl (Con.bring b1 inferInstance (Read1_spec h hn25 1 (by omega))) (fun _ _ _ _ h => h.elim) ?_)
        rintro _ _ _ _ ⟨rfl, rfl, rfl⟩
        refine ⟨⟨(by first | exact Le.refl _ | assumption), Keeps.mem⟩, ?_⟩
        refine to_e 5 rfl (by kernel_rfl) rfl (e_callv rfl rfl (Con.bring b1 inferInstance (Read1_spec h hn25 2 (by omega))) (fun _ _ _ _ h => h.elim) ?_)
        rintro _ _ _ _ ⟨rfl, rfl, rfl⟩
        refine ⟨⟨(by first | exact Le.refl _ | assumption), Keeps.mem⟩, ?_⟩
        refine to_e 7 rfl (by kernel_rfl) rfl (e_callv rfl rfl (Con.bring b1 inferInstance (Read1_spec h hn25 2 (by omega))) (fun _ _ _ _ h => h.elim) ?_)
        rintro _ _ _ _ ⟨rfl, rfl, rfl⟩
        refine ⟨⟨(by first | exact Le.refl _ | assumption), Keeps.mem⟩, ?_⟩
        refine to_p 12 rfl (by kernel_rfl) rfl (y_build rfl) ?_
        refine to_t 14 rfl (by kernel_rfl) (by kernel_rfl) rfl (e_store rfl rfl (by rfl) (by rfl) inferInstance inferInstance inferInstance ?_)
        refine to_nil (by kernel_rfl) (.then_normal (.sub (F' := [(1, _), (2, _), (6, _)]) (.cons rfl (.cons rfl (.cons rfl .nil))) (Jd4 _ _ _ _ ?_)))
        exact ⟨rfl, rfl, _, by rw [hX]; exact inferInstance, rfl⟩
end
end Go.Proofs.YtbgdjdhbejbhkaaDoor
