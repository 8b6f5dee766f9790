/-
Contracts of functions, each proved by a walk through its code.
-/
import Derived.Test.YtbgdjdhbejbhkaaDoorSlots4Etc
set_option linter.unusedVariables false
set_option linter.unusedSimpArgs false
namespace Go.Proofs.YtbgdjdhbejbhkaaDoor
open Go Go.Eng
section
variable {G : World} {M : Mem} {L R : Own}
abbrev bboxL (x0 : Nat) (A : Option Addr) (n c : Nat) (R : Own) : Own := (x0, .cells (List.toArray [.slice A n c]) 45 (0, 0)) :: R
theorem Read1_spec {x0 : Nat} {A : Option Addr} {n c : Nat} {b : List UInt8} (h : Bytes M A n c b) (hn : 25 ≤ n) (i : Nat) (hi : i ≤ 2) :
    Con Tryd.prog 97 #[.int .i64 (i : Int), .pointer (some ⟨x0, 0, none⟩)] G M (bboxL x0 A n c R) (fun v M' L' => M = M' ∧ L' = bboxL x0 A n c R ∧ v = .int .u64 ((UInt64.ofNat (getB ((b.drop (8 * i)).take 8))).toNat : Int)) noPanic := by
  have hc := h.le
  have hs := h.size
  refine enter (args := [_, _]) (fn := Tryd.f97) ⟨Tryd.func97, rfl, by kernel_rfl, by kernel_rfl⟩ 18 rfl ?_
  refine x_seq (x_region ?_)
  refine tl_y rfl (y_assign rfl) ?_
  refine tl_nil (.then_normal ?_)
  refine x_seq (x_region ?_)
  refine tl_y rfl (y_load rfl rfl (.own inferInstance inferInstance)) ?_
  refine tl_y rfl (y_move (v := .int _ _) rfl) ?_
  refine tl_y rfl (y_mulI rfl rfl (by omega)) ?_
  refine tl_y rfl (y_move (v := .int _ _) rfl) ?_
  refine tl_y rfl (y_addI rfl rfl (by omega)) ?_
  refine tl_y rfl (y_mulI rfl rfl (by omega)) ?_
  refine tl_y rfl (y_sliceLH rfl rfl rfl (by omega) (by omega)) ?_
  rw [show ((i : Int) * 8).toNat = 8 * i by omega, show (((i : Int) + 1) * 8).toNat = 8 * i + 8 by omega]
  have hsub := Bytes.sub h (8 * i) (8 * i + 8) (by omega) (by omega)
  rw [show 8 * i + 8 - 8 * i = 8 by omega] at hsub ⊢
  refine tl_e rfl (e_call' rfl (Get8_spec (n := 8) hsub (by omega)) ?_)
  rintro _ _ _ _ ⟨rfl, rfl, x, hx, rfl⟩
  refine tl_y rfl (y_move (v := .tuple _) rfl) ?_
  refine tl_y rfl (y_extract rfl) ?_
  refine tl_y rfl (y_extract rfl) ?_
  refine tl_y rfl (y_assign (v := .int _ _) rfl) ?_
  refine tl_y rfl (y_assign (v := .bool _) rfl) ?_
  refine tl_nil (.then_normal ?_)
  refine .sub (F' := [(4, _)]) (.cons rfl .nil) ?_
  refine x_seq (x_region ?_)
  refine tl_y rfl (y_move (v := .int _ _) rfl) ?_
  refine tl_y rfl (y_assign (v := .int _ _) rfl) ?_
  refine tl_nil (.then_normal ?_)
  refine x_ret (ret1 rfl rfl (Le.refl _) ⟨rfl, rfl, by rw [← hx]; simp⟩)
theorem Read_spec' {A : Option Addr} {n c : Nat} {b : List UInt8} (h : Bytes M A n c b) (hn : n ≤ 140737488355328) :
    Con Tryd.prog 49 #[.slice A n c] G M L (fun v M' L' => L' = L ∧ ∃ A' n' c', v = .tuple #[.agg (List.toArray (ccells (readC b).1.1)), .slice A' n' c', .int .i64 (readC b).2] ∧ Bytes M' A' n' c' (readC b).1.2) noPanic := by
  have hc := h.le
  have hs := h.size
  have hX : List.toArray (ccells (xOf b)) = #[u64v (UInt64.ofNat (getB (List.take 8 (List.drop (8 * 0) b)))), u64v (UInt64.ofNat (getB (List.take 8 (List.drop (8 * 1) b)))), u64v (UInt64.ofNat (getB (List.take 8 (List.drop (8 * 2) b)))), u64v (UInt64.ofNat (getB (List.take 8 (List.drop (8 * 2) b)))), .bool (decide (((b.getD 24 0).toNat : Int) = 1))] := by
    have e : (b.getD 24 0 == 1) = decide (((b.getD 24 0).toNat : Int) = 1) := by
      rw [Bool.eq_iff_iff, beq_iff_eq, decide_eq_true_eq, ← UInt8.toNat_inj]
      show _ = 1 ↔ _
      omega
    rw [← e]; rfl
  have hz : ccells zeroC = [.int .u64 0, .int .u64 0, .int .u64 0, .int .u64 0, .bool false] := rfl
  refine enter (args := [_]) (fn := Tryd.f49) ⟨Tryd.func49, rfl, by kernel_rfl, by kernel_rfl⟩ 41 rfl ?_
  refine x_seq (x_region ?_)
  refine tl_e rfl (e_box rfl (fun b1 => ?_))
  refine tl_e rfl (e_alloc (fun b2 => ?_))
  refine tl_y rfl (y_assign rfl) ?_
  refine tl_y rfl (y_assign rfl) ?_
  refine tl_nil (.then_normal ?_)
  refine x_seq (x_seq (x_region ?_))
  refine tl_y rfl (y_load rfl rfl (.own inferInstance inferInstance)) ?_
  refine tl_y rfl (y_len rfl) ?_
  refine tl_y rfl (y_lss rfl rfl) ?_
  refine tl_nil (.then_normal ?_)
  refine .sub (F' := [(1, _), (2, _), (9, _)]) (.cons rfl (.cons rfl (.cons rfl .nil))) ?_
  refine x_cond rfl (fun hc1 => ?_) (fun hc1 => ?_)
  ·
    refine x_seq (x_region ?_)
    refine tl_y rfl (y_build rfl) ?_
    refine tl_e rfl (e_store rfl rfl (by rfl) (by rfl) inferInstance inferInstance inferInstance ?_)
    refine tl_y rfl (y_assign rfl) ?_
    refine tl_y rfl (y_assign rfl) ?_
    refine tl_nil (.then_normal ?_)
    refine x_ret (.then_ret (retRV (L' := L) (rv3 rfl (rc_cellAgg (by rfl) rfl (.own inferInstance inferInstance)) (rc_tmp rfl) (rc_tmp rfl)) inferInstance (Le.refl _) (by
  rw [show readC b = ((zeroC, []), 2) by rw [readC, if_pos (by omega)]]
  exact ⟨rfl, none, 0, 0, rfl, Row.nil _ _⟩)))
  ·
    have hn25 : 25 ≤ n := by omega
    obtain ⟨g, o, hAe, hby⟩ := h.byte (by omega)
    have h24 := fun L => hby L 24 (by omega)
    have hbx := (b.getD 24 0).toNat_lt
    refine x_skip (.then_normal ?_)
    refine x_seq (x_region ?_)
    refine tl_y rfl (y_makeFunc rfl rfl) ?_
    refine tl_y rfl (y_assign (v := .func _ _ _) rfl) ?_
    refine tl_nil (.then_normal ?_)
    refine x_seq ?_
    refine x_meet (I := fun F D M1 L1 => D = [] ∧ M = M1 ∧ ∃ x3, DropTo L1 ((x3, .cells (List.toArray (ccells (xOf b))) 81 (0, 0)) :: bboxL b1 A n c ((b2, .cells (List.toArray [.int .u64 0, .int .u64 0, .int .u64 0, .int .u64 0, .bool false]) 81 (0, 0)) :: L)) ∧ F = [(1, .pointer (some ⟨b1, 0, none⟩)), (2, .pointer (some ⟨b2, 0, none⟩)), (6, .pointer (some ⟨x3, 0, none⟩))]) ?_ (fun Jd4 => ?_)
    ·
      rintro _ _ M1 L1 ⟨rfl, rfl, x3, hdr, rfl⟩  -- slots [1, 2, 6]
      refine .dropTo _ hdr ?_
      refine x_seq (x_seq ?_)
      refine x_draw 11 hmix rfl ?_
      refine to_y 0 rfl (by kernel_rfl) rfl (y_load rfl rfl (.own inferInstance inferInstance)) ?_
      refine to_p 1 rfl (by kernel_rfl) rfl (y_indexAddr (b := g) (o := o) (by rw [hAe]; rfl) rfl (by omega)) ?_
      refine to_y 2 rfl (by kernel_rfl) rfl (y_load rfl rfl (.at_ (h24 _) (by omega))) ?_
      refine to_p 3 rfl (by kernel_rfl) rfl (y_gtr rfl rfl) ?_
      refine to_p 4 rfl (by kernel_rfl) rfl (y_move (v := .bool _) rfl) ?_
      refine to_cases (s := 29) rfl (fun hk1 => ?_) (fun hk1 => ?_)
      ·
        refine to_skip 5 rfl (by kernel_rfl) rfl ?_
        refine to_skip 6 rfl (by kernel_rfl) rfl ?_
        refine to_skip 7 rfl (by kernel_rfl) rfl ?_
        refine to_skip 8 rfl (by kernel_rfl) rfl ?_
        refine to_skip 9 rfl (by kernel_rfl) rfl ?_
        refine to_p 10 rfl (by kernel_rfl) rfl (y_pickT rfl rfl) ?_
        refine to_nil (by kernel_rfl) (.then_normal ?_)
        refine .sub (F' := [(1, _), (2, _), (6, _), (35, _)]) (.cons rfl (.cons rfl (.cons rfl (.cons rfl .nil)))) ?_
        refine x_true rfl rfl ?_
        refine x_seq (x_region ?_)
        refine tl_y rfl (y_build rfl) ?_
        refine tl_e rfl (e_store rfl rfl (by rfl) (by rfl) inferInstance inferInstance inferInstance ?_)
        refine tl_y rfl (y_assign rfl) ?_
        refine tl_y rfl (y_assign rfl) ?_
        refine tl_nil (.then_normal ?_)
        refine .sub (F' := [(2, _), (3, _), (4, _)]) (.cons rfl (.cons rfl (.cons rfl .nil))) ?_
        refine x_ret (.then_ret (retRV (L' := L) (rv3 rfl (rc_cellAgg (by rfl) rfl (.own inferInstance inferInstance)) (rc_tmp rfl) (rc_tmp rfl)) inferInstance (Le.refl _) (by
  rw [show readC b = ((zeroC, []), 3) by rw [readC, if_neg (by omega), if_pos (Or.inl (by omega))]]
  exact ⟨rfl, none, 0, 0, rfl, Row.nil _ _⟩)))
      ·
        refine to_y 5 rfl (by kernel_rfl) rfl (y_loadAgg rfl rfl (.own inferInstance inferInstance)) ?_
        refine to_y 6 rfl (by kernel_rfl) rfl (y_load rfl rfl (.own inferInstance inferInstance)) ?_
        refine to_p 7 rfl (by kernel_rfl) rfl (y_sliceL rfl rfl (by omega)) ?_
        refine to_e 8 rfl (by kernel_rfl) rfl (e_call' rfl (may_spec (xOf b)) ?_)
        rintro _ _ _ _ ⟨rfl, rfl, rfl⟩
        refine ⟨⟨(by first | exact Le.refl _ | assumption), Keeps.mem⟩, ?_⟩
        refine to_p 9 rfl (by kernel_rfl) rfl (y_not rfl) ?_
        refine to_p 10 rfl (by kernel_rfl) rfl (y_pickF rfl rfl) ?_
        refine to_nil (by kernel_rfl) (.then_normal ?_)
        refine .sub (F' := [(1, _), (2, _), (6, _), (35, _)]) (.cons rfl (.cons rfl (.cons rfl (.cons rfl .nil)))) ?_
        refine x_condb rfl (fun hc2 => ?_) (fun hc2 => ?_)
        ·
          refine x_seq (x_region ?_)
          refine tl_y rfl (y_build rfl) ?_
          refine tl_e rfl (e_store rfl rfl (by rfl) (by rfl) inferInstance inferInstance inferInstance ?_)
          refine tl_y rfl (y_assign rfl) ?_
          refine tl_y rfl (y_assign rfl) ?_
          refine tl_nil (.then_normal ?_)
          refine .sub (F' := [(2, _), (3, _), (4, _)]) (.cons rfl (.cons rfl (.cons rfl .nil))) ?_
          refine x_ret (.then_ret (retRV (L' := L) (rv3 rfl (rc_cellAgg (by rfl) rfl (.own inferInstance inferInstance)) (rc_tmp rfl) (rc_tmp rfl)) inferInstance (Le.refl _) (by
  rw [show readC b = ((zeroC, []), 3) by rw [readC, if_neg (by omega), if_pos (Or.inr (by rw [hs]; simpa using hc2))]]
  exact ⟨rfl, none, 0, 0, rfl, Row.nil _ _⟩)))
        ·
          refine x_skip (.then_normal ?_)
          refine x_seq ?_
          refine x_draw 4 hmix rfl ?_
          refine to_y 0 rfl (by kernel_rfl) rfl (y_loadAgg rfl rfl (.own inferInstance inferInstance)) ?_
          refine to_y1 1 rfl (by kernel_rfl) rfl (y_load rfl rfl (.own inferInstance inferInstance)) ?_
          refine to_p 2 rfl (by kernel_rfl) rfl (y_sliceL rfl rfl (by omega)) ?_
          refine to_e 3 rfl (by kernel_rfl) rfl (e_call' rfl (bytesClone_spec (h.sub 25 n (by omega) (by omega)) (by omega)) ?_)
          rintro _ M2 _ hM2 ⟨rfl, A2, c2, rfl, hA2⟩
          refine ⟨⟨hM2, Keeps.mem⟩, ?_⟩
          refine to_t 4 rfl (by kernel_rfl) (by kernel_rfl) rfl (e_store rfl rfl (by rfl) (by rfl) inferInstance inferInstance inferInstance ?_)
          refine to_p 5 rfl (by kernel_rfl) rfl (y_assign (v := .slice _ _ _) rfl) ?_
          refine to_p 6 rfl (by kernel_rfl) rfl (y_assign rfl) ?_
          refine to_nil (by kernel_rfl) (.then_normal ?_)
          refine .sub (F' := [(2, _), (3, _), (4, _)]) (.cons rfl (.cons rfl (.cons rfl .nil))) ?_
          refine x_ret (retRV (L' := L) (rv3 rfl (rc_cellAgg (by rfl) rfl (.own inferInstance inferInstance)) (rc_tmp rfl) (rc_tmp rfl)) inferInstance hM2 (by
  have : 25 < n + 1 := by omega
  rw [show readC b = ((xOf b, b.drop 25), 0) by rw [readC, if_neg (by omega), if_neg (by rw [hs]; simp at hc2 hk1; simp [hc2]; omega)]]
  rw [List.take_of_length_le (by simp; omega)] at hA2; exact ⟨rfl, A2, _, c2, rfl, hA2⟩))
    ·
      refine x_draw 14 hmix rfl ?_
      refine to_p 0 rfl (by kernel_rfl) rfl (y_move (v := .func _ _ _) rfl) ?_
      refine to_p 2 rfl (by kernel_rfl) rfl (y_move (v := .func _ _ _) rfl) ?_
      refine to_p 4 rfl (by kernel_rfl) rfl (y_move (v := .func _ _ _) rfl) ?_
      refine to_p 6 rfl (by kernel_rfl) rfl (y_move (v := .func _ _ _) rfl) ?_
      refine to_y 8 rfl (by kernel_rfl) rfl (y_load rfl rfl (.own inferInstance inferInstance)) ?_
      refine to_p 9 rfl (by kernel_rfl) rfl (y_indexAddr (b := g) (o := o) (by rw [hAe]; rfl) rfl (by omega)) ?_
      refine to_y 10 rfl (by kernel_rfl) rfl (y_load rfl rfl (.at_ (h24 _) (by omega))) ?_
      refine to_p 11 rfl (by kernel_rfl) rfl (y_eql rfl rfl) ?_
      refine to_two 1 13 (by kernel_rfl) ?_ ?_
      ·
        refine two_e 1 rfl rfl (e_callv rfl rfl (Con.bring b1 inferInstance (Read1_spec h hn25 0 (by omega))) (fun _ _ _ _ h => h.elim) ?_)
        rintro _ _ _ _ ⟨rfl, rfl, rfl⟩
        refine ⟨⟨(by first | exact Le.refl _ | assumption), Keeps.mem⟩, ?_⟩
        refine to_two 3 13 (by kernel_rfl) ?_ ?_
        ·
          refine two_e 3 rfl rfl (e_callv rfl rfl (Con.bring b1 inferInstance (Read1_spec h hn25 1 (by omega))) (fun _ _ _ _ h => h.elim) ?_)
          rintro _ _ _ _ ⟨rfl, rfl, rfl⟩
          refine ⟨⟨(by first | exact Le.refl _ | assumption), Keeps.mem⟩, ?_⟩
          refine to_two 5 13 (by kernel_rfl) ?_ ?_
          ·
            refine two_e 5 rfl rfl (e_callv rfl rfl (Con.bring b1 inferInstance (Read1_spec h hn25 2 (by omega))) (fun _ _ _ _ h => h.elim) ?_)
            rintro _ _ _ _ ⟨rfl, rfl, rfl⟩
            refine ⟨⟨(by first | exact Le.refl _ | assumption), Keeps.mem⟩, ?_⟩
            refine to_two 7 13 (by kernel_rfl) ?_ ?_
            ·
              refine two_e 7 rfl rfl (e_callv rfl rfl (Con.bring b1 inferInstance (Read1_spec h hn25 2 (by omega))) (fun _ _ _ _ h => h.elim) ?_)
              rintro _ _ _ _ ⟨rfl, rfl, rfl⟩
              refine ⟨⟨(by first | exact Le.refl _ | assumption), Keeps.mem⟩, ?_⟩
              refine to_p 12 rfl (by kernel_rfl) rfl (y_build rfl) ?_
              refine to_e 13 rfl (by kernel_rfl) rfl (e_alloc (fun bA => ?_))
              refine ⟨⟨(by first | exact Le.refl _ | assumption), Keeps.mem⟩, ?_⟩
              refine to_t 14 rfl (by kernel_rfl) (by kernel_rfl) rfl (e_store rfl rfl (by rfl) (by rfl) inferInstance inferInstance inferInstance ?_)
              refine to_nil (by kernel_rfl) (.then_normal (.sub (F' := [(1, _), (2, _), (6, _)]) (.cons rfl (.cons rfl (.cons rfl .nil))) (Jd4 _ _ _ _ ?_)))
              exact ⟨rfl, rfl, _, by rw [hX]; exact inferInstance, rfl⟩
            ·
              refine two_e 13 rfl rfl (e_alloc (fun bA => ?_))
              refine ⟨⟨(by first | exact Le.refl _ | assumption), Keeps.mem⟩, ?_⟩
              refine to_e 7 rfl (by kernel_rfl) rfl (e_callv rfl rfl (Con.bring b1 inferInstance (Read1_spec h hn25 2 (by omega))) (fun _ _ _ _ h => h.elim) ?_)
              rintro _ _ _ _ ⟨rfl, rfl, rfl⟩
              refine ⟨⟨(by first | exact Le.refl _ | assumption), Keeps.mem⟩, ?_⟩
              refine to_p 12 rfl (by kernel_rfl) rfl (y_build rfl) ?_
              refine to_t 14 rfl (by kernel_rfl) (by kernel_rfl) rfl (e_store rfl rfl (by rfl) (by rfl) inferInstance inferInstance inferInstance ?_)
              refine to_nil (by kernel_rfl) (.then_normal (.sub (F' := [(1, _), (2, _), (6, _)]) (.cons rfl (.cons rfl (.cons rfl .nil))) (Jd4 _ _ _ _ ?_)))
              exact ⟨rfl, rfl, _, by rw [hX]; exact inferInstance, rfl⟩
          ·
            refine two_e 13 rfl rfl (e_alloc (fun bA => ?_))
            refine ⟨⟨(by first | exact Le.refl _ | assumption), Keeps.mem⟩, ?_⟩
            refine to_e 5 rfl (by kernel_rfl) rfl (e_callv rfl rfl (Con.bring b1 inferInstance (Read1_spec h hn25 2 (by omega))) (fun _ _ _ _ h => h.elim) ?_)
            rintro _ _ _ _ ⟨rfl, rfl, rfl⟩
            refine ⟨⟨(by first | exact Le.refl _ | assumption), Keeps.mem⟩, ?_⟩
            refine to_e 7 rfl (by kernel_rfl) rfl (e_callv rfl rfl (Con.bring b1 inferInstance (Read1_spec h hn25 2 (by omega))) (fun _ _ _ _ h => h.elim) ?_)
            rintro _ _ _ _ ⟨rfl, rfl, rfl⟩
            refine ⟨⟨(by first | exact Le.refl _ | assumption), Keeps.mem⟩, ?_⟩
            refine to_p 12 rfl (by kernel_rfl) rfl (y_build rfl) ?_
            refine to_t 14 rfl (by kernel_rfl) (by kernel_rfl) rfl (e_store rfl rfl (by rfl) (by rfl) inferInstance inferInstance inferInstance ?_)
            refine to_nil (by kernel_rfl) (.then_normal (.sub (F' := [(1, _), (2, _), (6, _)]) (.cons rfl (.cons rfl (.cons rfl .nil))) (Jd4 _ _ _ _ ?_)))
            exact ⟨rfl, rfl, _, by rw [hX]; exact inferInstance, rfl⟩
        ·
          refine two_e 13 rfl rfl (e_alloc (fun bA => ?_))
          refine ⟨⟨(by first | exact Le.refl _ | assumption), Keeps.mem⟩, ?_⟩
          refine to_e 3 rfl (by kernel_rfl) rfl (e_callv rfl rfl (Con.bring b1 inferInstance (Read1_spec h hn25 1 (by omega))) (fun _ _ _ _ h => h.elim) ?_)
          rintro _ _ _ _ ⟨rfl, rfl, rfl⟩
          refine ⟨⟨(by first | exact Le.refl _ | assumption), Keeps.mem⟩, ?_⟩
          refine to_e 5 rfl (by kernel_rfl) rfl (e_callv rfl rfl (Con.bring b1 inferInstance (Read1_spec h hn25 2 (by omega))) (fun _ _ _ _ h => h.elim) ?_)
          rintro _ _ _ _ ⟨rfl, rfl, rfl⟩
          refine ⟨⟨(by first | exact Le.refl _ | assumption), Keeps.mem⟩, ?_⟩
          refine to_e 7 rfl (by kernel_rfl) rfl (e_callv rfl rfl (Con.bring b1 inferInstance (Read1_spec h hn25 2 (by omega))) (fun _ _ _ _ h => h.elim) ?_)
          rintro _ _ _ _ ⟨rfl, rfl, rfl⟩
          refine ⟨⟨(by first | exact Le.refl _ | assumption), Keeps.mem⟩, ?_⟩
          refine to_p 12 rfl (by kernel_rfl) rfl (y_build rfl) ?_
          refine to_t 14 rfl (by kernel_rfl) (by kernel_rfl) rfl (e_store rfl rfl (by rfl) (by rfl) inferInstance inferInstance inferInstance ?_)
          refine to_nil (by kernel_rfl) (.then_normal (.sub (F' := [(1, _), (2, _), (6, _)]) (.cons rfl (.cons rfl (.cons rfl .nil))) (Jd4 _ _ _ _ ?_)))
          exact ⟨rfl, rfl, _, by rw [hX]; exact inferInstance, rfl⟩
      ·
        refine two_e 13 rfl rfl (e_alloc (fun bA => ?_))
        refine ⟨⟨(by first | exact Le.refl _ | assumption), Keeps.mem⟩, ?_⟩
        refine to_e 1 rfl (by kernel_rfl) rfl (e_callv rfl rfl (Con.bring b1 inferInstance (Read1_spec h hn25 0 (by omega))) (fun _ _ _ _ h => h.elim) ?_)
        rintro _ _ _ _ ⟨rfl, rfl, rfl⟩
        refine ⟨⟨(by first | exact Le.refl _ | assumption), Keeps.mem⟩, ?_⟩
        refine to_e 3 rfl (by kernel_rfl) rfl (e_callv rfl rfl (Con.bring b1 inferInstance (Read1_spec h hn25 1 (by omega))) (fun _ _ _ _ h => h.elim) ?_)
        rintro _ _ _ _ ⟨rfl, rfl, rfl⟩
        refine ⟨⟨(by first | exact Le.refl _ | assumption), Keeps.mem⟩, ?_⟩
        refine to_e 5 rfl (by kernel_rfl) rfl (e_callv rfl rfl (Con.bring b1 inferInstance (Read1_spec h hn25 2 (by omega))) (fun _ _ _ _ h => h.elim) ?_)
        rintro _ _ _ _ ⟨rfl, rfl, rfl⟩
        refine ⟨⟨(by first | exact Le.refl _ | assumption), Keeps.mem⟩, ?_⟩
        refine to_e 7 rfl (by kernel_rfl) rfl (e_callv rfl rfl (Con.bring b1 inferInstance (Read1_spec h hn25 2 (by omega))) (fun _ _ _ _ h => h.elim) ?_)
        rintro _ _ _ _ ⟨rfl, rfl, rfl⟩
        refine ⟨⟨(by first | exact Le.refl _ | assumption), Keeps.mem⟩, ?_⟩
        refine to_p 12 rfl (by kernel_rfl) rfl (y_build rfl) ?_
        refine to_t 14 rfl (by kernel_rfl) (by kernel_rfl) rfl (e_store rfl rfl (by rfl) (by rfl) inferInstance inferInstance inferInstance ?_)
        refine to_nil (by kernel_rfl) (.then_normal (.sub (F' := [(1, _), (2, _), (6, _)]) (.cons rfl (.cons rfl (.cons rfl .nil))) (Jd4 _ _ _ _ ?_)))
        exact ⟨rfl, rfl, _, by rw [hX]; exact inferInstance, rfl⟩
end
end Go.Proofs.YtbgdjdhbejbhkaaDoor
set_option linter.unusedVariables false
set_option linter.unusedSimpArgs false
namespace Go.Proofs.YtbgdjdhbejbhkaaDoor
open Go Go.Eng
section
variable {G : World} {M : Mem} {L R : Own} {p d c : Nat} {S : DS} {s : SS} {r : DRep} {A0 HA : Option Addr} {l0 c0 hl hc : Nat}
abbrev cL (c : Nat) (x : Cn) (HA : Option Addr) (hl hc : Nat) (p : Nat) : Nat × Obj :=
  (c, .cells (List.toArray [.int .u64 (x.total.toNat : Int), .int .u64 (x.batch.toNat : Int), .int .u64 (x.reserved.toNat : Int), .int .u64 (x.next.toNat : Int), .bool x.retired, .slice HA hl hc, .pointer (some ⟨p, 0, none⟩)]) 160 (0, 0))
theorem Head_spec (x : Cn) {head : List UInt8} (h : Bytes M HA hl hc head) (hn : hl ≤ 140737488355328) :
    Con Tryd.prog 53 #[.pointer (some ⟨c, 0, none⟩)] G M (cL c x HA hl hc p :: R) (fun v M' L' => L' = cL c x HA hl hc p :: R ∧ ∃ A' c', v = .slice A' hl c' ∧ Bytes M' A' hl c' head) noPanic := by
  refine enter (args := [_]) (fn := Tryd.f53) ⟨Tryd.func53, rfl, by kernel_rfl, by kernel_rfl⟩ 8 rfl ?_
  refine x_seq (x_region ?_)
  refine tl_y rfl (y_assign rfl) ?_
  refine tl_nil (.then_normal ?_)
  refine x_seq (x_region ?_)
  refine tl_y rfl (y_move (v := .pointer _) rfl) ?_
  refine tl_y rfl (y_nilCheck rfl) ?_
  refine tl_y rfl (y_fieldAddr rfl) ?_
  refine tl_y rfl (y_load rfl rfl (.own inferInstance inferInstance)) ?_
  refine tl_e rfl (e_call' rfl (bytesClone_spec h hn) ?_)
  rintro _ M1 _ hM1 ⟨rfl, A1, c1, rfl, hA1⟩
  refine tl_y rfl (y_assign (v := .slice _ _ _) rfl) ?_
  refine tl_nil (.then_normal ?_)
  refine .sub (F' := [(2, _)]) (.cons rfl .nil) ?_
  refine x_ret (ret1 rfl rfl hM1 ⟨rfl, A1, c1, rfl, hA1⟩)
theorem State_spec (x : Cn) :
    Con Tryd.prog 55 #[.pointer (some ⟨c, 0, none⟩)] G M (cL c x HA hl hc p :: R) (fun v M' L' => L' = cL c x HA hl hc p :: R ∧ M' = M ∧ v = .agg (List.toArray (ccells x))) noPanic := by
  refine enter (args := [_]) (fn := Tryd.f55) ⟨Tryd.func55, rfl, by kernel_rfl, by kernel_rfl⟩ 7 rfl ?_
  refine x_seq (x_region ?_)
  refine tl_e rfl (e_alloc (fun b1 => ?_))
  refine tl_nil (.then_normal ?_)
  refine x_seq (x_region ?_)
  refine tl_y rfl (y_move (v := .pointer _) rfl) ?_
  refine tl_y rfl (y_nilCheck rfl) ?_
  refine tl_y rfl (y_fieldAddr rfl) ?_
  refine tl_y rfl (y_loadAgg rfl rfl (.own inferInstance inferInstance)) ?_
  refine tl_e rfl (e_store rfl rfl (by rfl) (by rfl) inferInstance inferInstance inferInstance ?_)
  refine tl_nil (.then_normal ?_)
  refine .sub (F' := [(2, _)]) (.cons rfl .nil) ?_
  refine x_ret (retRV (L' := cL c x HA hl hc p :: R) (rv1 rfl (rc_cellAgg (by rfl) rfl (.own inferInstance inferInstance))) inferInstance (Le.refl _) ⟨rfl, rfl, rfl⟩)
theorem Cn.eq_iff (x y : Cn) : ((x.total.toNat : Int) = y.total.toNat ∧ ((x.batch.toNat : Int) = y.batch.toNat ∧ ((x.reserved.toNat : Int) = y.reserved.toNat ∧ ((x.next.toNat : Int) = y.next.toNat ∧ (x.retired = y.retired ∧ True))))) ↔ x = y := by
  obtain ⟨a, b, c, d, e⟩ := x
  obtain ⟨a', b', c', d', e'⟩ := y
  have h : ∀ u v : UInt64, (u.toNat : Int) = v.toNat ↔ u = v := fun u v => by rw [← UInt64.toNat_inj]; omega
  simp only [h, Cn.mk.injEq, and_true]
theorem csave_spec (hg : ShaG M) (h : IsDisk M r S) (ok : OkS S s) {B : Nat} (hw : S.within B) (hB : B ≤ 1000000) (hb : Bytes M A0 l0 c0 s.b) {head : List UInt8} (hh : Bytes M HA hl hc head) (x x' : Cn) :
    Con Tryd.prog 99 #[.pointer (some ⟨c, 0, none⟩), .agg (List.toArray (ccells x'))] G M (dL d r S (sL p d s A0 l0 c0 :: cL c x HA hl hc p :: R))
      (fun v M' L' => SK p d (saveC S s x x' head).1.1.1 (saveC S s x x' head).1.1.2 (cL c (saveC S s x x' head).1.2 HA hl hc p :: R) M' L' ∧ v = .int .i64 (saveC S s x x' head).2) noPanic := by
  have hl' := hh.size
  refine enter (args := [_, _]) (fn := Tryd.f99) ⟨Tryd.func99, rfl, by kernel_rfl, by kernel_rfl⟩ 39 rfl ?_
  refine x_seq (x_region ?_)
  refine tl_e rfl (e_box rfl (fun b1 => ?_))
  refine tl_y rfl (y_assign rfl) ?_
  refine tl_nil (.then_normal ?_)
  refine x_seq (x_seq ?_)
  refine x_draw 6 hmix rfl ?_
  refine to_y 0 rfl (by kernel_rfl) rfl (y_loadAgg rfl rfl (.own inferInstance inferInstance)) ?_
  refine to_p 1 rfl (by kernel_rfl) rfl (y_move (v := .pointer _) rfl) ?_
  refine to_p 2 rfl (by kernel_rfl) rfl (y_nilCheck rfl) ?_
  refine to_p 3 rfl (by kernel_rfl) rfl (y_fieldAddr rfl) ?_
  refine to_y 4 rfl (by kernel_rfl) rfl (y_loadAgg rfl rfl (.own inferInstance inferInstance)) ?_
  refine to_p 5 rfl (by kernel_rfl) rfl (y_eqlS rfl rfl eqs81) ?_
  refine to_nil (by kernel_rfl) (.then_normal ?_)
  refine .sub (F' := [(0, _), (3, _), (13, _)]) (.cons rfl (.cons rfl (.cons rfl .nil))) ?_
  rw [show (decide _ : Bool) = decide (x' = x) from decide_eq_decide.mpr (Cn.eq_iff x' x)]
  refine x_condb rfl (fun hc1 => ?_) (fun hc1 => ?_)
  ·
    refine x_seq (x_region ?_)
    refine tl_y rfl (y_assign rfl) ?_
    refine tl_nil (.then_normal ?_)
    refine x_ret (.then_ret (.dropTo _ inferInstance (ret1 rfl rfl (Le.refl _) (by
  rw [show saveC S s x x' head = (((S, s), x), 0) by rw [saveC, if_pos (by simpa using hc1)]]
  exact ⟨⟨r, A0, l0, c0, h, hb, rfl⟩, rfl⟩))))
  ·
    refine x_skip (.then_normal ?_)
    refine x_seq ?_
    refine x_draw 11 hmix rfl ?_
    refine to_y 0 rfl (by kernel_rfl) rfl (y_loadAgg rfl rfl (.own inferInstance inferInstance)) ?_
    refine to_p 1 rfl (by kernel_rfl) rfl (y_move (v := .pointer _) rfl) ?_
    refine to_p 2 rfl (by kernel_rfl) rfl (y_nilCheck rfl) ?_
    refine to_p 3 rfl (by kernel_rfl) rfl (y_fieldAddr rfl) ?_
    refine to_y 4 rfl (by kernel_rfl) rfl (y_load rfl rfl (.own inferInstance inferInstance)) ?_
    refine to_e 5 rfl (by kernel_rfl) rfl (e_call' rfl (Bytes_spec x' hh) ?_)
    rintro v M2 _ hM2 ⟨rfl, hv⟩
    obtain ⟨A', n', c', e, rfl, hcase⟩ : ∃ A' n' c' e, v = .tuple #[.slice A' n' c', .int .i64 e] ∧ ((mayB x' hl = true ∧ e = 0 ∧ Bytes M2 A' n' c' (bytesC x' head)) ∨ (mayB x' hl = false ∧ e = 1)) := by
      split at hv
      · obtain ⟨A', c', rfl, h⟩ := hv; exact ⟨A', _, c', 0, rfl, .inl ⟨by assumption, rfl, h⟩⟩
      · exact ⟨none, 0, 0, 1, hv, .inr ⟨by simpa using (by assumption : ¬ mayB x' hl = true), rfl⟩⟩
    refine ⟨⟨hM2, Keeps.mem⟩, ?_⟩
    refine to_p 6 rfl (by kernel_rfl) rfl (y_move (v := .tuple _) rfl) ?_
    refine to_p 7 rfl (by kernel_rfl) rfl (y_extract rfl) ?_
    refine to_p 8 rfl (by kernel_rfl) rfl (y_extract rfl) ?_
    refine to_p 9 rfl (by kernel_rfl) rfl (y_assign (v := .slice _ _ _) rfl) ?_
    refine to_p 10 rfl (by kernel_rfl) rfl (y_assign (v := .int _ _) rfl) ?_
    refine to_nil (by kernel_rfl) (.then_normal ?_)
    refine .sub (F' := [(0, _), (3, _), (5, _), (6, _)]) (.cons rfl (.cons rfl (.cons rfl (.cons rfl .nil)))) ?_
    refine x_seq (x_seq (x_region ?_))
    refine tl_y rfl (y_move (v := .int _ _) rfl) ?_
    refine tl_y rfl (y_neq rfl rfl) ?_
    refine tl_nil (.then_normal ?_)
    refine x_condb rfl (fun hc2 => ?_) (fun hc2 => ?_)
    ·
      refine x_seq (x_region ?_)
      refine tl_y rfl (y_move (v := .int _ _) rfl) ?_
      refine tl_y rfl (y_assign (v := .int _ _) rfl) ?_
      refine tl_nil (.then_normal ?_)
      refine .sub (F' := [(4, _)]) (.cons rfl .nil) ?_
      refine x_ret (.then_ret (.dropTo _ inferInstance (ret1 rfl rfl hM2 (by
  obtain ⟨hm, rfl⟩ : mayB x' hl = false ∧ e = 1 := by rcases hcase with ⟨_, rfl, _⟩ | h; exact absurd hc2 (by simp); exact h
  rw [show saveC S s x x' head = (((S, s), x), 1) by rw [saveC, if_neg (by simpa using hc1), if_pos (by rw [hl']; exact hm)]]
  exact ⟨⟨r, A0, l0, c0, h.mono hM2, hb.mono hM2, rfl⟩, rfl⟩))))
    ·
      obtain ⟨hm, rfl, hbb⟩ : mayB x' hl = true ∧ e = 0 ∧ Bytes M2 A' n' c' (bytesC x' head) := by rcases hcase with h | ⟨_, rfl⟩; exact h; exact absurd hc2 (by simp)
      refine x_skip (.then_normal ?_)
      refine x_seq (x_seq (x_region ?_))
      refine tl_y rfl (y_move (v := .pointer _) rfl) ?_
      refine tl_y rfl (y_nilCheck rfl) ?_
      refine tl_y rfl (y_fieldAddr rfl) ?_
      refine tl_y rfl (y_load rfl rfl (.own inferInstance inferInstance)) ?_
      refine tl_y rfl (y_move (v := .slice _ _ _) rfl) ?_
      refine .to (dL d r S (sL p d s A0 l0 c0 :: (b1, .cells (List.toArray (ccells x')) 81 (0, 0)) :: cL c x HA hl hc p :: R)) inferInstance ?_
      refine tl_e rfl (e_call' rfl (Save_spec (hg.mono hM2) (h.mono hM2) ok hw hB (hb.mono hM2) hbb) ?_)
      rintro _ M3 _ hM3 ⟨⟨r', A3, l3, c3, h3, hb3, rfl⟩, rfl⟩
      refine tl_y rfl (y_assign (v := .int _ _) rfl) ?_
      refine tl_nil (.then_normal ?_)
      refine .sub (F' := [(0, _), (3, _), (7, _)]) (.cons rfl (.cons rfl (.cons rfl .nil))) ?_
      refine x_seq (x_region ?_)
      refine tl_y rfl (y_move (v := .int _ _) rfl) ?_
      refine tl_y rfl (y_neq rfl rfl) ?_
      refine tl_nil (.then_normal ?_)
      refine x_condb rfl (fun hc3 => ?_) (fun hc3 => ?_)
      ·
        refine x_seq (x_region ?_)
        refine tl_y rfl (y_move (v := .int _ _) rfl) ?_
        refine tl_y rfl (y_assign (v := .int _ _) rfl) ?_
        refine tl_nil (.then_normal ?_)
        refine .sub (F' := [(4, _)]) (.cons rfl .nil) ?_
        refine x_ret (.then_ret (.dropTo _ inferInstance (ret1 rfl rfl (hM2.trans hM3) (by
  have hne : (saveRes S s (bytesC x' head)).2 ≠ 0 := by simpa using hc3
  rw [show saveC S s x x' head = (((saveRes S s (bytesC x' head)).1, x), (saveRes S s (bytesC x' head)).2) by rw [saveC, if_neg (by simpa using hc1), if_neg (by rw [hl', hm]; simp), if_pos hne]]
  exact ⟨⟨r', A3, l3, c3, h3, hb3, rfl⟩, rfl⟩))))
      ·
        refine x_skip (.then_normal ?_)
        refine x_seq (x_region ?_)
        refine tl_y rfl (y_move (v := .pointer _) rfl) ?_
        refine tl_y rfl (y_loadAgg rfl rfl (.own inferInstance inferInstance)) ?_
        refine tl_y rfl (y_nilCheck rfl) ?_
        refine tl_y rfl (y_fieldAddr rfl) ?_
        refine tl_e rfl (e_store rfl rfl (by rfl) (by rfl) inferInstance inferInstance inferInstance ?_)
        refine tl_nil (.then_normal ?_)
        refine .sub (F' := []) .nil ?_
        refine x_seq (x_region ?_)
        refine tl_y rfl (y_assign rfl) ?_
        refine tl_nil (.then_normal ?_)
        refine x_ret (.dropTo (dL d r' (saveRes S s (bytesC x' head)).1.1 (sL p d (saveRes S s (bytesC x' head)).1.2 A3 l3 c3 :: cL c x' HA hl hc p :: R)) inferInstance (ret1 rfl rfl (hM2.trans hM3) (by
  have hne : (saveRes S s (bytesC x' head)).2 = 0 := by simpa using hc3
  rw [show saveC S s x x' head = (((saveRes S s (bytesC x' head)).1, x'), 0) by rw [saveC, if_neg (by simpa using hc1), if_neg (by rw [hl', hm]; simp), if_neg (by simp [hne])]]
  exact ⟨⟨r', A3, l3, c3, h3, hb3, rfl⟩, rfl⟩)))
end
end Go.Proofs.YtbgdjdhbejbhkaaDoor
set_option linter.unusedVariables false
set_option linter.unusedSimpArgs false
namespace Go.Proofs.YtbgdjdhbejbhkaaDoor
open Go Go.Eng
section
variable {G : World} {M : Mem} {L R : Own} {p d c : Nat} {S : DS} {s : SS} {r : DRep} {A0 HA : Option Addr} {l0 c0 hl hc : Nat}
theorem Retire_spec (hg : ShaG M) (h : IsDisk M r S) (ok : OkS S s) {B : Nat} (hw : S.within B) (hB : B ≤ 1000000) (hb : Bytes M A0 l0 c0 s.b) {head : List UInt8} (hh : Bytes M HA hl hc head) (x : Cn) :
    Con Tryd.prog 59 #[.pointer (some ⟨c, 0, none⟩)] G M (dL d r S (sL p d s A0 l0 c0 :: cL c x HA hl hc p :: R))
      (fun v M' L' => SK p d (retireC S s x head).1.1.1 (retireC S s x head).1.1.2 (cL c (retireC S s x head).1.2 HA hl hc p :: R) M' L' ∧ v = .int .i64 (retireC S s x head).2) noPanic := by
  refine enter (args := [_]) (fn := Tryd.f59) ⟨Tryd.func59, rfl, by kernel_rfl, by kernel_rfl⟩ 12 rfl ?_
  refine x_seq (x_region ?_)
  refine tl_y rfl (y_assign rfl) ?_
  refine tl_nil (.then_normal ?_)
  refine x_seq (x_region ?_)
  refine tl_y rfl (y_move (v := .pointer _) rfl) ?_
  refine tl_y rfl (y_nilCheck rfl) ?_
  refine tl_y rfl (y_fieldAddr rfl) ?_
  refine tl_y rfl (y_loadAgg rfl rfl (.own inferInstance inferInstance)) ?_
  refine tl_e rfl (e_alloc (fun b1 => ?_))
  refine tl_e rfl (e_store rfl rfl (by rfl) (by rfl) inferInstance inferInstance inferInstance ?_)
  refine tl_nil (.then_normal ?_)
  refine .sub (F' := [(0, _), (3, _)]) (.cons rfl (.cons rfl .nil)) ?_
  refine x_seq (x_region ?_)
  refine tl_y rfl (y_fieldAddr rfl) ?_
  refine tl_e rfl (e_store rfl rfl (by rfl) (by rfl) inferInstance inferInstance inferInstance ?_)
  refine tl_nil (.then_normal ?_)
  refine x_seq (x_region ?_)
  refine tl_y rfl (y_move (v := .pointer _) rfl) ?_
  refine tl_y rfl (y_loadAgg rfl rfl (.own inferInstance inferInstance)) ?_
  refine .to (dL d r S (sL p d s A0 l0 c0 :: cL c x HA hl hc p :: (b1, .cells (List.toArray (ccells { x with retired := true })) 81 (0, 0)) :: R)) inferInstance ?_
  refine tl_e rfl (e_call' rfl (csave_spec hg h ok hw hB hb hh x { x with retired := true }) ?_)
  rintro _ M3 _ hM3 ⟨⟨r', A3, l3, c3, h3, hb3, rfl⟩, rfl⟩
  refine tl_y rfl (y_assign (v := .int _ _) rfl) ?_
  refine tl_nil (.then_normal ?_)
  refine .sub (F' := [(2, _)]) (.cons rfl .nil) ?_
  refine x_ret (.dropTo (dL d r' (saveC S s x { x with retired := true } head).1.1.1 (sL p d (saveC S s x { x with retired := true } head).1.1.2 A3 l3 c3 :: cL c (saveC S s x { x with retired := true } head).1.2 HA hl hc p :: R)) inferInstance (ret1 rfl rfl hM3 ⟨⟨r', A3, l3, c3, h3, hb3, rfl⟩, rfl⟩))
theorem Take_spec (hg : ShaG M) (h : IsDisk M r S) (ok : OkS S s) {B : Nat} (hw : S.within B) (hB : B ≤ 1000000) (hb : Bytes M A0 l0 c0 s.b) {head : List UInt8} (hh : Bytes M HA hl hc head) (x : Cn) :
    Con Tryd.prog 52 #[.pointer (some ⟨c, 0, none⟩)] G M (dL d r S (sL p d s A0 l0 c0 :: cL c x HA hl hc p :: R))
      (fun v M' L' => SK p d (takeC S s x head).1.1.1 (takeC S s x head).1.1.2 (cL c (takeC S s x head).1.2 HA hl hc p :: R) M' L' ∧ v = .tuple #[.int .u64 ((takeC S s x head).2.1.toNat : Int), .int .i64 (takeC S s x head).2.2]) noPanic := by
  have ht : ∀ u v : UInt64, (u.toNat : Int) = v.toNat ↔ u = v := fun u v => by rw [← UInt64.toNat_inj]; omega
  refine enter (args := [_]) (fn := Tryd.f52) ⟨Tryd.func52, rfl, by kernel_rfl, by kernel_rfl⟩ 69 rfl ?_
  refine x_seq (x_region ?_)
  refine tl_y rfl (y_assign rfl) ?_
  refine tl_y rfl (y_assign rfl) ?_
  refine tl_nil (.then_normal ?_)
  refine x_seq ?_
  refine x_block ?_
  refine x_seq (x_region ?_)
  refine tl_y rfl (y_move (v := .pointer _) rfl) ?_
  refine tl_y rfl (y_nilCheck rfl) ?_
  refine tl_y rfl (y_fieldAddr rfl) ?_
  refine tl_y rfl (y_fieldAddr rfl) ?_
  refine tl_y rfl (y_load rfl rfl (.own inferInstance inferInstance)) ?_
  refine tl_y rfl (y_assign (v := .bool _) rfl) ?_
  refine tl_nil (.then_normal ?_)
  refine .sub (F' := [(0, _), (6, _)]) (.cons rfl (.cons rfl .nil)) ?_
  refine x_condb rfl (fun hc1 => ?_) (fun hc1 => ?_)
  ·
    refine x_seq (x_region ?_)
    refine tl_y rfl (y_assign rfl) ?_
    refine tl_y rfl (y_assign rfl) ?_
    refine tl_nil (.then_normal ?_)
    refine x_ret (.block_ret (.then_ret (ret2 rfl rfl rfl (Le.refl _) (by
  rw [show takeC S s x head = (((S, s), x), (0, 13)) by rw [takeC, if_pos hc1]]
  exact ⟨⟨r, A0, l0, c0, h, hb, rfl⟩, rfl⟩))))
  ·
    refine x_seq ?_
    refine x_draw 12 hmix rfl ?_
    refine to_p 0 rfl (by kernel_rfl) rfl (y_move (v := .pointer _) rfl) ?_
    refine to_p 1 rfl (by kernel_rfl) rfl (y_nilCheck rfl) ?_
    refine to_p 2 rfl (by kernel_rfl) rfl (y_fieldAddr rfl) ?_
    refine to_p 3 rfl (by kernel_rfl) rfl (y_fieldAddr rfl) ?_
    refine to_y 4 rfl (by kernel_rfl) rfl (y_load rfl rfl (.own inferInstance inferInstance)) ?_
    refine to_p 5 rfl (by kernel_rfl) rfl (y_move (v := .pointer _) rfl) ?_
    refine to_p 6 rfl (by kernel_rfl) rfl (y_nilCheck rfl) ?_
    refine to_p 7 rfl (by kernel_rfl) rfl (y_fieldAddr rfl) ?_
    refine to_p 8 rfl (by kernel_rfl) rfl (y_fieldAddr rfl) ?_
    refine to_y 9 rfl (by kernel_rfl) rfl (y_load rfl rfl (.own inferInstance inferInstance)) ?_
    refine to_p 10 rfl (by kernel_rfl) rfl (y_eql rfl rfl) ?_
    refine to_p 11 rfl (by kernel_rfl) rfl (y_assign (v := .bool _) rfl) ?_
    refine to_nil (by kernel_rfl) (.then_normal ?_)
    refine .sub (F' := [(0, _), (12, _)]) (.cons rfl (.cons rfl .nil)) ?_
    refine x_cond rfl (fun hc2 => ?_) (fun hc2 => ?_)
    ·
      refine x_seq (x_region ?_)
      refine tl_y rfl (y_assign rfl) ?_
      refine tl_y rfl (y_assign rfl) ?_
      refine tl_nil (.then_normal ?_)
      refine x_ret (.block_ret (.then_ret (ret2 rfl rfl rfl (Le.refl _) (by
  rw [show takeC S s x head = (((S, s), x), (0, 9)) by rw [takeC, if_neg (by simp [hc1]), if_pos ((ht _ _).1 hc2)]]
  exact ⟨⟨r, A0, l0, c0, h, hb, rfl⟩, rfl⟩))))
    ·
      refine x_skip (.block_normal (.then_normal ?_))
      refine x_seq (x_seq ?_)
      refine x_draw 11 hmix rfl ?_
      refine to_p 0 rfl (by kernel_rfl) rfl (y_move (v := .pointer _) rfl) ?_
      refine to_p 1 rfl (by kernel_rfl) rfl (y_nilCheck rfl) ?_
      refine to_p 2 rfl (by kernel_rfl) rfl (y_fieldAddr rfl) ?_
      refine to_p 3 rfl (by kernel_rfl) rfl (y_fieldAddr rfl) ?_
      refine to_y 4 rfl (by kernel_rfl) rfl (y_load rfl rfl (.own inferInstance inferInstance)) ?_
      refine to_p 5 rfl (by kernel_rfl) rfl (y_move (v := .pointer _) rfl) ?_
      refine to_p 6 rfl (by kernel_rfl) rfl (y_nilCheck rfl) ?_
      refine to_p 7 rfl (by kernel_rfl) rfl (y_fieldAddr rfl) ?_
      refine to_p 8 rfl (by kernel_rfl) rfl (y_fieldAddr rfl) ?_
      refine to_y 9 rfl (by kernel_rfl) rfl (y_load rfl rfl (.own inferInstance inferInstance)) ?_
      refine to_p 10 rfl (by kernel_rfl) rfl (y_eql rfl rfl) ?_
      refine to_nil (by kernel_rfl) (.then_normal ?_)
      refine .sub (F' := [(0, _), (34, _)]) (.cons rfl (.cons rfl .nil)) ?_
      refine x_cond rfl (fun hc3 => ?_) (fun hc3 => ?_)
      ·
        refine x_seq (x_region ?_)
        refine tl_y rfl (y_move (v := .pointer _) rfl) ?_
        refine tl_y rfl (y_nilCheck rfl) ?_
        refine tl_y rfl (y_fieldAddr rfl) ?_
        refine tl_y rfl (y_loadAgg rfl rfl (.own inferInstance inferInstance)) ?_
        refine tl_e rfl (e_alloc (fun b1 => ?_))
        refine tl_e rfl (e_store rfl rfl (by rfl) (by rfl) inferInstance inferInstance inferInstance ?_)
        refine tl_nil (.then_normal ?_)
        refine .sub (F' := [(0, _), (4, _)]) (.cons rfl (.cons rfl .nil)) ?_
        refine x_seq (x_region ?_)
        refine tl_y rfl (y_fieldAddr rfl) ?_
        refine tl_y rfl (y_load rfl rfl (.own inferInstance inferInstance)) ?_
        refine tl_y rfl (y_fieldAddr rfl) ?_
        refine tl_y rfl (y_load rfl rfl (.own inferInstance inferInstance)) ?_
        refine tl_y rfl (y_add64 rfl rfl) ?_
        refine tl_y rfl (y_fieldAddr rfl) ?_
        refine tl_y rfl (y_load rfl rfl (.own inferInstance inferInstance)) ?_
        refine tl_y rfl (y_min rfl rfl) ?_
        rw [show (if (x.total.toNat : Int) < ((x.reserved + x.batch).toNat : Int) then (x.total.toNat : Int) else ((x.reserved + x.batch).toNat : Int)) = ((moreC x).reserved.toNat : Int) by rw [moreC]; show _ = ((if _ then _ else _ : UInt64).toNat : Int); split <;> split <;> first | rfl | omega]
        refine tl_y rfl (y_fieldAddr rfl) ?_
        refine tl_e rfl (e_store rfl rfl (by rfl) (by rfl) inferInstance inferInstance inferInstance ?_)
        refine tl_nil (.then_normal ?_)
        refine .sub (F' := [(0, _), (4, _)]) (.cons rfl (.cons rfl .nil)) ?_
        refine x_seq (x_region ?_)
        refine tl_y rfl (y_move (v := .pointer _) rfl) ?_
        refine tl_y rfl (y_loadAgg rfl rfl (.own inferInstance inferInstance)) ?_
        refine .to (dL d r S (sL p d s A0 l0 c0 :: cL c x HA hl hc p :: (b1, .cells (List.toArray [.int .u64 (x.total.toNat : Int), .int .u64 (x.batch.toNat : Int), u64v (moreC x).reserved, .int .u64 (x.next.toNat : Int), .bool x.retired]) 81 (0, 0)) :: R)) inferInstance ?_
        refine tl_e rfl (e_call' rfl (csave_spec hg h ok hw hB hb hh x (moreC x)) ?_)
        rintro _ M3 _ hM3 ⟨⟨r', A3, l3, c3, h3, hb3, rfl⟩, rfl⟩
        refine tl_y rfl (y_assign (v := .int _ _) rfl) ?_
        refine tl_nil (.then_normal ?_)
        refine .sub (F' := [(0, _), (5, _)]) (.cons rfl (.cons rfl .nil)) ?_
        refine x_seq (x_region ?_)
        refine tl_y rfl (y_move (v := .int _ _) rfl) ?_
        refine tl_y rfl (y_neq rfl rfl) ?_
        refine tl_nil (.then_normal ?_)
        refine x_condb rfl (fun hc4 => ?_) (fun hc4 => ?_)
        ·
          refine x_seq (x_region ?_)
          refine tl_y rfl (y_move (v := .int _ _) rfl) ?_
          refine tl_y rfl (y_assign rfl) ?_
          refine tl_y rfl (y_assign (v := .int _ _) rfl) ?_
          refine tl_nil (.then_normal ?_)
          refine .sub (F' := [(2, _), (3, _)]) (.cons rfl (.cons rfl .nil)) ?_
          refine x_ret (.then_ret (.dropTo (dL d r' (saveC S s x (moreC x) head).1.1.1 (sL p d (saveC S s x (moreC x) head).1.1.2 A3 l3 c3 :: cL c (saveC S s x (moreC x) head).1.2 HA hl hc p :: R)) inferInstance (ret2 rfl rfl rfl hM3 (by
  rw [show takeC S s x head = ((saveC S s x (moreC x) head).1, (0, (saveC S s x (moreC x) head).2)) by rw [takeC, if_neg (by simp [hc1]), if_neg (fun e => hc2 ((ht _ _).2 e)), if_pos ((ht _ _).1 hc3), if_pos (by simpa using hc4)]]
  exact ⟨⟨r', A3, l3, c3, h3, hb3, rfl⟩, rfl⟩))))
        ·
          refine x_skip (.then_normal ?_)
          refine x_seq (x_region ?_)
          refine tl_y rfl (y_move (v := .pointer _) rfl) ?_
          refine tl_y rfl (y_nilCheck rfl) ?_
          refine tl_y rfl (y_fieldAddr rfl) ?_
          refine tl_y rfl (y_fieldAddr rfl) ?_
          refine tl_y rfl (y_load rfl rfl (.own inferInstance inferInstance)) ?_
          refine tl_y rfl (y_add64 (b := 1) rfl rfl) ?_
          refine tl_y rfl (y_nilCheck rfl) ?_
          refine tl_y rfl (y_fieldAddr rfl) ?_
          refine tl_y rfl (y_fieldAddr rfl) ?_
          refine tl_e rfl (e_store rfl rfl (by rfl) (by rfl) inferInstance inferInstance inferInstance ?_)
          refine tl_nil (.then_normal ?_)
          refine .sub (F' := [(0, _)]) (.cons rfl .nil) ?_
          refine x_seq (x_region ?_)
          refine tl_y rfl (y_move (v := .pointer _) rfl) ?_
          refine tl_y rfl (y_nilCheck rfl) ?_
          refine tl_y rfl (y_fieldAddr rfl) ?_
          refine tl_y rfl (y_fieldAddr rfl) ?_
          refine tl_y rfl (y_load rfl rfl (.own inferInstance inferInstance)) ?_
          refine tl_y rfl (y_sub64 (b := 1) rfl rfl) ?_
          refine tl_y rfl (y_assign (v := .int _ _) rfl) ?_
          refine tl_y rfl (y_assign rfl) ?_
          refine tl_nil (.then_normal ?_)
          refine .sub (F' := [(2, _), (3, _)]) (.cons rfl (.cons rfl .nil)) ?_
          refine x_ret (.dropTo (dL d r' (saveC S s x (moreC x) head).1.1.1 (sL p d (saveC S s x (moreC x) head).1.1.2 A3 l3 c3 :: (c, .cells (List.toArray [.int .u64 ((saveC S s x (moreC x) head).1.2.total.toNat : Int), .int .u64 ((saveC S s x (moreC x) head).1.2.batch.toNat : Int), .int .u64 ((saveC S s x (moreC x) head).1.2.reserved.toNat : Int), u64v ((saveC S s x (moreC x) head).1.2.next + 1), .bool (saveC S s x (moreC x) head).1.2.retired, .slice HA hl hc, .pointer (some ⟨p, 0, none⟩)]) 160 (0, 0)) :: R)) inferInstance (ret2 rfl rfl rfl hM3 (by
  rw [show takeC S s x head = (((saveC S s x (moreC x) head).1.1, nextC' (saveC S s x (moreC x) head).1.2), ((nextC' (saveC S s x (moreC x) head).1.2).next - 1, 0)) by rw [takeC, if_neg (by simp [hc1]), if_neg (fun e => hc2 ((ht _ _).2 e)), if_pos ((ht _ _).1 hc3), if_neg (by simpa using hc4)]]
  exact ⟨⟨r', A3, l3, c3, h3, hb3, rfl⟩, rfl⟩)))
      ·
        refine x_skip (.then_normal ?_)
        refine x_seq (x_region ?_)
        refine tl_y rfl (y_move (v := .pointer _) rfl) ?_
        refine tl_y rfl (y_nilCheck rfl) ?_
        refine tl_y rfl (y_fieldAddr rfl) ?_
        refine tl_y rfl (y_fieldAddr rfl) ?_
        refine tl_y rfl (y_load rfl rfl (.own inferInstance inferInstance)) ?_
        refine tl_y rfl (y_add64 (b := 1) rfl rfl) ?_
        refine tl_y rfl (y_nilCheck rfl) ?_
        refine tl_y rfl (y_fieldAddr rfl) ?_
        refine tl_y rfl (y_fieldAddr rfl) ?_
        refine tl_e rfl (e_store rfl rfl (by rfl) (by rfl) inferInstance inferInstance inferInstance ?_)
        refine tl_nil (.then_normal ?_)
        refine .sub (F' := [(0, _)]) (.cons rfl .nil) ?_
        refine x_seq (x_region ?_)
        refine tl_y rfl (y_move (v := .pointer _) rfl) ?_
        refine tl_y rfl (y_nilCheck rfl) ?_
        refine tl_y rfl (y_fieldAddr rfl) ?_
        refine tl_y rfl (y_fieldAddr rfl) ?_
        refine tl_y rfl (y_load rfl rfl (.own inferInstance inferInstance)) ?_
        refine tl_y rfl (y_sub64 (b := 1) rfl rfl) ?_
        refine tl_y rfl (y_assign (v := .int _ _) rfl) ?_
        refine tl_y rfl (y_assign rfl) ?_
        refine tl_nil (.then_normal ?_)
        refine .sub (F' := [(2, _), (3, _)]) (.cons rfl (.cons rfl .nil)) ?_
        refine x_ret (.to (dL d r S (sL p d s A0 l0 c0 :: (c, .cells (List.toArray [.int .u64 (x.total.toNat : Int), .int .u64 (x.batch.toNat : Int), .int .u64 (x.reserved.toNat : Int), u64v (x.next + 1), .bool x.retired, .slice HA hl hc, .pointer (some ⟨p, 0, none⟩)]) 160 (0, 0)) :: R)) inferInstance (ret2 rfl rfl rfl (Le.refl _) (by
  rw [show takeC S s x head = (((S, s), nextC' x), ((nextC' x).next - 1, 0)) by rw [takeC, if_neg (by simp [hc1]), if_neg (fun e => hc2 ((ht _ _).2 e)), if_neg (fun e => hc3 ((ht _ _).2 e))]]
  exact ⟨⟨r, A0, l0, c0, h, hb, rfl⟩, rfl⟩)))
end
end Go.Proofs.YtbgdjdhbejbhkaaDoor
set_option linter.unusedVariables false
set_option linter.unusedSimpArgs false
namespace Go.Proofs.YtbgdjdhbejbhkaaDoor
open Go Go.Eng
section
variable {G : World} {M : Mem} {L R : Own} {p d : Nat} {S : DS} {s : SS} {r : DRep} {A0 HA : Option Addr} {l0 c0 hl hc : Nat}
theorem saveC_fresh (S : DS) (s : SS) (total batch : UInt64) (head : List UInt8) (hm : mayB (newX total batch) head.length = true) :
    saveC S s zeroC (newX total batch) head = if (saveRes S s (bytesC (newX total batch) head)).2 ≠ 0 then (((saveRes S s (bytesC (newX total batch) head)).1, zeroC), (saveRes S s (bytesC (newX total batch) head)).2) else (((saveRes S s (bytesC (newX total batch) head)).1, newX total batch), 0) := by
  have hne : newX total batch ≠ zeroC := fun e => by
    have h1 : (newX total batch).total = 0 := by rw [e]; rfl
    rw [mayB, decide_eq_true_eq, h1] at hm
    exact absurd hm.1 (by decide)
  rw [saveC, if_neg hne, if_neg (by simp [hm])]
theorem cNew_spec (hg : ShaG M) (h : IsDisk M r S) (ok : OkS S s) {B : Nat} (hw : S.within B) (hB : B ≤ 1000000) (hb : Bytes M A0 l0 c0 s.b) {head : List UInt8} (hh : Bytes M HA hl hc head) (total batch : UInt64) :
    Con Tryd.prog 51 #[.pointer (some ⟨p, 0, none⟩), .slice HA hl hc, .int .u64 (total.toNat : Int), .int .u64 (batch.toNat : Int)] G M (dL d r S (sL p d s A0 l0 c0 :: R))
      (fun v M' L' => if (newC S s head total batch).2 = 0 then ∃ c A' c', v = .tuple #[.pointer (some ⟨c, 0, none⟩), .int .i64 0] ∧ Bytes M' A' hl c' head ∧ SK p d (newC S s head total batch).1.1 (newC S s head total batch).1.2 (cL c (newX total batch) A' hl c' p :: R) M' L'
        else v = .tuple #[.pointer none, .int .i64 (newC S s head total batch).2] ∧ SK p d (newC S s head total batch).1.1 (newC S s head total batch).1.2 R M' L') noPanic := by
  have hl' := hh.size
  have hok := loadRes_ok ok
  refine enter (args := [_, _, _, _]) (fn := Tryd.f51) ⟨Tryd.func51, rfl, by kernel_rfl, by kernel_rfl⟩ 47 rfl ?_
  refine x_seq (x_region ?_)
  refine tl_y rfl (y_assign rfl) ?_
  refine tl_y rfl (y_assign rfl) ?_
  refine tl_nil (.then_normal ?_)
  refine x_seq (x_region ?_)
  refine tl_y rfl (y_move (v := .int _ _) rfl) ?_
  refine tl_y rfl (y_move (v := .int _ _) rfl) ?_
  refine tl_y rfl (y_build rfl) ?_
  refine tl_e rfl (e_alloc (fun b1 => ?_))
  refine tl_e rfl (e_store rfl rfl (by rfl) (by rfl) inferInstance inferInstance inferInstance ?_)
  refine tl_nil (.then_normal ?_)
  refine .sub (F' := [(0, _), (1, _), (10, _)]) (.cons rfl (.cons rfl (.cons rfl .nil))) ?_
  refine x_seq (x_seq (x_region ?_))
  refine tl_y rfl (y_loadAgg rfl rfl (.own inferInstance inferInstance)) ?_
  refine tl_y rfl (y_move (v := .slice _ _ _) rfl) ?_
  refine tl_e rfl (e_call' rfl (may_spec (newX total batch)) ?_)
  rintro _ _ _ _ ⟨rfl, rfl, rfl⟩
  refine tl_y rfl (y_not rfl) ?_
  refine tl_nil (.then_normal ?_)
  refine x_condb rfl (fun hc1 => ?_) (fun hc1 => ?_)
  ·
    refine x_seq (x_region ?_)
    refine tl_y rfl (y_assign rfl) ?_
    refine tl_y rfl (y_assign rfl) ?_
    refine tl_nil (.then_normal ?_)
    refine .sub (F' := [(8, _), (9, _)]) (.cons rfl (.cons rfl .nil)) ?_
    refine x_ret (.then_ret (.dropTo _ inferInstance (ret2 rfl rfl rfl (Le.refl _) (by
  have hm : mayB (newX total batch) head.length = false := by rw [hl']; simpa using hc1
  rw [show newC S s head total batch = ((S, s), 1) by rw [newC, if_pos hm]]
  rw [if_neg (by simp)]
  exact ⟨rfl, r, A0, l0, c0, h, hb, rfl⟩))))
  ·
    have hm : mayB (newX total batch) hl = true := by simpa using hc1
    have hm' : mayB (newX total batch) head.length = true := by rw [hl']; exact hm
    have hn200 : hl ≤ 200 := by rw [mayB, decide_eq_true_eq] at hm; omega
    refine x_skip (.then_normal ?_)
    refine .sub (F' := [(0, _), (1, _), (10, _)]) (.cons rfl (.cons rfl (.cons rfl .nil))) ?_
    refine x_seq (x_seq (x_region ?_))
    refine tl_y rfl (y_move (v := .pointer _) rfl) ?_
    refine .to (dL d r S (sL p d s A0 l0 c0 :: (b1, .cells (List.toArray [u64v total, u64v batch, .int .u64 0, .int .u64 0, .bool false]) 81 (0, 0)) :: R)) inferInstance ?_
    refine tl_e rfl (e_call' rfl (Load_spec hg h ok hb) ?_)
    rintro _ M1 _ hM1 ⟨⟨r1, A1, l1, c1, h1, hb1, rfl⟩, TA, tn, tc, rfl, hT⟩
    refine tl_y rfl (y_move (v := .tuple _) rfl) ?_
    refine tl_y rfl (y_extract rfl) ?_
    refine tl_y rfl (y_extract rfl) ?_
    refine tl_y rfl (y_extract rfl) ?_
    refine tl_y rfl (y_assign (v := .slice _ _ _) rfl) ?_
    refine tl_y rfl (y_assign (v := .int _ _) rfl) ?_
    refine tl_y rfl (y_assign (v := .int _ _) rfl) ?_
    refine tl_nil (.then_normal ?_)
    refine .sub (F' := [(0, _), (1, _), (10, _), (13, _)]) (.cons rfl (.cons rfl (.cons rfl (.cons rfl .nil)))) ?_
    refine x_seq (x_region ?_)
    refine tl_y rfl (y_move (v := .int _ _) rfl) ?_
    refine tl_nil (.then_normal ?_)
    refine x_block ?_
    refine x_seq (x_region ?_)
    refine tl_y rfl (y_eql rfl rfl) ?_
    refine tl_y rfl (y_assign (v := .bool _) rfl) ?_
    refine tl_nil (.then_normal ?_)
    refine x_cond rfl (fun hc2 => ?_) (fun hc2 => ?_)
    ·
      refine x_seq (x_region ?_)
      refine tl_y rfl (y_assign rfl) ?_
      refine tl_y rfl (y_assign rfl) ?_
      refine tl_nil (.then_normal ?_)
      refine .sub (F' := [(0, _), (1, _), (8, _), (9, _), (10, _)]) (.cons rfl (.cons rfl (.cons rfl (.cons rfl (.cons rfl .nil))))) ?_
      refine x_ret (.block_ret (.then_ret (.dropTo (dL d r1 S (sL p d (loadRes S s).1 A1 l1 c1 :: R)) inferInstance (ret2 rfl rfl rfl hM1 (by
  rw [show newC S s head total batch = ((S, (loadRes S s).1), 10) by rw [newC, if_neg (by simp [hm']), if_pos (by simpa using hc2)]]
  rw [if_neg (by simp)]
  exact ⟨rfl, r1, A1, l1, c1, h1, hb1, rfl⟩)))))
    ·
      refine x_seq (x_region ?_)
      refine tl_y rfl (y_eql rfl rfl) ?_
      refine tl_y rfl (y_assign (v := .bool _) rfl) ?_
      refine tl_nil (.then_normal ?_)
      refine .sub (F' := [(0, _), (1, _), (10, _), (13, _), (33, _)]) (.cons rfl (.cons rfl (.cons rfl (.cons rfl (.cons rfl .nil))))) ?_
      refine x_cond rfl (fun hc3 => ?_) (fun hc3 => ?_)
      ·
        refine x_skip (.block_normal (.then_normal ?_))
        refine x_seq (x_region ?_)
        refine tl_y rfl (y_move (v := .slice _ _ _) rfl) ?_
        refine tl_e rfl (e_call' rfl (bytesClone_spec (hh.mono hM1) (by omega)) ?_)
        rintro _ M2 _ hM2 ⟨rfl, A2, c2, rfl, hA2⟩
        refine tl_y rfl (y_move (v := .pointer _) rfl) ?_
        refine tl_y rfl (y_build rfl) ?_
        refine tl_e rfl (e_box rfl (fun b2 => ?_))
        refine tl_y rfl (y_assign (v := .pointer _) rfl) ?_
        refine tl_nil (.then_normal ?_)
        refine .sub (F' := [(10, _), (14, _)]) (.cons rfl (.cons rfl .nil)) ?_
        refine x_seq (x_seq (x_region ?_))
        refine tl_y rfl (y_move (v := .pointer _) rfl) ?_
        refine tl_y rfl (y_loadAgg rfl rfl (.own inferInstance inferInstance)) ?_
        refine .to (dL d r1 S (sL p d (loadRes S s).1 A1 l1 c1 :: (b2, .cells (List.toArray [.int .u64 0, .int .u64 0, .int .u64 0, .int .u64 0, .bool false, .slice A2 hl c2, .pointer (some ⟨p, 0, none⟩)]) 160 (0, 0)) :: (b1, .cells (List.toArray [u64v total, u64v batch, .int .u64 0, .int .u64 0, .bool false]) 81 (0, 0)) :: R)) inferInstance ?_
        refine tl_e rfl (e_call' rfl (csave_spec (hg.mono (hM1.trans hM2)) (h1.mono hM2) hok hw hB (hb1.mono hM2) hA2 zeroC (newX total batch)) ?_)
        rintro _ M3 _ hM3 ⟨⟨r3, A3, l3, c3, h3, hb3, rfl⟩, rfl⟩
        have hN : newC S s head total batch = saveRes S (loadRes S s).1 (bytesC (newX total batch) head) := by
          rw [newC, if_neg (by simp [hm']), if_neg (by simpa using hc2), if_pos (by simpa using hc3)]
        have hF := saveC_fresh S (loadRes S s).1 total batch head hm'
        have hLe : Le M M3 := hM1.trans (hM2.trans hM3)
        refine tl_y rfl (y_assign (v := .int _ _) rfl) ?_
        refine tl_nil (.then_normal ?_)
        refine .sub (F' := [(14, _), (15, _)]) (.cons rfl (.cons rfl .nil)) ?_
        refine x_seq (x_region ?_)
        refine tl_y rfl (y_move (v := .int _ _) rfl) ?_
        refine tl_y rfl (y_neq rfl rfl) ?_
        refine tl_nil (.then_normal ?_)
        refine x_condb rfl (fun hc4 => ?_) (fun hc4 => ?_)
        ·
          refine x_seq (x_region ?_)
          refine tl_y rfl (y_move (v := .int _ _) rfl) ?_
          refine tl_y rfl (y_assign rfl) ?_
          refine tl_y rfl (y_assign (v := .int _ _) rfl) ?_
          refine tl_nil (.then_normal ?_)
          refine .sub (F' := [(8, _), (9, _)]) (.cons rfl (.cons rfl .nil)) ?_
          refine x_ret (.then_ret (.dropTo (dL d r3 (saveC S (loadRes S s).1 zeroC (newX total batch) head).1.1.1 (sL p d (saveC S (loadRes S s).1 zeroC (newX total batch) head).1.1.2 A3 l3 c3 :: R)) inferInstance (ret2 rfl rfl rfl hLe (by
  have h0 : (saveRes S (loadRes S s).1 (bytesC (newX total batch) head)).2 ≠ 0 := by
    rw [hF] at hc4; split at hc4
    · assumption
    · exact absurd hc4 (by simp)
  rw [if_pos h0] at hF
  rw [hF] at h3 hb3 ⊢
  rw [hN, if_neg h0]
  exact ⟨rfl, r3, A3, l3, c3, h3, hb3, rfl⟩))))
        ·
          refine x_skip (.then_normal ?_)
          refine x_seq (x_region ?_)
          refine tl_y rfl (y_move (v := .pointer _) rfl) ?_
          refine tl_y rfl (y_assign (v := .pointer _) rfl) ?_
          refine tl_y rfl (y_assign rfl) ?_
          refine tl_nil (.then_normal ?_)
          refine .sub (F' := [(8, _), (9, _)]) (.cons rfl (.cons rfl .nil)) ?_
          refine x_ret (.dropTo (dL d r3 (saveC S (loadRes S s).1 zeroC (newX total batch) head).1.1.1 (sL p d (saveC S (loadRes S s).1 zeroC (newX total batch) head).1.1.2 A3 l3 c3 :: cL b2 (saveC S (loadRes S s).1 zeroC (newX total batch) head).1.2 A2 hl c2 p :: R)) inferInstance (ret2 rfl rfl rfl hLe (by
  have h0 : ¬ (saveRes S (loadRes S s).1 (bytesC (newX total batch) head)).2 ≠ 0 := fun h0 => by
    rw [hF, if_pos h0] at hc4; simp at hc4; exact h0 hc4
  rw [if_neg h0] at hF
  rw [hF] at h3 hb3 ⊢
  rw [hN, if_pos (by simpa using h0)]
  exact ⟨b2, A2, c2, rfl, hA2.mono hM3, r3, A3, l3, c3, h3, hb3, rfl⟩)))
      ·
        refine x_seq (x_region ?_)
        refine tl_y rfl (y_move (v := .int _ _) rfl) ?_
        refine tl_y rfl (y_assign rfl) ?_
        refine tl_y rfl (y_assign (v := .int _ _) rfl) ?_
        refine tl_nil (.then_normal ?_)
        refine x_ret (.block_ret (.then_ret (.dropTo (dL d r1 S (sL p d (loadRes S s).1 A1 l1 c1 :: R)) inferInstance (ret2 rfl rfl rfl hM1 (by
  have h0 : (loadRes S s).2 ≠ 0 := by simpa using hc2
  rw [show newC S s head total batch = ((S, (loadRes S s).1), (loadRes S s).2) by rw [newC, if_neg (by simp [hm']), if_neg h0, if_neg (by simpa using hc3)]]
  rw [if_neg h0]
  exact ⟨rfl, r1, A1, l1, c1, h1, hb1, rfl⟩)))))
theorem cOpen_spec (hg : ShaG M) (h : IsDisk M r S) (ok : OkS S s) (hb : Bytes M A0 l0 c0 s.b) :
    Con Tryd.prog 54 #[.pointer (some ⟨p, 0, none⟩)] G M (dL d r S (sL p d s A0 l0 c0 :: R))
      (fun v M' L' => if (openC S s).2 = 0 then ∃ c A' n' c', v = .tuple #[.pointer (some ⟨c, 0, none⟩), .int .i64 0] ∧ Bytes M' A' n' c' (openC S s).1.2 ∧ SK p d S (loadRes S s).1 (cL c (openC S s).1.1 A' n' c' p :: R) M' L'
        else v = .tuple #[.pointer none, .int .i64 (openC S s).2] ∧ SK p d S (loadRes S s).1 R M' L') noPanic := by
  refine enter (args := [_]) (fn := Tryd.f54) ⟨Tryd.func54, rfl, by kernel_rfl, by kernel_rfl⟩ 32 rfl ?_
  refine x_seq (x_region ?_)
  refine tl_y rfl (y_assign rfl) ?_
  refine tl_y rfl (y_assign rfl) ?_
  refine tl_nil (.then_normal ?_)
  refine x_seq (x_region ?_)
  refine tl_y rfl (y_move (v := .pointer _) rfl) ?_
  refine tl_e rfl (e_call' rfl (Load_spec hg h ok hb) ?_)
  rintro _ M1 _ hM1 ⟨⟨r1, A1, l1, c1, h1, hb1, rfl⟩, TA, tn, tc, rfl, hT⟩
  refine tl_y rfl (y_move (v := .tuple _) rfl) ?_
  refine tl_y rfl (y_extract rfl) ?_
  refine tl_y rfl (y_extract rfl) ?_
  refine tl_y rfl (y_extract rfl) ?_
  refine tl_y rfl (y_assign (v := .slice _ _ _) rfl) ?_
  refine tl_y rfl (y_assign (v := .int _ _) rfl) ?_
  refine tl_y rfl (y_assign (v := .int _ _) rfl) ?_
  refine tl_nil (.then_normal ?_)
  refine .sub (F' := [(0, _), (4, _), (6, _)]) (.cons rfl (.cons rfl (.cons rfl .nil))) ?_
  refine x_seq (x_seq (x_region ?_))
  refine tl_y rfl (y_move (v := .int _ _) rfl) ?_
  refine tl_y rfl (y_neq rfl rfl) ?_
  refine tl_nil (.then_normal ?_)
  refine x_condb rfl (fun hc1 => ?_) (fun hc1 => ?_)
  ·
    refine x_seq (x_region ?_)
    refine tl_y rfl (y_move (v := .int _ _) rfl) ?_
    refine tl_y rfl (y_assign rfl) ?_
    refine tl_y rfl (y_assign (v := .int _ _) rfl) ?_
    refine tl_nil (.then_normal ?_)
    refine .sub (F' := [(2, _), (3, _)]) (.cons rfl (.cons rfl .nil)) ?_
    refine x_ret (.then_ret (ret2 rfl rfl rfl hM1 (by
  have h0 : (loadRes S s).2 ≠ 0 := by simpa using hc1
  rw [show openC S s = ((zeroC, []), (loadRes S s).2) by rw [openC, if_pos h0], if_neg h0]
  exact ⟨rfl, r1, A1, l1, c1, h1, hb1, rfl⟩)))
  ·
    have h0 : (loadRes S s).2 = 0 := by simpa using hc1
    have hO : openC S s = readC (loadRes S s).1.b := by rw [openC, if_neg (by simp [h0])]
    have hT' : Bytes M1 TA tn tc (loadRes S s).1.b := by rw [loadTold, if_pos h0] at hT; exact hT
    have hTn : tn ≤ 140737488355328 := by have := hT'.size; have h1 := (loadRes_ok ok).b; have h2 := (loadRes_ok ok).n; omega
    refine x_skip (.then_normal ?_)
    refine x_seq (x_region ?_)
    refine tl_y rfl (y_move (v := .slice _ _ _) rfl) ?_
    refine tl_e rfl (e_call' rfl (Read_spec' hT' hTn) ?_)
    rintro _ M2 _ hM2 ⟨rfl, A2, n2, c2, rfl, hA2⟩
    have hLe : Le M M2 := hM1.trans hM2
    refine tl_y rfl (y_move (v := .tuple _) rfl) ?_
    refine tl_y rfl (y_extract rfl) ?_
    refine tl_y rfl (y_extract rfl) ?_
    refine tl_y rfl (y_extract rfl) ?_
    refine tl_e rfl (e_alloc (fun b1 => ?_))
    refine tl_e rfl (e_store rfl rfl (by rfl) (by rfl) inferInstance inferInstance inferInstance ?_)
    refine tl_y rfl (y_assign (v := .slice _ _ _) rfl) ?_
    refine tl_y rfl (y_assign (v := .int _ _) rfl) ?_
    refine tl_nil (.then_normal ?_)
    refine .sub (F' := [(0, _), (6, _), (7, _), (8, _)]) (.cons rfl (.cons rfl (.cons rfl (.cons rfl .nil)))) ?_
    refine x_seq (x_seq (x_region ?_))
    refine tl_y rfl (y_move (v := .int _ _) rfl) ?_
    refine tl_y rfl (y_neq rfl rfl) ?_
    refine tl_nil (.then_normal ?_)
    refine x_condb rfl (fun hc2 => ?_) (fun hc2 => ?_)
    ·
      refine x_seq (x_region ?_)
      refine tl_y rfl (y_move (v := .int _ _) rfl) ?_
      refine tl_y rfl (y_assign rfl) ?_
      refine tl_y rfl (y_assign (v := .int _ _) rfl) ?_
      refine tl_nil (.then_normal ?_)
      refine .sub (F' := [(2, _), (3, _)]) (.cons rfl (.cons rfl .nil)) ?_
      refine x_ret (.then_ret (.dropTo (dL d r1 S (sL p d (loadRes S s).1 A1 l1 c1 :: R)) inferInstance (ret2 rfl rfl rfl hLe (by
  have h2 : (readC (loadRes S s).1.b).2 ≠ 0 := by simpa using hc2
  rw [hO, if_neg h2]
  exact ⟨rfl, r1, A1, l1, c1, h1.mono hM2, hb1.mono hM2, rfl⟩))))
    ·
      refine x_skip (.then_normal ?_)
      refine x_seq (x_region ?_)
      refine tl_y rfl (y_loadAgg rfl rfl (.own inferInstance inferInstance)) ?_
      refine tl_y rfl (y_move (v := .slice _ _ _) rfl) ?_
      refine tl_y rfl (y_move (v := .pointer _) rfl) ?_
      refine tl_y rfl (y_build rfl) ?_
      refine tl_e rfl (e_box rfl (fun b2 => ?_))
      refine tl_y rfl (y_assign (v := .pointer _) rfl) ?_
      refine tl_y rfl (y_assign rfl) ?_
      refine tl_nil (.then_normal ?_)
      refine .sub (F' := [(2, _), (3, _)]) (.cons rfl (.cons rfl .nil)) ?_
      refine x_ret (.dropTo (dL d r1 S (sL p d (loadRes S s).1 A1 l1 c1 :: cL b2 (readC (loadRes S s).1.b).1.1 A2 n2 c2 p :: R)) inferInstance (ret2 rfl rfl rfl hLe (by
  have h2 : (readC (loadRes S s).1.b).2 = 0 := by simpa using hc2
  rw [hO, if_pos h2]
  exact ⟨b2, A2, n2, c2, rfl, hA2, r1, A1, l1, c1, h1.mono hM2, hb1.mono hM2, rfl⟩)))
end
end Go.Proofs.YtbgdjdhbejbhkaaDoor
