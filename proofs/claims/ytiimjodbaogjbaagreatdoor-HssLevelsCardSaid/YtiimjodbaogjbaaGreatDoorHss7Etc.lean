/-
Contracts of functions, each proved by a walk through its code.
-/
import Derived.Test.YtiimjodbaogjbaaGreatDoorHss2Etc
set_option linter.unusedVariables false
set_option linter.unusedSimpArgs false
set_option linter.constructorNameAsVariable false
namespace Go.Proofs.YtiimjodbaogjbaaGreatDoor
open Go Go.Eng
theorem and_low (y : UInt64) {H : Nat} (h : H ≤ 25) : (y &&& (shl64 1 H - 1)).toNat = y.toNat % pw2 H := by
  have h1 := shl64_one h
  have h2 := pw2_pos H
  have h3 := pw2_25 h
  have h4 : (shl64 1 H - 1).toNat = pw2 H - 1 := by
    rw [UInt64.toNat_sub_of_le _ _ (by rw [UInt64.le_iff_toNat_le, h1]; exact h2), h1]; rfl
  rw [UInt64.toNat_and, h4, pw2, Nat.and_two_pow_sub_one_eq_mod]
theorem and_low32 (y : UInt64) {H : Nat} (h : H ≤ 25) : (y &&& (shl64 1 H - 1)).toUInt32.toNat = y.toNat % pw2 H := by
  have h3 := pw2_25 h
  have h5 := Nat.mod_lt y.toNat (pw2_pos H)
  rw [UInt64.toNat_toUInt32, and_low y h, Nat.mod_eq_of_lt (by omega)]
theorem shr_low (y : UInt64) (H : Nat) : (shr64 y H).toNat = y.toNat / pw2 H := by
  have h1 := Nat.div_le_self y.toNat (pw2 H)
  have h2 := y.toNat_lt
  rw [shr64, UInt64.toNat_ofNat', show 2 ^ H = pw2 H from rfl, Nat.mod_eq_of_lt (by omega)]
theorem div_hsum (x a b : Nat) : x / pw2 b / pw2 a = x / pw2 (a + b) := by rw [Nat.div_div_eq_div_mul, ← pw2_add, Nat.add_comm]
section
variable {G : World} {M : Mem} {L : Own}
theorem places_spec (hg : HsG M) {A : Option Addr} {n c : Nat} {pl : List PairV} (h : Row M 2 A n c (prow pl)) (x : UInt64) :
    Con Tryz.prog 70 #[.slice A n c, .int .u64 (x.toNat : Int)] G M L (fun v M' L' => L' = L ∧ okL pl ∧ x.toNat < totN pl ∧ ∃ A' c', v = .slice A' n c' ∧ Row M' 1 A' n c' (u32r (atsN (pl.map tv) x.toNat))) (fun ch M' L' => L' = L ∧ ∃ e, ((¬ okL pl ∧ e = 4) ∨ (okL pl ∧ ¬ x.toNat < totN pl ∧ e = 9)) ∧ ch = hwrong e) := by
  have hln : pl.length = n := by have := h.len; rw [prow, flat_len pcl] at this; omega
  have hmx := h.max
  have hle := h.le
  refine enterM (args := [_, _]) (fn := Tryz.f70) ⟨Tryz.func70, rfl, by kernel_rfl, by kernel_rfl⟩ 37 rfl ?_
  refine x_seq (x_region ?_)
  refine tl_e rfl (e_box rfl (fun b1 => ?_))
  refine tl_y rfl (y_assign rfl) ?_
  refine tl_nil (.then_normal ?_)
  refine x_seq (x_region ?_)
  refine tl_y rfl (y_move (v := .slice _ _ _) rfl) ?_
  refine tl_e rfl (e_call rfl (trees_spec hg h) (by
    rintro _ M1 _ hM1 ⟨rfl, hno, rfl⟩
    exact TP.dropTo L inferInstance (.retM0 hM1 ⟨rfl, 4, .inl ⟨hno, rfl⟩, rfl⟩)) ?_)
  rintro _ M1 _ hM1 ⟨rfl, hok, A1, c1, rfl, hrow⟩
  have htot : totN pl = pw2 (hsum (pl.map tv)) := by rw [totN, if_pos hok]
  refine tl_y rfl (y_assign (v := .slice _ _ _) rfl) ?_
  refine tl_nil (.then_normal ?_)
  refine .sub (F' := [(3, _), (5, _)]) (.cons rfl (.cons rfl .nil)) ?_
  refine x_seq ?_
  refine x_draw 5 hmix rfl ?_
  refine to_y 0 rfl (by kernel_rfl) rfl (y_load rfl rfl (.own inferInstance inferInstance)) ?_
  refine to_p 1 rfl (by kernel_rfl) rfl (y_move (v := .slice _ _ _) rfl) ?_
  refine to_e 2 rfl (by kernel_rfl) rfl (e_call' rfl (total_spec hrow (okL_h hok) hok.2.2) ?_)
  rintro _ _ _ _ ⟨rfl, rfl, rfl⟩
  refine ⟨⟨(by first | exact Le.refl _ | assumption), Keeps.mem⟩, ?_⟩
  refine to_p 3 rfl (by kernel_rfl) rfl (y_lss rfl rfl) ?_
  refine to_e 4 rfl (by kernel_rfl) rfl (e_call rfl (hmust_spec _ _) (by
    rintro _ _ _ _ ⟨rfl, rfl, ht, rfl⟩
    exact TP.dropTo L inferInstance (.retM0 hM1 ⟨rfl, 9, .inr ⟨hok, by rw [htot]; simp at ht; omega, rfl⟩, rfl⟩)) ?_)
  rintro _ _ _ _ ⟨rfl, rfl, ht⟩
  have hlt : x.toNat < totN pl := by rw [htot]; simp at ht; omega
  refine ⟨⟨(by first | exact Le.refl _ | assumption), Keeps.mem⟩, ?_⟩
  refine to_nil (by kernel_rfl) (.then_normal ?_)
  refine .sub (F' := [(3, _), (5, _)]) (.cons rfl (.cons rfl .nil)) ?_
  refine x_seq (x_region ?_)
  refine tl_e rfl (e_alloc (fun b2 => ?_))
  refine tl_nil (.then_normal ?_)
  refine x_seq (x_seq (x_region ?_))
  refine tl_y rfl (y_move (v := .slice _ _ _) rfl) ?_
  refine tl_e rfl (e_call' rfl backwardT_spec ?_)
  rintro _ _ _ _ ⟨rfl, x0, rfl, rfl⟩
  refine tl_nil (.then_normal ?_)
  refine x_block ?_
  refine x_rangeN rfl rfl (fun l r0 fn tm lps las lbd hps has hbd htm => ?_)
  obtain ⟨xs, hxs⟩ : ∃ xs : LoopState → Option Code → Option Addr → Nat → Nat → Own → UInt64 → Own, ∀ st pd A k c E y, xs st pd A k c E y = lrec l st pd fn tm lps las lbd r0 :: (r0, .deferred (some [])) :: (b2, .cells (List.toArray [.slice A k c]) 50 (0, 0)) :: (E ++ ((b1, .cells (List.toArray [.int .u64 (y.toNat : Int)]) 37 (0, 0)) :: L)) := ⟨_, fun _ _ _ _ _ _ _ => rfl⟩
  refine Con.postD (Con.to ((x0, .cells (List.toArray [.slice A1 n c1]) 103 (0, 0)) :: xs .ready none none 0 0 [] x) (by rw [hxs, List.nil_append]; infer_instance) (backwardT1_spec hrow (Inv := fun k M2 X2 => ∃ (A6 : Option Addr) (c6 : Nat) (E6 : Own) (y : UInt64), Le M1 M2 ∧ y.toNat = x.toNat / pw2 (hsum ((pl.map tv).drop k)) ∧ OwnRow 22 1 A6 (n - k) c6 (u32r ((atsN (pl.map tv) x.toNat).drop k).reverse) E6 ∧ X2 = xs .ready none A6 (n - k) c6 E6 y) (Dn := fun _ _ => False) ?_ ⟨none, 0, [], x, Le.refl _, by rw [List.drop_of_length_le (by simp; omega)]; simp [hsum, pw2], by rw [List.drop_of_length_le (by rw [atsN_len]; simp; omega), Nat.sub_self]; exact .nil, by rw [Nat.sub_self]⟩)) ?_
  · rintro k M2 X2 t ht hM2 ⟨A6, c6, E6, y, hM12, hy, hE6, rfl⟩
    rw [hxs]
    have hkm : k < n := by have := (List.getElem?_eq_some_iff.1 ht).1; simp at this; omega
    obtain ⟨hH, hH1, hH25⟩ := okL_h hok t (List.mem_of_getElem? ht)
    have hds := hsum_drop ht
    have hn8 : n ≤ 8 := by have := hok.1.2; omega
    have hat : y.toNat % pw2 (hN t) = atN (pl.map tv) x.toNat k := by
      rw [atN, hy, List.getD_eq_getElem?_getD, ht]; rfl
    have hdr := drop_rev (atsN_get (pl.map tv) x.toNat (i := k) (by simp; omega))
    subst hps
    subst has
    subst hbd
    refine ycon_body htm rfl (by kernel_rfl) (fun R1 => ?_)
    simp only [List.cons_append, List.append_assoc]
    refine x_region ?_
    refine tl_e rfl (e_alloc (fun b7 => ?_))
    refine tl_e rfl (e_store rfl rfl (by rfl) (by rfl) inferInstance inferInstance inferInstance ?_)
    refine .bring l inferInstance ?_
    refine tl_nil (.asg (by kernel_rfl) ?_)
    refine x_block ?_
    refine x_seq ?_
    have he : Le M2 M2 := Le.refl _
    refine x_draw 9 hmix rfl ?_
    refine to_y 0 rfl (by kernel_rfl) rfl (y_load rfl rfl (.own inferInstance inferInstance)) ?_
    refine to_p 2 rfl (by kernel_rfl) rfl (y_fieldAddr rfl) ?_
    refine to_two 1 3 (by kernel_rfl) ?_ ?_
    ·
      refine two_e 1 rfl rfl (tr_y2 (y_load rfl rfl (.own inferInstance inferInstance)) ?_)
      refine ⟨⟨he, Keeps.mem⟩, ?_⟩
      refine to_y1 3 rfl (by kernel_rfl) rfl (y_load (v := .int .i64 ((hN t : Nat) : Int)) rfl rfl (by rw [← hH]; exact .own inferInstance inferInstance)) ?_
      refine to_p 4 rfl (by kernel_rfl) rfl (y_shl64 (a := 1) rfl rfl) ?_
      refine to_p 5 rfl (by kernel_rfl) rfl (y_sub64 (b := 1) rfl rfl) ?_
      refine to_p 6 rfl (by kernel_rfl) rfl (y_and64 rfl rfl) ?_
      refine to_p 7 rfl (by kernel_rfl) rfl (y_u64u32 rfl) ?_
      rw [show u32v ((y &&& (shl64 1 (hN t) - 1)).toUInt32) = .int .u32 ((atN (pl.map tv) x.toNat k : Nat) : Int) from congrArg (fun (x : Nat) => Value.int .u32 (x : Int)) ((and_low32 y hH25).trans hat)]
      refine to_e 8 rfl (by kernel_rfl) rfl (e_buildSlice rfl (by decide) (fun b8 => ?_))
      refine ⟨⟨he, Keeps.mem⟩, ?_⟩
      refine .pub b8 inferInstance (fun M5 hM5 hb8 => ?_)
      replace he := he.trans hM5
      refine .bringE E6 inferInstance ?_
      refine to_t 9 rfl (by kernel_rfl) (by kernel_rfl) rfl (e_append (by decide) rfl rfl hE6 (.row (Row.whole (s := 1) hb8 rfl (by omega))) rfl (by omega) (by omega) (fun A9 c9 E9 hE9 => ?_))
      have hrr : u32r ((atsN (pl.map tv) x.toNat).drop (k + 1)).reverse ++ [Value.int .u32 ((atN (pl.map tv) x.toNat k : Nat) : Int)] = u32r ((atsN (pl.map tv) x.toNat).drop k).reverse := by rw [hdr]; simp [u32r]
      rw [hrr, show n - (k + 1) + 1 = n - k by omega] at hE9
      rw [show n - (k + 1) + 1 = n - k by omega]
      refine to_t 10 rfl (by kernel_rfl) (by kernel_rfl) rfl (e_store rfl rfl (by rfl) (by rfl) inferInstance inferInstance inferInstance ?_)
      refine to_nil (by kernel_rfl) (.then_normal ?_)
      refine .sub (F' := [(3, _), (8, _)]) (.cons rfl (.cons rfl .nil)) ?_
      refine x_region ?_
      refine tl_y rfl (y_load rfl rfl (.own inferInstance inferInstance)) ?_
      refine tl_y rfl (y_fieldAddr rfl) ?_
      refine tl_y rfl (y_load (v := .int .i64 ((hN t : Nat) : Int)) rfl rfl (by rw [← hH]; exact .own inferInstance inferInstance)) ?_
      refine tl_y rfl (y_shr64 rfl rfl) ?_
      refine tl_e rfl (e_store rfl rfl (by rfl) (by rfl) inferInstance inferInstance inferInstance ?_)
      refine tl_nil (.block_normal (.on ((r0, .deferred (some [])) :: (b2, .cells (List.toArray [.slice A9 (n - k) c9]) 50 (0, 0)) :: (E9 ++ ((b1, .cells (List.toArray [.int .u64 ((shr64 y (hN t)).toNat : Int)]) 37 (0, 0)) :: (L ++ R1)))) inferInstance inferInstance
        (X := (r0, .deferred (some [])) :: (b2, .cells (List.toArray [.slice A9 (n - k) c9]) 50 (0, 0)) :: (E9 ++ ((b1, .cells (List.toArray [.int .u64 ((shr64 y (hN t)).toNat : Int)]) 37 (0, 0)) :: L))) (by simp) he ⟨A9, c9, E9, shr64 y (hN t), hM12.trans he, by rw [shr_low, hy, div_hsum, ← hds], hE9, (hxs _ _ _ _ _ _ _).symm⟩))
    ·
      refine two_e 3 rfl rfl (tr_y2 (y_load (v := .int .i64 ((hN t : Nat) : Int)) rfl rfl (by rw [← hH]; exact .own inferInstance inferInstance)) ?_)
      refine ⟨⟨he, Keeps.mem⟩, ?_⟩
      refine to_p 4 rfl (by kernel_rfl) rfl (y_shl64 (a := 1) rfl rfl) ?_
      refine to_p 5 rfl (by kernel_rfl) rfl (y_sub64 (b := 1) rfl rfl) ?_
      refine to_y1 1 rfl (by kernel_rfl) rfl (y_load rfl rfl (.own inferInstance inferInstance)) ?_
      refine to_p 6 rfl (by kernel_rfl) rfl (y_and64 rfl rfl) ?_
      refine to_p 7 rfl (by kernel_rfl) rfl (y_u64u32 rfl) ?_
      rw [show u32v ((y &&& (shl64 1 (hN t) - 1)).toUInt32) = .int .u32 ((atN (pl.map tv) x.toNat k : Nat) : Int) from congrArg (fun (x : Nat) => Value.int .u32 (x : Int)) ((and_low32 y hH25).trans hat)]
      refine to_e 8 rfl (by kernel_rfl) rfl (e_buildSlice rfl (by decide) (fun b8 => ?_))
      refine ⟨⟨he, Keeps.mem⟩, ?_⟩
      refine .pub b8 inferInstance (fun M5 hM5 hb8 => ?_)
      replace he := he.trans hM5
      refine .bringE E6 inferInstance ?_
      refine to_t 9 rfl (by kernel_rfl) (by kernel_rfl) rfl (e_append (by decide) rfl rfl hE6 (.row (Row.whole (s := 1) hb8 rfl (by omega))) rfl (by omega) (by omega) (fun A9 c9 E9 hE9 => ?_))
      have hrr : u32r ((atsN (pl.map tv) x.toNat).drop (k + 1)).reverse ++ [Value.int .u32 ((atN (pl.map tv) x.toNat k : Nat) : Int)] = u32r ((atsN (pl.map tv) x.toNat).drop k).reverse := by rw [hdr]; simp [u32r]
      rw [hrr, show n - (k + 1) + 1 = n - k by omega] at hE9
      rw [show n - (k + 1) + 1 = n - k by omega]
      refine to_t 10 rfl (by kernel_rfl) (by kernel_rfl) rfl (e_store rfl rfl (by rfl) (by rfl) inferInstance inferInstance inferInstance ?_)
      refine to_nil (by kernel_rfl) (.then_normal ?_)
      refine .sub (F' := [(3, _), (8, _)]) (.cons rfl (.cons rfl .nil)) ?_
      refine x_region ?_
      refine tl_y rfl (y_load rfl rfl (.own inferInstance inferInstance)) ?_
      refine tl_y rfl (y_fieldAddr rfl) ?_
      refine tl_y rfl (y_load (v := .int .i64 ((hN t : Nat) : Int)) rfl rfl (by rw [← hH]; exact .own inferInstance inferInstance)) ?_
      refine tl_y rfl (y_shr64 rfl rfl) ?_
      refine tl_e rfl (e_store rfl rfl (by rfl) (by rfl) inferInstance inferInstance inferInstance ?_)
      refine tl_nil (.block_normal (.on ((r0, .deferred (some [])) :: (b2, .cells (List.toArray [.slice A9 (n - k) c9]) 50 (0, 0)) :: (E9 ++ ((b1, .cells (List.toArray [.int .u64 ((shr64 y (hN t)).toNat : Int)]) 37 (0, 0)) :: (L ++ R1)))) inferInstance inferInstance
        (X := (r0, .deferred (some [])) :: (b2, .cells (List.toArray [.slice A9 (n - k) c9]) 50 (0, 0)) :: (E9 ++ ((b1, .cells (List.toArray [.int .u64 ((shr64 y (hN t)).toNat : Int)]) 37 (0, 0)) :: L))) (by simp) he ⟨A9, c9, E9, shr64 y (hN t), hM12.trans he, by rw [shr_low, hy, div_hsum, ← hds], hE9, (hxs _ _ _ _ _ _ _).symm⟩))
  · rintro v M3 L3 hM3 ⟨X', rfl, hX⟩
    rcases hX with ⟨A6, c6, E6, y, hM13, hy, hE6, rfl⟩ | hX
    · refine ⟨lrec l .ready none fn tm lps las lbd r0 :: (r0, .deferred (some [])) :: (b2, .cells (List.toArray [.slice A6 (n - 0) c6]) 50 (0, 0)) :: (E6 ++ ((b1, .cells (List.toArray [.int .u64 (y.toNat : Int)]) 37 (0, 0)) :: L)), by rw [hxs]; infer_instance, .ready, none, _, by simp, rfl, ?_⟩
      rw [Nat.sub_zero] at hE6 ⊢
      have hn1 := hok.1.1
      refine .block_normal (.then_normal ?_)
      refine .sub (F' := [(6, _)]) (.cons rfl .nil) ?_
      refine x_seq (x_region ?_)
      refine tl_y rfl (y_load rfl rfl (.own inferInstance inferInstance)) ?_
      refine .bringE E6 inferInstance ?_
      refine tl_e rfl (e_call' rfl (reverse_spec hE6 (by omega)) ?_)
      rintro _ _ _ _ ⟨rfl, E8, rfl, hE8⟩
      rw [List.drop_zero, List.reverse_reverse] at hE8
      refine tl_nil (.then_normal ?_)
      refine x_seq (x_region ?_)
      refine tl_y rfl (y_load rfl rfl (.own inferInstance inferInstance)) ?_
      refine tl_y rfl (y_assign (v := .slice _ _ _) rfl) ?_
      refine tl_nil (.then_normal ?_)
      refine .sub (F' := [(4, _)]) (.cons rfl .nil) ?_
      refine x_ret (.pubRow hE8 fun M9 hM9 hr9 => .retM1 (r := r0) (L1 := L) inferInstance (rv1 rfl (rc_tmp (by rfl))) inferInstance (hM1.trans (hM13.trans hM9)) ⟨rfl, hok, hlt, _, _, rfl, hr9⟩)
    · exact hX.elim
end
end Go.Proofs.YtiimjodbaogjbaaGreatDoor
set_option linter.unusedVariables false
set_option linter.unusedSimpArgs false
set_option linter.constructorNameAsVariable false
namespace Go.Proofs.YtiimjodbaogjbaaGreatDoor
open Go Go.Eng
def plE (l : List PairV) (x : Nat) : Int := if okL l then (if x < totN l then 0 else 9) else 4
def plV (l : List PairV) (x : Nat) : List Nat := if okL l ∧ x < totN l then atsN (l.map tv) x else []
section
variable {G : World} {M : Mem} {L : Own}
theorem Places1_spec (hg : HsG M) {A : Option Addr} {n c : Nat} {pl : List PairV} (h : Row M 2 A n c (prow pl)) (x : UInt64) {b1 b2 : Nat} [h1 : Has L b1 (.cells (List.toArray [.slice A n c]) 46 (0, 0))] [h2 : Has L b2 (.cells (List.toArray [.int .u64 (x.toNat : Int)]) 37 (0, 0))] :
    Con Tryz.prog 69 #[.pointer (some ⟨b1, 0, none⟩), .pointer (some ⟨b2, 0, none⟩)] G M L (fun v M' L' => L' = L ∧ ∃ A' n' c', v = .slice A' n' c' ∧ okL pl ∧ x.toNat < totN pl ∧ n' = n ∧ Row M' 1 A' n' c' (u32r (atsN (pl.map tv) x.toNat))) (fun ch M' L' => L' = L ∧ ∃ e, ((¬ okL pl ∧ e = 4) ∨ (okL pl ∧ ¬ x.toNat < totN pl ∧ e = 9)) ∧ ch = hwrong e) := by
  refine enter (args := [_, _]) (fn := Tryz.f69) ⟨Tryz.func69, rfl, by kernel_rfl, by kernel_rfl⟩ 6 rfl ?_
  refine x_seq (x_region ?_)
  refine tl_y rfl (y_assign rfl) ?_
  refine tl_nil (.then_normal ?_)
  refine x_seq (x_region ?_)
  refine tl_y rfl (y_load rfl rfl (.own inferInstance inferInstance)) ?_
  refine tl_y rfl (y_load rfl rfl (.own inferInstance inferInstance)) ?_
  refine tl_e rfl (e_call rfl (places_spec hg h x) (by
    rintro _ M1 _ hM1 ⟨rfl, e, he, rfl⟩
    exact .retA rfl hM1 ⟨rfl, e, he, rfl⟩) ?_)
  rintro _ M1 _ hM1 ⟨rfl, hok, hlt, A1, c1, rfl, hrow⟩
  refine tl_y rfl (y_assign (v := .slice _ _ _) rfl) ?_
  refine tl_nil (.then_normal ?_)
  refine .sub (F' := [(2, _)]) (.cons rfl .nil) ?_
  refine x_ret (ret1 rfl rfl hM1 ⟨rfl, _, _, _, rfl, hok, hlt, rfl, hrow⟩)
theorem Places_spec (hg : HsG M) {A : Option Addr} {n c : Nat} {pl : List PairV} (h : Row M 2 A n c (prow pl)) (x : UInt64) :
    Con Tryz.prog 25 #[.slice A n c, .int .u64 (x.toNat : Int)] G M L (fun v M' L' => L' = L ∧ ∃ A' n' c', v = .tuple #[.slice A' n' c', .int .i64 (plE pl x.toNat)] ∧ Row M' 1 A' n' c' (u32r (plV pl x.toNat))) noPanic := by
  refine enter (args := [_, _]) (fn := Tryz.f25) ⟨Tryz.func25, rfl, by kernel_rfl, by kernel_rfl⟩ 10 rfl ?_
  refine x_seq (x_region ?_)
  refine tl_e rfl (e_box rfl (fun b1 => ?_))
  refine tl_e rfl (e_box rfl (fun b2 => ?_))
  refine tl_y rfl (y_assign rfl) ?_
  refine tl_y rfl (y_assign rfl) ?_
  refine tl_nil (.then_normal ?_)
  refine .sub (F' := [(2, _), (3, _)]) (.cons rfl (.cons rfl .nil)) ?_
  refine x_seq (x_region ?_)
  refine tl_y rfl (y_makeFunc rfl rfl) ?_
  refine tl_e rfl (e_call' rfl (caughtS_spec (K := fun A' n' c' M' => okL pl ∧ x.toNat < totN pl ∧ n' = n ∧ Row M' 1 A' n' c' (u32r (atsN (pl.map tv) x.toNat))) (Kp := fun e => (¬ okL pl ∧ e = 4) ∨ (okL pl ∧ ¬ x.toNat < totN pl ∧ e = 9)) (first := []) (cap := [.pointer (some ⟨b1, 0, none⟩), .pointer (some ⟨b2, 0, none⟩)]) (fun p' q' => Places1_spec hg h x)) ?_)
  rintro v M1 _ hM1 ⟨rfl, hv⟩
  obtain ⟨A2, n2, c2, rfl, hrow⟩ : ∃ A' n' c', v = .tuple #[.slice A' n' c', .int .i64 (plE pl x.toNat)] ∧ Row M1 1 A' n' c' (u32r (plV pl x.toNat)) := by
    rcases hv with ⟨A', n', c', rfl, hok, hlt, rfl, hr⟩ | ⟨e, rfl, ⟨hno, rfl⟩ | ⟨hok, hno, rfl⟩⟩
    · exact ⟨A', n', c', by rw [plE, if_pos hok, if_pos hlt], by rw [plV, if_pos ⟨hok, hlt⟩]; exact hr⟩
    · exact ⟨none, 0, 0, by rw [plE, if_neg hno], by rw [plV, if_neg (fun h => hno h.1)]; exact Row.nil _ _⟩
    · exact ⟨none, 0, 0, by rw [plE, if_pos hok, if_neg hno], by rw [plV, if_neg (fun h => hno h.2)]; exact Row.nil _ _⟩
  refine tl_y rfl (y_extract rfl) ?_
  refine tl_y rfl (y_extract rfl) ?_
  refine tl_y rfl (y_assign (v := .slice _ _ _) rfl) ?_
  refine tl_y rfl (y_assign (v := .int _ _) rfl) ?_
  refine tl_nil (.then_normal ?_)
  refine .sub (F' := [(4, _), (5, _)]) (.cons rfl (.cons rfl .nil)) ?_
  refine x_ret (.dropTo L inferInstance (ret2 rfl rfl rfl hM1 ⟨rfl, _, _, _, rfl, hrow⟩))
theorem take_short {b : Nat} {A : Option Addr} {n c : Nat} (hn : n < 4) [hb : Has L b (.cells (List.toArray [.slice A n c]) 35 (0, 0))] :
    Con Tryz.prog 207 #[.pointer (some ⟨b, 0, none⟩), .int .i64 4] G M L (fun v M' L' => False) (fun ch M' L' => L' = L ∧ ch = hwrong 2) := by
  refine enter (args := [_, _]) (fn := Tryz.f207) ⟨Tryz.func207, rfl, by kernel_rfl, by kernel_rfl⟩ 27 rfl ?_
  refine x_seq (x_region ?_)
  refine tl_y rfl (y_assign rfl) ?_
  refine tl_nil (.then_normal ?_)
  refine x_seq (x_region ?_)
  refine tl_y rfl (y_move (v := .pointer _) rfl) ?_
  refine tl_y rfl (y_nilCheck rfl) ?_
  refine tl_y rfl (y_load rfl rfl (.own inferInstance inferInstance)) ?_
  refine tl_y rfl (y_len rfl) ?_
  refine tl_y rfl (y_move (v := .int _ _) rfl) ?_
  refine tl_y rfl (y_geq rfl rfl) ?_
  refine tl_e rfl (e_call rfl (hmust_spec _ _) (by
    rintro _ _ _ _ ⟨rfl, rfl, ht, rfl⟩
    exact .retA rfl (Le.refl _) ⟨rfl, rfl⟩) (by
    rintro _ _ _ _ ⟨rfl, rfl, ht⟩
    exact absurd ht (by rw [decide_eq_true_iff]; omega)))
theorem count_short {b : Nat} {A : Option Addr} {n c : Nat} (hn : n < 4) [hb : Has L b (.cells (List.toArray [.slice A n c]) 35 (0, 0))] :
    Con Tryz.prog 164 #[.pointer (some ⟨b, 0, none⟩)] G M L (fun v M' L' => False) (fun ch M' L' => L' = L ∧ ch = hwrong 2) := by
  refine enter (args := [_]) (fn := Tryz.f164) ⟨Tryz.func164, rfl, by kernel_rfl, by kernel_rfl⟩ 13 rfl ?_
  refine x_seq (x_region ?_)
  refine tl_y rfl (y_assign rfl) ?_
  refine tl_nil (.then_normal ?_)
  refine x_seq (x_region ?_)
  refine tl_y rfl (y_move (v := .pointer _) rfl) ?_
  refine tl_e rfl (e_call rfl (take_short hn) (by
    rintro _ M1 _ hM1 ⟨rfl, rfl⟩
    exact .retA rfl hM1 ⟨rfl, rfl⟩) (fun _ _ _ _ h => h.elim))
theorem parts_short {A B : Option Addr} {n c m d : Nat} (hn : n < 4) :
    Con Tryz.prog 105 #[.slice A n c, .slice B m d] G M L (fun v M' L' => False) (fun ch M' L' => L' = L ∧ ch = hwrong 2) := by
  refine enter (args := [_, _]) (fn := Tryz.f105) ⟨Tryz.func105, rfl, by kernel_rfl, by kernel_rfl⟩ 56 rfl ?_
  refine x_seq (x_region ?_)
  refine tl_e rfl (e_box rfl (fun b1 => ?_))
  refine tl_e rfl (e_box rfl (fun b2 => ?_))
  refine tl_y rfl (y_assign rfl) ?_
  refine tl_nil (.then_normal ?_)
  refine x_seq (x_region ?_)
  refine tl_e rfl (e_call rfl (count_short hn) (by
    rintro _ M1 _ hM1 ⟨rfl, rfl⟩
    exact TP.dropTo L inferInstance (.retA rfl hM1 ⟨rfl, rfl⟩)) (fun _ _ _ _ h => h.elim))
theorem Read1_short {b1 b2 : Nat} {A B : Option Addr} {n c m d : Nat} (hn : n < 4) [h1 : Has L b1 (.cells (List.toArray [.slice A n c]) 35 (0, 0))] [h2 : Has L b2 (.cells (List.toArray [.slice B m d]) 35 (0, 0))] :
    Con Tryz.prog 104 #[.pointer (some ⟨b1, 0, none⟩), .pointer (some ⟨b2, 0, none⟩)] G M L (fun v M' L' => L' = L ∧ ∃ A n c, v = .slice A n c ∧ False) (fun ch M' L' => L' = L ∧ ∃ e, e = 2 ∧ ch = hwrong e) := by
  refine enter (args := [_, _]) (fn := Tryz.f104) ⟨Tryz.func104, rfl, by kernel_rfl, by kernel_rfl⟩ 30 rfl ?_
  refine x_seq (x_region ?_)
  refine tl_y rfl (y_assign rfl) ?_
  refine tl_nil (.then_normal ?_)
  refine x_seq (x_region ?_)
  refine tl_y rfl (y_assign rfl) ?_
  refine tl_nil (.then_normal ?_)
  refine x_seq (x_seq (x_region ?_))
  refine tl_y rfl (y_load rfl rfl (.own inferInstance inferInstance)) ?_
  refine tl_y rfl (y_load rfl rfl (.own inferInstance inferInstance)) ?_
  refine tl_e rfl (e_call rfl (parts_short hn) (by
    rintro _ M1 _ hM1 ⟨rfl, rfl⟩
    exact .retA rfl hM1 ⟨rfl, 2, rfl, rfl⟩) (fun _ _ _ _ h => h.elim))
theorem Read_short {A B : Option Addr} {n c m d : Nat} (hn : n < 4) :
    Con Tryz.prog 46 #[.slice A n c, .slice B m d] G M L (fun v M' L' => L' = L ∧ v = .tuple #[.slice none 0 0, .int .i64 2]) noPanic := by
  refine enter (args := [_, _]) (fn := Tryz.f46) ⟨Tryz.func46, rfl, by kernel_rfl, by kernel_rfl⟩ 10 rfl ?_
  refine x_seq (x_region ?_)
  refine tl_e rfl (e_box rfl (fun b1 => ?_))
  refine tl_e rfl (e_box rfl (fun b2 => ?_))
  refine tl_y rfl (y_assign rfl) ?_
  refine tl_y rfl (y_assign rfl) ?_
  refine tl_nil (.then_normal ?_)
  refine .sub (F' := [(2, _), (3, _)]) (.cons rfl (.cons rfl .nil)) ?_
  refine x_seq (x_region ?_)
  refine tl_y rfl (y_makeFunc rfl rfl) ?_
  refine tl_e rfl (e_call' rfl (caughtS_spec (K := fun _ _ _ _ => False) (Kp := fun e => e = 2) (first := []) (cap := [.pointer (some ⟨b1, 0, none⟩), .pointer (some ⟨b2, 0, none⟩)]) (fun p' q' => Read1_short hn)) ?_)
  rintro v M1 _ hM1 ⟨rfl, hv⟩
  obtain rfl : v = .tuple #[.slice none 0 0, .int .i64 2] := by
    rcases hv with ⟨_, _, _, _, h⟩ | ⟨e, rfl, rfl⟩
    · exact h.elim
    · rfl
  refine tl_y rfl (y_extract rfl) ?_
  refine tl_y rfl (y_extract rfl) ?_
  refine tl_y rfl (y_assign (v := .slice _ _ _) rfl) ?_
  refine tl_y rfl (y_assign (v := .int _ _) rfl) ?_
  refine tl_nil (.then_normal ?_)
  refine .sub (F' := [(4, _), (5, _)]) (.cons rfl (.cons rfl .nil)) ?_
  refine x_ret (.dropTo L inferInstance (ret2 rfl rfl rfl hM1 ⟨rfl, rfl⟩))
end
end Go.Proofs.YtiimjodbaogjbaaGreatDoor
set_option linter.unusedVariables false
set_option linter.unusedSimpArgs false
set_option linter.constructorNameAsVariable false
namespace Go.Proofs.YtiimjodbaogjbaaGreatDoor
open Go Go.Eng
section
variable {G : World} {M : Mem} {L : Own}
theorem RSets12_spec (p : PairV) :
    Con Tryz.prog 16 #[.agg (List.toArray p.cells)] G M L (fun v M' L' => M = M' ∧ L = L' ∧ v = .tuple #[.agg (List.toArray (otsV p.o).cells), .agg (List.toArray (treeV p.t).cells), .bool (decide (okP p))]) noPanic := by
  refine enter (args := [_]) (fn := Tryz.f16) ⟨Tryz.func16, rfl, by kernel_rfl, by kernel_rfl⟩ 43 rfl ?_
  refine x_seq (x_region ?_)
  refine tl_e rfl (e_box rfl (fun b1 => ?_))
  refine tl_e rfl (e_alloc (fun b2 => ?_))
  refine tl_e rfl (e_alloc (fun b3 => ?_))
  refine tl_y rfl (y_assign rfl) ?_
  refine tl_nil (.then_normal ?_)
  refine x_seq (x_region ?_)
  refine tl_y rfl (y_fieldAddr rfl) ?_
  refine tl_y rfl (y_load rfl rfl (.own inferInstance inferInstance)) ?_
  refine tl_e rfl (e_call' rfl (ROts_spec p.o) ?_)
  rintro _ _ _ _ ⟨rfl, rfl, rfl⟩
  refine tl_y rfl (y_move (v := .tuple _) rfl) ?_
  refine tl_y rfl (y_extract rfl) ?_
  refine tl_y rfl (y_extract rfl) ?_
  refine tl_e rfl (e_alloc (fun b4 => ?_))
  refine tl_e rfl (e_store rfl rfl (by rfl) (by rfl) inferInstance inferInstance inferInstance ?_)
  refine tl_y rfl (y_assign (v := .int _ _) rfl) ?_
  refine tl_nil (.then_normal ?_)
  refine .sub (F' := [(1, _), (2, _), (3, _), (5, _), (6, _)]) (.cons rfl (.cons rfl (.cons rfl (.cons rfl (.cons rfl .nil))))) ?_
  refine x_seq (x_region ?_)
  refine tl_y rfl (y_fieldAddr rfl) ?_
  refine tl_y rfl (y_load rfl rfl (.own inferInstance inferInstance)) ?_
  refine tl_e rfl (e_call' rfl (RTree_spec p.t) ?_)
  rintro _ _ _ _ ⟨rfl, rfl, rfl⟩
  refine tl_y rfl (y_move (v := .tuple _) rfl) ?_
  refine tl_y rfl (y_extract rfl) ?_
  refine tl_y rfl (y_extract rfl) ?_
  refine tl_e rfl (e_alloc (fun b5 => ?_))
  refine tl_e rfl (e_store rfl rfl (by rfl) (by rfl) inferInstance inferInstance inferInstance ?_)
  refine tl_y rfl (y_assign (v := .int _ _) rfl) ?_
  refine tl_nil (.then_normal ?_)
  refine .sub (F' := [(2, _), (3, _), (5, _), (6, _), (7, _), (8, _)]) (.cons rfl (.cons rfl (.cons rfl (.cons rfl (.cons rfl (.cons rfl .nil)))))) ?_
  refine x_seq ?_
  refine x_draw0 24 ([(b5, .cells (List.toArray (treeV p.t).cells) 29 (0, 0)), (b4, .cells (List.toArray (otsV p.o).cells) 27 (0, 0))]) Keeps.mem hmix rfl ?_
  refine to_y 0 rfl (by kernel_rfl) rfl (y_loadAgg rfl rfl (.own inferInstance inferInstance)) ?_
  refine to_y 1 rfl (by kernel_rfl) rfl (y_loadAgg rfl rfl (.own inferInstance inferInstance)) ?_
  refine to_p 2 rfl (by kernel_rfl) rfl (y_move (v := .int _ _) rfl) ?_
  refine to_p 3 rfl (by kernel_rfl) rfl (y_eql rfl rfl) ?_
  refine to_p 4 rfl (by kernel_rfl) rfl (y_move (v := .bool _) rfl) ?_
  refine to_cases (s := 25) rfl (fun hk1 => ?_) (fun hk1 => ?_)
  ·
    refine to_p 5 rfl (by kernel_rfl) rfl (y_move (v := .int _ _) rfl) ?_
    refine to_p 6 rfl (by kernel_rfl) rfl (y_eql rfl rfl) ?_
    refine to_p 7 rfl (by kernel_rfl) rfl (y_pickT rfl rfl) ?_
    refine to_p 8 rfl (by kernel_rfl) rfl (y_move (v := .bool _) rfl) ?_
    refine to_cases (s := 29) rfl (fun hk2 => ?_) (fun hk2 => ?_)
    ·
      refine to_p 9 rfl (by kernel_rfl) rfl (y_fieldAddr rfl) ?_
      refine to_y 10 rfl (by kernel_rfl) rfl (y_load rfl rfl (.own inferInstance inferInstance)) ?_
      refine to_p 11 rfl (by kernel_rfl) rfl (y_fieldAddr rfl) ?_
      refine to_y 12 rfl (by kernel_rfl) rfl (y_load rfl rfl (.own inferInstance inferInstance)) ?_
      refine to_p 13 rfl (by kernel_rfl) rfl (y_eql rfl rfl) ?_
      refine to_p 14 rfl (by kernel_rfl) rfl (y_pickT rfl rfl) ?_
      refine to_p 15 rfl (by kernel_rfl) rfl (y_move (v := .bool _) rfl) ?_
      refine to_cases (s := 36) rfl (fun hk3 => ?_) (fun hk3 => ?_)
      ·
        refine to_p 16 rfl (by kernel_rfl) rfl (y_fieldAddr rfl) ?_
        refine to_y 17 rfl (by kernel_rfl) rfl (y_load rfl rfl (.own inferInstance inferInstance)) ?_
        refine to_p 18 rfl (by kernel_rfl) rfl (y_fieldAddr rfl) ?_
        refine to_y 19 rfl (by kernel_rfl) rfl (y_load rfl rfl (.own inferInstance inferInstance)) ?_
        refine to_p 20 rfl (by kernel_rfl) rfl (y_eql rfl rfl) ?_
        refine to_p 21 rfl (by kernel_rfl) rfl (y_pickT rfl rfl) ?_
        refine to_e 22 rfl (by kernel_rfl) rfl (e_store rfl rfl (by rfl) (by rfl) inferInstance inferInstance inferInstance ?_)
        refine ⟨⟨(by first | exact Le.refl _ | assumption), Keeps.mem⟩, ?_⟩
        refine to_e 23 rfl (by kernel_rfl) rfl (e_store rfl rfl (by rfl) (by rfl) inferInstance inferInstance inferInstance ?_)
        refine ⟨⟨(by first | exact Le.refl _ | assumption), Keeps.mem⟩, ?_⟩
        refine to_y1 24 rfl (by kernel_rfl) rfl (y_assign (v := .bool _) rfl) ?_
        refine to_nil (by kernel_rfl) (.then_normal ?_)
        refine .sub (F' := [(2, _), (3, _), (4, _)]) (.cons rfl (.cons rfl (.cons rfl .nil))) ?_
        refine x_ret (retRV (L' := L) (rv3 rfl (rc_cellAgg (by rfl) rfl (.own inferInstance inferInstance)) (rc_cellAgg (by rfl) rfl (.own inferInstance inferInstance)) (rc_tmp (by rfl))) inferInstance (Le.refl _) ⟨rfl, rfl, by simp_all [okP]⟩)
      ·
        refine to_skip 16 rfl (by kernel_rfl) rfl ?_
        refine to_skip 17 rfl (by kernel_rfl) rfl ?_
        refine to_skip 18 rfl (by kernel_rfl) rfl ?_
        refine to_skip 19 rfl (by kernel_rfl) rfl ?_
        refine to_skip 20 rfl (by kernel_rfl) rfl ?_
        refine to_p 21 rfl (by kernel_rfl) rfl (y_pickF rfl rfl) ?_
        refine to_e 22 rfl (by kernel_rfl) rfl (e_store rfl rfl (by rfl) (by rfl) inferInstance inferInstance inferInstance ?_)
        refine ⟨⟨(by first | exact Le.refl _ | assumption), Keeps.mem⟩, ?_⟩
        refine to_e 23 rfl (by kernel_rfl) rfl (e_store rfl rfl (by rfl) (by rfl) inferInstance inferInstance inferInstance ?_)
        refine ⟨⟨(by first | exact Le.refl _ | assumption), Keeps.mem⟩, ?_⟩
        refine to_y1 24 rfl (by kernel_rfl) rfl (y_assign (v := .bool _) rfl) ?_
        refine to_nil (by kernel_rfl) (.then_normal ?_)
        refine .sub (F' := [(2, _), (3, _), (4, _)]) (.cons rfl (.cons rfl (.cons rfl .nil))) ?_
        refine x_ret (retRV (L' := L) (rv3 rfl (rc_cellAgg (by rfl) rfl (.own inferInstance inferInstance)) (rc_cellAgg (by rfl) rfl (.own inferInstance inferInstance)) (rc_tmp (by rfl))) inferInstance (Le.refl _) ⟨rfl, rfl, by simp_all [okP]⟩)
    ·
      refine to_skip 9 rfl (by kernel_rfl) rfl ?_
      refine to_skip 10 rfl (by kernel_rfl) rfl ?_
      refine to_skip 11 rfl (by kernel_rfl) rfl ?_
      refine to_skip 12 rfl (by kernel_rfl) rfl ?_
      refine to_skip 13 rfl (by kernel_rfl) rfl ?_
      refine to_p 14 rfl (by kernel_rfl) rfl (y_pickF rfl rfl) ?_
      refine to_p 15 rfl (by kernel_rfl) rfl (y_move (v := .bool _) rfl) ?_
      refine to_skip 16 rfl (by kernel_rfl) rfl ?_
      refine to_skip 17 rfl (by kernel_rfl) rfl ?_
      refine to_skip 18 rfl (by kernel_rfl) rfl ?_
      refine to_skip 19 rfl (by kernel_rfl) rfl ?_
      refine to_skip 20 rfl (by kernel_rfl) rfl ?_
      refine to_p 21 rfl (by kernel_rfl) rfl (y_pickF rfl rfl) ?_
      refine to_e 22 rfl (by kernel_rfl) rfl (e_store rfl rfl (by rfl) (by rfl) inferInstance inferInstance inferInstance ?_)
      refine ⟨⟨(by first | exact Le.refl _ | assumption), Keeps.mem⟩, ?_⟩
      refine to_e 23 rfl (by kernel_rfl) rfl (e_store rfl rfl (by rfl) (by rfl) inferInstance inferInstance inferInstance ?_)
      refine ⟨⟨(by first | exact Le.refl _ | assumption), Keeps.mem⟩, ?_⟩
      refine to_y1 24 rfl (by kernel_rfl) rfl (y_assign (v := .bool _) rfl) ?_
      refine to_nil (by kernel_rfl) (.then_normal ?_)
      refine .sub (F' := [(2, _), (3, _), (4, _)]) (.cons rfl (.cons rfl (.cons rfl .nil))) ?_
      refine x_ret (retRV (L' := L) (rv3 rfl (rc_cellAgg (by rfl) rfl (.own inferInstance inferInstance)) (rc_cellAgg (by rfl) rfl (.own inferInstance inferInstance)) (rc_tmp (by rfl))) inferInstance (Le.refl _) ⟨rfl, rfl, by simp_all [okP]⟩)
  ·
    refine to_skip 5 rfl (by kernel_rfl) rfl ?_
    refine to_skip 6 rfl (by kernel_rfl) rfl ?_
    refine to_p 7 rfl (by kernel_rfl) rfl (y_pickF rfl rfl) ?_
    refine to_p 8 rfl (by kernel_rfl) rfl (y_move (v := .bool _) rfl) ?_
    refine to_skip 9 rfl (by kernel_rfl) rfl ?_
    refine to_skip 10 rfl (by kernel_rfl) rfl ?_
    refine to_skip 11 rfl (by kernel_rfl) rfl ?_
    refine to_skip 12 rfl (by kernel_rfl) rfl ?_
    refine to_skip 13 rfl (by kernel_rfl) rfl ?_
    refine to_p 14 rfl (by kernel_rfl) rfl (y_pickF rfl rfl) ?_
    refine to_p 15 rfl (by kernel_rfl) rfl (y_move (v := .bool _) rfl) ?_
    refine to_skip 16 rfl (by kernel_rfl) rfl ?_
    refine to_skip 17 rfl (by kernel_rfl) rfl ?_
    refine to_skip 18 rfl (by kernel_rfl) rfl ?_
    refine to_skip 19 rfl (by kernel_rfl) rfl ?_
    refine to_skip 20 rfl (by kernel_rfl) rfl ?_
    refine to_p 21 rfl (by kernel_rfl) rfl (y_pickF rfl rfl) ?_
    refine to_e 22 rfl (by kernel_rfl) rfl (e_store rfl rfl (by rfl) (by rfl) inferInstance inferInstance inferInstance ?_)
    refine ⟨⟨(by first | exact Le.refl _ | assumption), Keeps.mem⟩, ?_⟩
    refine to_e 23 rfl (by kernel_rfl) rfl (e_store rfl rfl (by rfl) (by rfl) inferInstance inferInstance inferInstance ?_)
    refine ⟨⟨(by first | exact Le.refl _ | assumption), Keeps.mem⟩, ?_⟩
    refine to_y1 24 rfl (by kernel_rfl) rfl (y_assign (v := .bool _) rfl) ?_
    refine to_nil (by kernel_rfl) (.then_normal ?_)
    refine .sub (F' := [(2, _), (3, _), (4, _)]) (.cons rfl (.cons rfl (.cons rfl .nil))) ?_
    refine x_ret (retRV (L' := L) (rv3 rfl (rc_cellAgg (by rfl) rfl (.own inferInstance inferInstance)) (rc_cellAgg (by rfl) rfl (.own inferInstance inferInstance)) (rc_tmp (by rfl))) inferInstance (Le.refl _) ⟨rfl, rfl, by simp_all [okP]⟩)
end
end Go.Proofs.YtiimjodbaogjbaaGreatDoor
set_option linter.unusedVariables false
set_option linter.unusedSimpArgs false
set_option linter.constructorNameAsVariable false
namespace Go.Proofs.YtiimjodbaogjbaaGreatDoor
open Go Go.Eng
section
variable {G : World} {M : Mem} {L : Own}
theorem Words_spec {A B : Option Addr} {n c m d : Nat} {xs ys : List Nat} (ha : Row M 1 A n c (u32r xs)) (hb : Row M 1 B m d (u32r ys)) (he : xs = ys) :
    Con Tryz.prog 27 #[.slice A n c, .slice B m d] G M L (fun v M' L' => M = M' ∧ L = L' ∧ v = .bool true) noPanic := by
  subst he
  have hmx := ha.max
  have hle := ha.le
  have hnl : xs.length = n := by have := ha.len; simp [u32r] at this; omega
  have hnl2 : xs.length = m := by have := hb.len; simp [u32r] at this; omega
  obtain rfl : n = m := by omega
  refine enter (args := [_, _]) (fn := Tryz.f27) ⟨Tryz.func27, rfl, by kernel_rfl, by kernel_rfl⟩ 26 rfl ?_
  refine x_seq (x_region ?_)
  refine tl_y rfl (y_assign rfl) ?_
  refine tl_nil (.then_normal ?_)
  refine x_seq (x_seq (x_region ?_))
  refine tl_y rfl (y_move (v := .slice _ _ _) rfl) ?_
  refine tl_y rfl (y_len rfl) ?_
  refine tl_y rfl (y_move (v := .slice _ _ _) rfl) ?_
  refine tl_y rfl (y_len rfl) ?_
  refine tl_y rfl (y_neq rfl rfl) ?_
  refine tl_nil (.then_normal ?_)
  refine .sub (F' := [(0, _), (1, _), (4, _), (10, _)]) (.cons rfl (.cons rfl (.cons rfl (.cons rfl .nil)))) ?_
  refine x_false rfl (by simp) ?_
  refine x_skip (.then_normal ?_)
  refine x_seq (x_seq (x_region ?_))
  refine tl_y rfl (y_assign rfl) ?_
  refine tl_nil (.then_normal ?_)
  refine x_block ?_
  refine x_loop (I := fun m' F D M1 L1 => ∃ k : Nat, m' = n - k ∧ k ≤ n ∧ D = [] ∧ M = M1 ∧ L = L1 ∧ F = [(0, .slice A n c), (1, .slice B n d), (4, .bool false), (5, .int .i64 k)]) (n) (F0 := [(0, _), (1, _), (4, _), (5, _)]) ?_ (.cons rfl (.cons rfl (.cons rfl (.cons rfl .nil)))) ?_  -- slots [0, 1, 4, 5], written [4, 5]
  · exact ⟨0, rfl, by omega, rfl, rfl, rfl, rfl⟩
  rintro m _ _ _ _ ⟨k, rfl, hk, rfl, rfl, rfl, rfl⟩
  refine x_seq (x_seq (x_region ?_))
  refine tl_y rfl (y_move (v := .int _ _) rfl) ?_
  refine tl_y rfl (y_move (v := .slice _ _ _) rfl) ?_
  refine tl_y rfl (y_len rfl) ?_
  refine tl_y rfl (y_lss rfl rfl) ?_
  refine tl_nil (.then_normal ?_)
  refine x_cond rfl (fun hc2 => ?_) (fun hc2 => ?_)
  ·
    have hkn : k < n := by omega
    obtain ⟨a, hxa⟩ : ∃ a, xs[k]? = some a := ⟨_, List.getElem?_eq_getElem (by omega)⟩
    obtain ⟨g, o, rfl, hcell⟩ := ha.addr (by omega)
    obtain ⟨g2, o2, rfl, hcell2⟩ := hb.addr (by omega)
    refine x_skip (.then_normal ?_)
    refine .sub (F' := [(0, _), (1, _), (4, _), (5, _)]) (.cons rfl (.cons rfl (.cons rfl (.cons rfl .nil)))) ?_
    refine x_seq ?_
    refine x_block ?_
    refine x_seq ?_
    refine x_draw 9 hmix rfl ?_
    refine to_p 0 rfl (by kernel_rfl) rfl (y_move (v := .slice _ _ _) rfl) ?_
    refine to_p 1 rfl (by kernel_rfl) rfl (y_move (v := .int _ _) rfl) ?_
    refine to_p 2 rfl (by kernel_rfl) rfl (y_indexAddr rfl rfl (by omega)) ?_
    refine to_y 3 rfl (by kernel_rfl) rfl (y_load rfl rfl (.at_ (hcell _ k _ (u32r_get hxa)) (by omega))) ?_
    refine to_p 4 rfl (by kernel_rfl) rfl (y_move (v := .slice _ _ _) rfl) ?_
    refine to_p 5 rfl (by kernel_rfl) rfl (y_move (v := .int _ _) rfl) ?_
    refine to_p 6 rfl (by kernel_rfl) rfl (y_indexAddr rfl rfl (by omega)) ?_
    refine to_y 7 rfl (by kernel_rfl) rfl (y_load rfl rfl (.at_ (hcell2 _ k _ (u32r_get hxa)) (by omega))) ?_
    refine to_p 8 rfl (by kernel_rfl) rfl (y_neq rfl rfl) ?_
    refine to_nil (by kernel_rfl) (.then_normal ?_)
    refine .sub (F' := [(0, _), (1, _), (4, _), (5, _), (25, _)]) (.cons rfl (.cons rfl (.cons rfl (.cons rfl (.cons rfl .nil))))) ?_
    refine x_false rfl (by simp) ?_
    refine x_skip (.block_normal (.then_normal ?_))
    refine x_region ?_
    refine tl_y rfl (y_move (v := .int _ _) rfl) ?_
    refine tl_y rfl (y_addI rfl rfl (by omega)) ?_
    refine tl_y rfl (y_assign (v := .int _ _) rfl) ?_
    refine tl_nil (.loop_next (m' := n - (k + 1)) (by omega) (F' := [(0, _), (1, _), (4, _), (5, _)]) (.cons rfl (.cons rfl (.cons rfl (.cons rfl .nil)))) ?_)
    exact ⟨k + 1, rfl, by omega, rfl, rfl, rfl, rfl⟩
  ·
    refine x_exit (.then_exit (.loop_exit (.block_exit (.then_normal ?_))))
    refine .sub (F' := []) .nil ?_
    refine x_seq (x_region ?_)
    refine tl_y rfl (y_assign rfl) ?_
    refine tl_nil (.then_normal ?_)
    refine x_ret (ret1 rfl rfl (Le.refl _) ⟨rfl, rfl, rfl⟩)
theorem RMay13_spec {A : Option Addr} {n c : Nat} {l : List PairV} (h : Row M 2 A n c (prow l)) :
    Con Tryz.prog 29 #[.slice A n c] G M L (fun v M' L' => M = M' ∧ L = L' ∧ v = .bool (decide (okL l))) noPanic := by
  have hmx := h.max
  have hle := h.le
  have hln : l.length = n := by have := h.len; rw [prow, flat_len pcl] at this; omega
  refine enter (args := [_]) (fn := Tryz.f29) ⟨Tryz.func29, rfl, by kernel_rfl, by kernel_rfl⟩ 68 rfl ?_
  refine x_seq (x_region ?_)
  refine tl_y rfl (y_assign rfl) ?_
  refine tl_nil (.then_normal ?_)
  refine x_seq (x_region ?_)
  refine tl_y rfl (y_assign rfl) ?_
  refine tl_nil (.then_normal ?_)
  refine x_seq (x_seq (x_region ?_))
  refine tl_y rfl (y_move (v := .slice _ _ _) rfl) ?_
  refine tl_y rfl (y_len rfl) ?_
  refine tl_y rfl (y_lss rfl rfl) ?_
  refine tl_y rfl (y_move (v := .bool _) rfl) ?_
  refine tl_cases (s := 14) rfl (fun hk1 => ?_) (fun hk1 => ?_)
  ·
    refine tl_skip rfl ?_
    refine tl_skip rfl ?_
    refine tl_skip rfl ?_
    refine tl_y rfl (y_pickT rfl rfl) ?_
    refine tl_nil (.then_normal ?_)
    refine .sub (F' := [(0, _), (2, _), (3, _), (18, _)]) (.cons rfl (.cons rfl (.cons rfl (.cons rfl .nil)))) ?_
    refine x_true rfl rfl ?_
    refine x_seq (x_region ?_)
    refine tl_y rfl (y_assign rfl) ?_
    refine tl_nil (.then_normal ?_)
    refine x_ret (.then_ret (ret1 rfl rfl (Le.refl _) ⟨rfl, rfl, by rw [decide_eq_false (fun h => by have := h.1; omega)]⟩))
  ·
    refine tl_y rfl (y_move (v := .slice _ _ _) rfl) ?_
    refine tl_y rfl (y_len rfl) ?_
    refine tl_y rfl (y_gtr rfl rfl) ?_
    refine tl_y rfl (y_pickF rfl rfl) ?_
    refine tl_nil (.then_normal ?_)
    refine .sub (F' := [(0, _), (2, _), (3, _), (18, _)]) (.cons rfl (.cons rfl (.cons rfl (.cons rfl .nil)))) ?_
    refine x_cond rfl (fun hc1 => ?_) (fun hc1 => ?_)
    ·
      refine x_seq (x_region ?_)
      refine tl_y rfl (y_assign rfl) ?_
      refine tl_nil (.then_normal ?_)
      refine x_ret (.then_ret (ret1 rfl rfl (Le.refl _) ⟨rfl, rfl, by rw [decide_eq_false (fun h => by have := h.1; omega)]⟩))
    ·
      refine x_skip (.then_normal ?_)
      refine x_seq (x_seq (x_region ?_))
      refine tl_y rfl (y_assign rfl) ?_
      refine tl_nil (.then_normal ?_)
      refine x_block ?_
      refine x_loop (I := fun m' F D M1 L1 => ∃ k : Nat, m' = n - k ∧ k ≤ n ∧ (∀ p ∈ l.take k, good l p) ∧ D = [] ∧ M = M1 ∧ L = L1 ∧ F = [(0, .slice A n c), (2, .bool false), (3, .int .i64 (hsum ((l.take k).map tv) : Nat)), (4, .int .i64 k)]) (n) (F0 := [(0, _), (2, _), (3, _), (4, _)]) ?_ (.cons rfl (.cons rfl (.cons rfl (.cons rfl .nil)))) ?_  -- slots [0, 2, 3, 4], written [2, 3, 4]
      · exact ⟨0, rfl, by omega, fun p hp => by simp at hp, rfl, rfl, rfl, rfl⟩
      rintro m _ _ _ _ ⟨k, rfl, hk, hgd, rfl, rfl, rfl, rfl⟩
      have hs8 := hsum_le (fun p hp => (hgd p hp).1)
      have htl : (l.take k).length = k := by rw [List.length_take]; omega
      rw [htl] at hs8
      refine x_seq (x_seq (x_region ?_))
      refine tl_y rfl (y_move (v := .int _ _) rfl) ?_
      refine tl_y rfl (y_move (v := .slice _ _ _) rfl) ?_
      refine tl_y rfl (y_len rfl) ?_
      refine tl_y rfl (y_lss rfl rfl) ?_
      refine tl_nil (.then_normal ?_)
      refine x_cond rfl (fun hc2 => ?_) (fun hc2 => ?_)
      ·
        have hkn : k < n := by omega
        obtain ⟨p, hp⟩ : ∃ p, l[k]? = some p := ⟨_, List.getElem?_eq_getElem (by omega)⟩
        have hmem : p ∈ l := List.mem_of_getElem? hp
        have hq0 : l[0]? = some (l.getD 0 p0) := by rw [List.getD_eq_getElem?_getD, List.getElem?_eq_getElem (by omega)]; rfl
        generalize hqq : l.getD 0 p0 = q at hq0
        have hmemq : q ∈ l := List.mem_of_getElem? hq0
        have htk : l.take (k + 1) = l.take k ++ [p] := by
          rw [List.take_add_one, hp]; rfl
        obtain ⟨g, o, rfl, hcell⟩ := h.cellsN (by omega)
        have hc5 := fun L => hcell L (k * 2) 2 (by rw [prow, flat_len pcl]; omega)
        simp only [prow, flat_take pcl l k p hp] at hc5
        have hc6 := fun L => hcell L (0 * 2) 2 (by rw [prow, flat_len pcl]; omega)
        simp only [prow, flat_take pcl l 0 q hq0] at hc6
        refine x_skip (.then_normal ?_)
        refine .sub (F' := [(0, _), (2, _), (3, _), (4, _)]) (.cons rfl (.cons rfl (.cons rfl (.cons rfl .nil)))) ?_
        refine x_seq ?_
        refine x_block ?_
        refine x_seq (x_region ?_)
        refine tl_y rfl (y_move (v := .slice _ _ _) rfl) ?_
        refine tl_y rfl (y_move (v := .int _ _) rfl) ?_
        refine tl_y rfl (y_indexAddr rfl rfl (by omega)) ?_
        refine tl_y rfl (y_loadAgg rfl rfl (.at_ (hc5 _) (by omega))) ?_
        refine tl_e rfl (e_call' rfl (RSets12_spec p) ?_)
        rintro _ _ _ _ ⟨rfl, rfl, rfl⟩
        refine tl_y rfl (y_move (v := .tuple _) rfl) ?_
        refine tl_y rfl (y_extract rfl) ?_
        refine tl_y rfl (y_extract rfl) ?_
        refine tl_y rfl (y_extract rfl) ?_
        refine tl_e rfl (e_alloc (fun b1 => ?_))
        refine tl_e rfl (e_alloc (fun b2 => ?_))
        refine tl_e rfl (e_store rfl rfl (by rfl) (by rfl) inferInstance inferInstance inferInstance ?_)
        refine tl_e rfl (e_store rfl rfl (by rfl) (by rfl) inferInstance inferInstance inferInstance ?_)
        refine tl_y rfl (y_assign (v := .bool _) rfl) ?_
        refine tl_nil (.then_normal ?_)
        refine .sub (F' := [(0, _), (2, _), (3, _), (4, _), (6, _), (7, _)]) (.cons rfl (.cons rfl (.cons rfl (.cons rfl (.cons rfl (.cons rfl .nil)))))) ?_
        refine x_seq (x_region ?_)
        refine tl_y rfl (y_move (v := .slice _ _ _) rfl) ?_
        refine tl_y rfl (y_indexAddr rfl rfl (by omega)) ?_
        refine tl_y rfl (y_loadAgg rfl rfl (.at_ (hc6 _) (by omega))) ?_
        refine tl_e rfl (e_call' rfl (RSets12_spec q) ?_)
        rintro _ _ _ _ ⟨rfl, rfl, rfl⟩
        refine tl_y rfl (y_move (v := .tuple _) rfl) ?_
        refine tl_y rfl (y_extract rfl) ?_
        refine tl_y rfl (y_extract rfl) ?_
        refine tl_y rfl (y_extract rfl) ?_
        refine tl_e rfl (e_alloc (fun b3 => ?_))
        refine tl_e rfl (e_alloc (fun b4 => ?_))
        refine tl_e rfl (e_store rfl rfl (by rfl) (by rfl) inferInstance inferInstance inferInstance ?_)
        refine tl_e rfl (e_store rfl rfl (by rfl) (by rfl) inferInstance inferInstance inferInstance ?_)
        refine tl_y rfl (y_assign (v := .bool _) rfl) ?_
        refine tl_nil (.then_normal ?_)
        refine .sub (F' := [(0, _), (2, _), (3, _), (4, _), (6, _), (7, _), (9, _), (10, _)]) (.cons rfl (.cons rfl (.cons rfl (.cons rfl (.cons rfl (.cons rfl (.cons rfl (.cons rfl .nil)))))))) ?_
        refine x_seq (x_seq (x_region ?_))
        refine tl_y rfl (y_move (v := .bool _) rfl) ?_
        refine tl_y rfl (y_notd rfl) ?_
        refine tl_y rfl (y_move (v := .bool _) rfl) ?_
        refine tl_cases (s := 44) rfl (fun hk2 => ?_) (fun hk2 => ?_)
        ·
          refine tl_skip rfl ?_
          refine tl_skip rfl ?_
          refine tl_y rfl (y_pickT rfl rfl) ?_
          refine tl_y rfl (y_move (v := .bool _) rfl) ?_
          refine tl_skip rfl ?_
          refine tl_skip rfl ?_
          refine tl_skip rfl ?_
          refine tl_skip rfl ?_
          refine tl_skip rfl ?_
          refine tl_y rfl (y_pickT rfl rfl) ?_
          refine tl_y rfl (y_move (v := .bool _) rfl) ?_
          refine tl_skip rfl ?_
          refine tl_skip rfl ?_
          refine tl_skip rfl ?_
          refine tl_skip rfl ?_
          refine tl_skip rfl ?_
          refine tl_y rfl (y_pickT rfl rfl) ?_
          refine tl_nil (.then_normal ?_)
          refine .sub (F' := [(0, _), (2, _), (3, _), (4, _), (6, _), (61, _)]) (.cons rfl (.cons rfl (.cons rfl (.cons rfl (.cons rfl (.cons rfl .nil)))))) ?_
          refine x_true rfl rfl ?_
          refine x_seq (x_region ?_)
          refine tl_y rfl (y_assign rfl) ?_
          refine tl_nil (.then_normal ?_)
          refine x_ret (.then_ret (.block_ret (.then_ret (.loop_ret (.block_ret (.then_ret (.dropTo L inferInstance (ret1 rfl rfl (Le.refl _) ⟨rfl, rfl, by rw [decide_eq_false (fun h => hk2 (h.2.1 p hmem).1)]⟩))))))))
        ·
          refine tl_y rfl (y_move (v := .bool _) rfl) ?_
          refine tl_y rfl (y_notd rfl) ?_
          refine tl_y rfl (y_pickF rfl rfl) ?_
          refine tl_y rfl (y_move (v := .bool _) rfl) ?_
          refine tl_cases (s := 48) rfl (fun hk3 => ?_) (fun hk3 => ?_)
          ·
            refine tl_skip rfl ?_
            refine tl_skip rfl ?_
            refine tl_skip rfl ?_
            refine tl_skip rfl ?_
            refine tl_skip rfl ?_
            refine tl_y rfl (y_pickT rfl rfl) ?_
            refine tl_y rfl (y_move (v := .bool _) rfl) ?_
            refine tl_skip rfl ?_
            refine tl_skip rfl ?_
            refine tl_skip rfl ?_
            refine tl_skip rfl ?_
            refine tl_skip rfl ?_
            refine tl_y rfl (y_pickT rfl rfl) ?_
            refine tl_nil (.then_normal ?_)
            refine .sub (F' := [(0, _), (2, _), (3, _), (4, _), (6, _), (61, _)]) (.cons rfl (.cons rfl (.cons rfl (.cons rfl (.cons rfl (.cons rfl .nil)))))) ?_
            refine x_true rfl rfl ?_
            refine x_seq (x_region ?_)
            refine tl_y rfl (y_assign rfl) ?_
            refine tl_nil (.then_normal ?_)
            refine x_ret (.then_ret (.block_ret (.then_ret (.loop_ret (.block_ret (.then_ret (.dropTo L inferInstance (ret1 rfl rfl (Le.refl _) ⟨rfl, rfl, by rw [decide_eq_false (fun h => hk3 (h.2.1 q hmemq).1)]⟩))))))))
          ·
            refine tl_y rfl (y_fieldAddr rfl) ?_
            refine tl_y rfl (y_load rfl rfl (.own inferInstance inferInstance)) ?_
            refine tl_y rfl (y_fieldAddr rfl) ?_
            refine tl_y rfl (y_load rfl rfl (.own inferInstance inferInstance)) ?_
            refine tl_y rfl (y_neq rfl rfl) ?_
            refine tl_y rfl (y_pickF rfl rfl) ?_
            refine tl_y rfl (y_move (v := .bool _) rfl) ?_
            refine tl_cases (s := 55) rfl (fun hk4 => ?_) (fun hk4 => ?_)
            ·
              refine tl_skip rfl ?_
              refine tl_skip rfl ?_
              refine tl_skip rfl ?_
              refine tl_skip rfl ?_
              refine tl_skip rfl ?_
              refine tl_y rfl (y_pickT rfl rfl) ?_
              refine tl_nil (.then_normal ?_)
              refine .sub (F' := [(0, _), (2, _), (3, _), (4, _), (6, _), (61, _)]) (.cons rfl (.cons rfl (.cons rfl (.cons rfl (.cons rfl (.cons rfl .nil)))))) ?_
              refine x_true rfl rfl ?_
              refine x_seq (x_region ?_)
              refine tl_y rfl (y_assign rfl) ?_
              refine tl_nil (.then_normal ?_)
              refine x_ret (.then_ret (.block_ret (.then_ret (.loop_ret (.block_ret (.then_ret (.dropTo L inferInstance (ret1 rfl rfl (Le.refl _) ⟨rfl, rfl, by rw [decide_eq_false (fun h => hk4 (by have := (h.2.1 p hmem).2.1; rw [hqq] at this; exact this))]⟩))))))))
            ·
              refine tl_y rfl (y_fieldAddr rfl) ?_
              refine tl_y rfl (y_load rfl rfl (.own inferInstance inferInstance)) ?_
              refine tl_y rfl (y_fieldAddr rfl) ?_
              refine tl_y rfl (y_load rfl rfl (.own inferInstance inferInstance)) ?_
              refine tl_y rfl (y_neq rfl rfl) ?_
              refine tl_y rfl (y_pickF rfl rfl) ?_
              refine tl_nil (.then_normal ?_)
              refine .sub (F' := [(0, _), (2, _), (3, _), (4, _), (6, _), (61, _)]) (.cons rfl (.cons rfl (.cons rfl (.cons rfl (.cons rfl (.cons rfl .nil)))))) ?_
              refine x_cond rfl (fun hc3 => ?_) (fun hc3 => ?_)
              ·
                refine x_seq (x_region ?_)
                refine tl_y rfl (y_assign rfl) ?_
                refine tl_nil (.then_normal ?_)
                refine x_ret (.then_ret (.block_ret (.then_ret (.loop_ret (.block_ret (.then_ret (.dropTo L inferInstance (ret1 rfl rfl (Le.refl _) ⟨rfl, rfl, by rw [decide_eq_false (fun h => hc3 (by have := (h.2.1 p hmem).2.2; rw [hqq] at this; exact this))]⟩))))))))
              ·
                have hokp : okP p := Classical.not_not.1 hk2
                obtain ⟨hH, hH1, hH25⟩ := okP_h hokp
                have hsn : hsum ((l.take (k + 1)).map tv) = hsum ((l.take k).map tv) + hN (tv p) := by rw [htk, List.map_append]; exact hsum_snoc _ _
                refine x_skip (.then_normal ?_)
                refine x_region ?_
                refine tl_y rfl (y_move (v := .int _ _) rfl) ?_
                refine tl_y rfl (y_fieldAddr rfl) ?_
                refine tl_y rfl (y_load (v := .int .i64 ((hN (tv p) : Nat) : Int)) rfl rfl (by rw [← hH]; exact .own inferInstance inferInstance)) ?_
                refine tl_y rfl (y_addI rfl rfl (by omega)) ?_
                rw [show ((hsum ((l.take k).map tv) : Nat) : Int) + ((hN (tv p) : Nat) : Int) = ((hsum ((l.take (k + 1)).map tv) : Nat) : Int) by rw [hsn]; omega]
                refine tl_y rfl (y_assign (v := .int _ _) rfl) ?_
                refine tl_nil (.block_normal (.then_normal ?_))
                refine .sub (F' := [(0, _), (2, _), (3, _), (4, _)]) (.cons rfl (.cons rfl (.cons rfl (.cons rfl .nil)))) ?_
                refine x_region ?_
                refine tl_y rfl (y_move (v := .int _ _) rfl) ?_
                refine tl_y rfl (y_addI rfl rfl (by omega)) ?_
                refine tl_y rfl (y_assign (v := .int _ _) rfl) ?_
                refine .dropTo L inferInstance ?_
                refine tl_nil (.loop_next (m' := n - (k + 1)) (by omega) (F' := [(0, _), (2, _), (3, _), (4, _)]) (.cons rfl (.cons rfl (.cons rfl (.cons rfl .nil)))) ?_)
                exact ⟨k + 1, rfl, by omega, fun x hx => by
                  rw [htk] at hx
                  rcases List.mem_append.1 hx with hx | hx
                  · exact hgd x hx
                  · obtain rfl := List.mem_singleton.1 hx
                    exact ⟨hokp, by rw [hqq]; exact Classical.not_not.1 hk4, by rw [hqq]; exact Classical.not_not.1 hc3⟩, rfl, rfl, rfl, rfl⟩
      ·
        obtain rfl : k = n := by omega
        rw [List.take_of_length_le (by omega)] at hgd ⊢
        refine x_exit (.then_exit (.loop_exit (.block_exit (.then_normal ?_))))
        refine .sub (F' := [(3, _)]) (.cons rfl .nil) ?_
        refine x_seq (x_region ?_)
        refine tl_y rfl (y_move (v := .int _ _) rfl) ?_
        refine tl_y rfl (y_leq rfl rfl) ?_
        refine tl_y rfl (y_assign (v := .bool _) rfl) ?_
        refine tl_nil (.then_normal ?_)
        refine x_ret (ret1 rfl rfl (Le.refl _) ⟨rfl, rfl, by
          congr 1
          rw [decide_eq_decide]
          exact ⟨fun h => ⟨⟨by omega, by omega⟩, hgd, by omega⟩, fun h => by have := h.2.2; omega⟩⟩)
end
end Go.Proofs.YtiimjodbaogjbaaGreatDoor
set_option linter.unusedVariables false
set_option linter.unusedSimpArgs false
set_option linter.constructorNameAsVariable false
namespace Go.Proofs.YtiimjodbaogjbaaGreatDoor
open Go Go.Eng
def l13 : List PairV := [⟨7, 4026531845⟩, ⟨7, 4026531846⟩]
theorem f13 : okL l13 ∧ totN l13 = 8 ∧ plE l13 5 = 0 ∧ plV l13 5 = [1, 1] ∧ plE l13 8 = 9 ∧ ¬ okL [] := by
  decide +kernel
theorem okL_one {p : PairV} (h : okP p) : okL [p] := by
  have := (okP_h h).2.2
  refine ⟨⟨by simp, by simp⟩, fun q hq => ?_, by simp [hsum]; omega⟩
  obtain rfl := List.mem_singleton.1 hq
  exact ⟨h, rfl, rfl⟩
theorem totN_one {p : PairV} (h : okP p) : totN [p] = pw2 (hN (tv p)) := by
  rw [totN, if_pos (okL_one h)]; simp [hsum]
theorem atN_lt {ts : List TreeV} {i : Nat} {t : TreeV} (h : ts[i]? = some t) (x : Nat) : atN ts x i < pw2 (hN t) := by
  have hg : ts.getD i tree0 = t := by rw [List.getD_eq_getElem?_getD, h]; rfl
  rw [atN, hg]
  exact Nat.mod_lt _ (pw2_pos _)
section
variable {G : World} {M : Mem} {L : Own}
theorem awake13_spec (hg : HsG M) : Con Tryz.prog 24 #[] G M L (fun v M' L' => L' = L ∧ v = .bool true) noPanic := by
  obtain ⟨hok, htot, e5, v5, e8, hnil⟩ := f13
  refine enter (args := []) (fn := Tryz.f24) ⟨Tryz.func24, rfl, by kernel_rfl, by kernel_rfl⟩ 54 rfl ?_
  refine x_seq (x_region ?_)
  refine tl_y rfl (y_assign rfl) ?_
  refine tl_nil (.then_normal ?_)
  refine x_seq (x_region ?_)
  refine tl_y rfl (y_build rfl) ?_
  refine tl_y rfl (y_build rfl) ?_
  refine tl_e rfl (e_buildSlice rfl (by decide) (fun b1 => ?_))
  refine .pub b1 inferInstance (fun M1 hM1 hb1 => ?_)
  have hrow : Row M1 2 (some ⟨b1, 0, none⟩) 2 2 (prow l13) := Row.whole (vs := prow l13) hb1 rfl (by omega)
  have hm := hM1
  refine tl_y rfl (y_assign (v := .slice _ _ _) rfl) ?_
  refine tl_nil (.then_normal ?_)
  refine .sub (F' := [(1, _)]) (.cons rfl .nil) ?_
  refine x_seq (x_region ?_)
  refine tl_y rfl (y_move (v := .slice _ _ _) rfl) ?_
  refine tl_e rfl (e_call' rfl (Places_spec (hg.mono hm) hrow 5) ?_)
  rintro _ M2 _ hM2 ⟨rfl, A2, n2, c2, rfl, hr2⟩
  rw [show (5 : UInt64).toNat = 5 from rfl, v5] at hr2
  rw [show (5 : UInt64).toNat = 5 from rfl, e5]
  replace hm := hm.trans hM2
  refine tl_y rfl (y_move (v := .tuple _) rfl) ?_
  refine tl_y rfl (y_extract rfl) ?_
  refine tl_y rfl (y_extract rfl) ?_
  refine tl_y rfl (y_assign (v := .slice _ _ _) rfl) ?_
  refine tl_y rfl (y_assign (v := .int _ _) rfl) ?_
  refine tl_nil (.then_normal ?_)
  refine .sub (F' := [(1, _), (2, _), (3, _)]) (.cons rfl (.cons rfl (.cons rfl .nil))) ?_
  refine x_seq (x_region ?_)
  refine tl_y rfl (y_move (v := .slice _ _ _) rfl) ?_
  refine tl_e rfl (e_call' rfl (Places_spec (hg.mono hm) (hrow.mono hM2) 8) ?_)
  rintro _ M3 _ hM3 ⟨rfl, A3, n3, c3, rfl, hr3⟩
  rw [show (8 : UInt64).toNat = 8 from rfl, e8]
  replace hm := hm.trans hM3
  refine tl_y rfl (y_move (v := .tuple _) rfl) ?_
  refine tl_y rfl (y_extract rfl) ?_
  refine tl_y rfl (y_extract rfl) ?_
  refine tl_y rfl (y_assign (v := .slice _ _ _) rfl) ?_
  refine tl_y rfl (y_assign (v := .int _ _) rfl) ?_
  refine tl_nil (.then_normal ?_)
  refine .sub (F' := [(1, _), (2, _), (3, _), (5, _)]) (.cons rfl (.cons rfl (.cons rfl (.cons rfl .nil)))) ?_
  refine x_seq (x_region ?_)
  refine tl_e rfl (e_buildSlice rfl (by decide) (fun b2 => ?_))
  refine .pub b2 inferInstance (fun M4 hM4 hb2 => ?_)
  replace hm := hm.trans hM4
  refine tl_e rfl (e_call' rfl (Read_short (by omega)) ?_)
  rintro _ M5 _ hM5 ⟨rfl, rfl⟩
  replace hm := hm.trans hM5
  have hd5 := hM2.trans (hM3.trans (hM4.trans hM5))
  refine tl_y rfl (y_move (v := .tuple _) rfl) ?_
  refine tl_y rfl (y_extract rfl) ?_
  refine tl_y rfl (y_extract rfl) ?_
  refine tl_y rfl (y_assign (v := .slice _ _ _) rfl) ?_
  refine tl_y rfl (y_assign (v := .int _ _) rfl) ?_
  refine tl_nil (.then_normal ?_)
  refine .sub (F' := [(1, _), (2, _), (3, _), (5, _), (7, _)]) (.cons rfl (.cons rfl (.cons rfl (.cons rfl (.cons rfl .nil))))) ?_
  refine x_seq (x_region ?_)
  refine tl_y rfl (y_move (v := .slice _ _ _) rfl) ?_
  refine tl_e rfl (e_call' rfl (hMay_spec (hg.mono hm) (hrow.mono hd5)) ?_)
  rintro _ M6 _ hM6 ⟨rfl, rfl⟩
  replace hm := hm.trans hM6
  refine tl_y rfl (y_move (v := .bool _) rfl) ?_
  refine tl_set (s := 28) (u := .bool true) rfl (congrArg Value.bool (decide_eq_true hok)) ?_
  refine tl_y rfl (y_move (v := .slice _ _ _) rfl) ?_
  refine tl_e rfl (e_call' rfl (Total_spec (hg.mono hm) (hrow.mono (hd5.trans hM6))) ?_)
  rintro _ M7 _ hM7 ⟨rfl, rfl⟩
  rw [htot]
  replace hm := hm.trans hM7
  refine tl_y rfl (y_eql rfl rfl) ?_
  refine tl_y rfl (y_pickT rfl rfl) ?_
  refine tl_y rfl (y_move (v := .bool _) rfl) ?_
  refine tl_set (s := 33) (u := .bool true) rfl (rfl) ?_
  refine tl_y rfl (y_move (v := .int _ _) rfl) ?_
  refine tl_y rfl (y_eql rfl rfl) ?_
  refine tl_y rfl (y_pickT rfl rfl) ?_
  refine tl_y rfl (y_move (v := .bool _) rfl) ?_
  refine tl_set (s := 37) (u := .bool true) rfl (rfl) ?_
  refine tl_y rfl (y_move (v := .slice _ _ _) rfl) ?_
  refine tl_e rfl (e_buildSlice rfl (by decide) (fun b3 => ?_))
  refine .pub b3 inferInstance (fun M8 hM8 hb3 => ?_)
  replace hm := hm.trans hM8
  refine tl_e rfl (e_call' rfl (Words_spec (hr2.mono (hM3.trans (hM4.trans (hM5.trans (hM6.trans (hM7.trans hM8)))))) (Row.whole (vs := u32r [1, 1]) hb3 rfl (by omega)) rfl) ?_)
  rintro _ _ _ _ ⟨rfl, rfl, rfl⟩
  refine tl_y rfl (y_pickT rfl rfl) ?_
  refine tl_y rfl (y_move (v := .bool _) rfl) ?_
  refine tl_set (s := 42) (u := .bool true) rfl (rfl) ?_
  refine tl_y rfl (y_move (v := .int _ _) rfl) ?_
  refine tl_y rfl (y_eql rfl rfl) ?_
  refine tl_y rfl (y_pickT rfl rfl) ?_
  refine tl_y rfl (y_move (v := .bool _) rfl) ?_
  refine tl_set (s := 46) (u := .bool true) rfl (rfl) ?_
  refine tl_y rfl (y_move (v := .int _ _) rfl) ?_
  refine tl_y rfl (y_eql rfl rfl) ?_
  refine tl_y rfl (y_pickT rfl rfl) ?_
  refine tl_y rfl (y_move (v := .bool _) rfl) ?_
  refine tl_set (s := 50) (u := .bool true) rfl (rfl) ?_
  refine tl_e rfl (e_call' rfl (hMay_spec (l := []) (hg.mono hm) (Row.nil _ _)) ?_)
  rintro _ M9 _ hM9 ⟨rfl, rfl⟩
  refine tl_y rfl (y_notd rfl) ?_
  refine tl_y rfl (y_pickT rfl rfl) ?_
  refine tl_y rfl (y_assign (v := .bool _) rfl) ?_
  refine tl_nil (.then_normal ?_)
  refine .sub (F' := [(0, _)]) (.cons rfl .nil) ?_
  refine x_ret (ret1 rfl rfl (hm.trans hM9) ⟨rfl, congrArg Value.bool (decide_eq_true hnil)⟩)
end
end Go.Proofs.YtiimjodbaogjbaaGreatDoor
set_option linter.unusedVariables false
set_option linter.unusedSimpArgs false
namespace Go.Proofs.YtiimjodbaogjbaaGreatDoor
open Go Go.Eng
def belE (x : PairV) (nl sl : Nat) : Int := if ¬ okP x then 4 else if ¬ okY (otsV x.o) nl sl then 1 else 0
def belN (x : PairV) (name sec : List UInt8) (q : Nat) : List UInt8 := (hidB (otsV x.o) name sec q 65535).take 16
def belS (x : PairV) (name sec : List UInt8) (q : Nat) : List UInt8 := hidB (otsV x.o) name sec q 65534
theorem bel_len {x : PairV} {n w p H : Nat} (hx : PF x n w p H) (name sec : List UInt8) (q : Nat) : (belN x name sec q).length = 16 ∧ (belS x name sec q).length = n := by
  have h1 := hidB_len hx.o name sec q 65535
  have h2 := hx.o.n32
  exact ⟨by rw [belN, List.length_take, h1]; omega, hidB_len hx.o name sec q 65534⟩
def seedR (l : List PairV) (at_ : List Nat) (name sec : List UInt8) : Nat → List UInt8 × List UInt8
  | 0 => (name, sec)
  | i + 1 => (belN (l.getD i p0) (seedR l at_ name sec i).1 (seedR l at_ name sec i).2 (at_.getD i 0), belS (l.getD i p0) (seedR l at_ name sec i).1 (seedR l at_ name sec i).2 (at_.getD i 0))
def canB (l : List PairV) (nl sl : Nat) : Prop := ∀ p ∈ l, (tv p).h ≤ 10 ∧ okY (otsV p.o) nl sl
instance {l : List PairV} {nl sl : Nat} : Decidable (canB l nl sl) := inferInstanceAs (Decidable (∀ p ∈ l, _))
def canE (l : List PairV) (nl sl : Nat) : Int := if ¬ okL l then 4 else if ¬ canB l nl sl then 1 else 0
theorem canE_zero {l : List PairV} {nl sl : Nat} (h : canE l nl sl = 0) : okL l ∧ canB l nl sl := by
  unfold canE at h
  split at h
  · cases h
  · rename_i h1
    split at h
    · cases h
    · rename_i h2
      exact ⟨Classical.not_not.1 h1, Classical.not_not.1 h2⟩
theorem canE_ok {l : List PairV} {nl sl : Nat} (h1 : okL l) (h2 : canB l nl sl) : canE l nl sl = 0 := by rw [canE, if_neg (fun h => h h1), if_neg (fun h => h h2)]
theorem okL_get {l : List PairV} (h : okL l) {i : Nat} (hi : i < l.length) : okP (l.getD i p0) ∧ l.getD i p0 ∈ l ∧ l[i]? = some (l.getD i p0) ∧ (otsV (l.getD i p0).o).n = (tv (l.getD 0 p0)).n := by
  have e : l[i]? = some (l.getD i p0) := by rw [List.getD_eq_getElem?_getD, List.getElem?_eq_getElem hi]; rfl
  have hm := List.mem_of_getElem? e
  have hg := h.2.1 _ hm
  exact ⟨hg.1, hm, e, hg.1.2.2.2.trans hg.2.2⟩
theorem seedR_ok {l : List PairV} {nl sl : Nat} (hok : okL l) (hc : canB l nl sl) (at_ : List Nat) {name sec : List UInt8} (hn : name.length = nl) (hs : sec.length = sl) : ∀ i, i ≤ l.length → (seedR l at_ name sec i).1.length = 16 ∧ ((seedR l at_ name sec i).2.length : Int) = (tv (l.getD 0 p0)).n
  | 0, _ => by
    obtain ⟨h1, h2, h3, h4⟩ := okL_get hok (i := 0) (by have := hok.1.1; omega)
    obtain ⟨h5, h6⟩ := hc _ h2
    exact ⟨by rw [seedR, hn]; exact h6.2.1, by rw [seedR, hs, ← h4]; exact h6.2.2⟩
  | i + 1, hi => by
    obtain ⟨h1, h2, h3, h4⟩ := okL_get hok (i := i) (by omega)
    obtain ⟨n, w, p, H, hx⟩ := okP_facts h1
    obtain ⟨k1, k2⟩ := bel_len hx (seedR l at_ name sec i).1 (seedR l at_ name sec i).2 (at_.getD i 0)
    refine ⟨k1, ?_⟩
    rw [seedR, k2, ← h4, hx.o.hn]
theorem seedR_may {l : List PairV} {nl sl : Nat} (hok : okL l) (hc : canB l nl sl) (at_ : List Nat) {name sec : List UInt8} (hn : name.length = nl) (hs : sec.length = sl) {i j : Nat} (hi : i ≤ l.length) (hj : j < l.length) :
    okY (otsV (l.getD j p0).o) (seedR l at_ name sec i).1.length (seedR l at_ name sec i).2.length ∧ mayC (l.getD j p0) (seedR l at_ name sec i).1.length (seedR l at_ name sec i).2.length = 0 := by
  obtain ⟨h1, h2, h3, h4⟩ := okL_get hok hj
  obtain ⟨k1, k2⟩ := seedR_ok hok hc at_ hn hs i hi
  have hy : okY (otsV (l.getD j p0).o) (seedR l at_ name sec i).1.length (seedR l at_ name sec i).2.length := ⟨(otsV_code h1.1).2, k1, by rw [k2, h4]⟩
  exact ⟨hy, mayC_ok h1 (hc _ h2).1 hy⟩
def pubR (l : List PairV) (at_ : List Nat) (name sec : List UInt8) (i : Nat) : List UInt8 := pubB (l.getD i p0) (seedR l at_ name sec i).1 (seedR l at_ name sec i).2
def nextR (l : List PairV) (at_ : List Nat) (name sec text : List UInt8) (i : Nat) : List UInt8 := if i + 1 < l.length then pubR l at_ name sec (i + 1) else text
def sgR (l : List PairV) (at_ : List Nat) (name sec text : List UInt8) (i : Nat) : List UInt8 := lsigB (l.getD i p0) (seedR l at_ name sec i).1 (seedR l at_ name sec i).2 (at_.getD i 0) (nextR l at_ name sec text i)
def levR (l : List PairV) (at_ : List Nat) (name sec text : List UInt8) (i : Nat) : List UInt8 := sgR l at_ name sec text i ++ (if i + 1 < l.length then pubR l at_ name sec (i + 1) else [])
def hsigB (l : List PairV) (at_ : List Nat) (name sec text : List UInt8) : List UInt8 := putB (l.length - 1) 4 ++ catR (levR l at_ name sec text) l.length
def hpubB (l : List PairV) (name sec : List UInt8) : List UInt8 := putB l.length 4 ++ pubB (l.getD 0 p0) name sec
def hpubV (l : List PairV) (nl sl : Nat) (name sec : List UInt8) : List UInt8 := if canE l nl sl = 0 then hpubB l name sec else []
def hsigE (l : List PairV) (nl sl x tl : Nat) : Int := if canE l nl sl ≠ 0 then canE l nl sl else if 65536 < tl then 1 else plE l x
def hsigV (l : List PairV) (nl sl x tl : Nat) (name sec text : List UInt8) : List UInt8 := if hsigE l nl sl x tl = 0 then hsigB l (atsN (l.map tv) x) name sec text else []
structure PartB where
  key : List UInt8
  sig : List UInt8
  next : List UInt8
def keyE (bs : List UInt8) : Int := if bs.length < 8 then 2 else if ¬ okP (pairC bs) then 4 else if bs.length < pubN (pairC bs) then 2 else 0
theorem keyE_zero {bs : List UInt8} (h : keyE bs = 0) : 8 ≤ bs.length ∧ okP (pairC bs) ∧ pubN (pairC bs) ≤ bs.length := by
  unfold keyE at h
  split at h
  · cases h
  · split at h
    · cases h
    · split at h
      · cases h
      · rename_i h1 h2 h3
        exact ⟨by omega, Classical.not_not.1 h2, by omega⟩
def keyT (bs : List UInt8) : List UInt8 := bs.take (pubN (pairC bs))
def keyD (bs : List UInt8) : List UInt8 := bs.drop (pubN (pairC bs))
def sgT (k b : List UInt8) : List UInt8 := b.take (sigN (pairC k))
def sgD (k b : List UInt8) : List UInt8 := b.drop (sigN (pairC k))
def parse : Nat → List UInt8 → List UInt8 → Int × List PartB
  | 0, k, b => if b.length < sigN (pairC k) then (2, []) else if b.length ≠ sigN (pairC k) then (5, []) else (0, [⟨k, sgT k b, []⟩])
  | m + 1, k, b => if b.length < sigN (pairC k) then (2, []) else if keyE (sgD k b) ≠ 0 then (keyE (sgD k b), []) else
      if (parse m (keyT (sgD k b)) (keyD (sgD k b))).1 ≠ 0 then ((parse m (keyT (sgD k b)) (keyD (sgD k b))).1, []) else
      (0, ⟨k, sgT k b, keyT (sgD k b)⟩ :: (parse m (keyT (sgD k b)) (keyD (sgD k b))).2)
def readP (pub sig : List UInt8) : Int × List PartB :=
  if pub.length < 4 then (2, []) else if keyE (pub.drop 4) ≠ 0 then (keyE (pub.drop 4), []) else if (pub.drop 4).length ≠ pubN (pairC (pub.drop 4)) then (5, []) else
  if getB (pub.take 4) < 1 ∨ 8 < getB (pub.take 4) then (3, []) else if sig.length < 4 then (2, []) else if getB (sig.take 4) ≠ getB (pub.take 4) - 1 then (3, []) else
  parse (getB (pub.take 4) - 1) (pub.drop 4) (sig.drop 4)
def partF (text : List UInt8) (x : PartB) : Prop := fitK x.key (if x.next = [] then text.length else x.next.length) (if x.next = [] then text else x.next) x.sig
instance {text : List UInt8} {x : PartB} : Decidable (partF text x) := inferInstanceAs (Decidable (fitK _ _ _ _))
end Go.Proofs.YtiimjodbaogjbaaGreatDoor
