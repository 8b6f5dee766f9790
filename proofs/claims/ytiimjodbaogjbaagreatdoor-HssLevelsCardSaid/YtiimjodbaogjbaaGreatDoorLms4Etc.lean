/-
Contracts of functions, each proved by a walk through its code.
-/
import Derived.Test.YtiimjodbaogjbaaGreatDoorLms1Etc
import Derived.Test.YtiimjodbaogjbaaGreatDoorEngWEtc
import Derived.Test.YtiimjodbaogjbaaGreatDoorHss7Etc
set_option linter.unusedVariables false
set_option linter.unusedSimpArgs false
set_option linter.constructorNameAsVariable false
namespace Go.Proofs.YtiimjodbaogjbaaGreatDoor
open Go Go.Eng
structure SlV where
  a : Option Addr
  n : Nat
  c : Nat
abbrev SlV.v (x : SlV) : Value := .slice x.a x.n x.c
section
variable {G : World} {M : Mem} {L : Own}
theorem caughtTk1_ret {b c : Nat} {x : Int} {cs : List Value} : ConD Tryz.prog 130 #[.pointer (some ⟨b, 0, none⟩), .pointer (some ⟨c, 0, none⟩)] .returning G M ((c, .cells (List.toArray [.int .i64 x]) 38 (0, 0)) :: (b, .cells (List.toArray cs) 96 (0, 0)) :: L) (fun u' M' L' => u' = .returning ∧ M' = M ∧ L' = (c, .cells (List.toArray [.int .i64 x]) 38 (0, 0)) :: (b, .cells cs.toArray 96 (0, 0)) :: L) := by
  refine enterRec (args := [_, _]) (fn := Tryz.f130) ⟨Tryz.func130, rfl, by kernel_rfl, by kernel_rfl⟩ 15 rfl rfl ?_
  refine x_block ?_
  refine x_seq (x_region ?_)
  refine tl_y rfl (y_eqNilIface rfl rfl) ?_
  refine tl_nil (.then_normal ?_)
  refine x_true rfl (rfl) ?_
  refine x_region ?_
  refine tl_y rfl (y_assign rfl) ?_
  refine tl_nil (.block_normal (.rec_normal (Le.refl _) ⟨rfl, rfl, rfl⟩))
theorem caughtTk1_wrong {b c : Nat} {x e : Int} : ConD Tryz.prog 130 #[.pointer (some ⟨b, 0, none⟩), .pointer (some ⟨c, 0, none⟩)] (.panicking (lwrong e)) G M ((c, .cells (List.toArray [.int .i64 x]) 38 (0, 0)) :: (b, .cells (List.toArray [.slice none 0 0, .slice none 0 0]) 96 (0, 0)) :: L)
    (fun u' M' L' => u' = .panicking [{ v := lwrongv e, recovered := true }] ∧ M' = M ∧ L' = (c, .cells (List.toArray [.int .i64 e]) 38 (0, 0)) :: (b, .cells (List.toArray [.slice none 0 0, .slice none 0 0]) 96 (0, 0)) :: L) := by
  refine enterRec (args := [_, _]) (fn := Tryz.f130) ⟨Tryz.func130, rfl, by kernel_rfl, by kernel_rfl⟩ 15 rfl rfl ?_
  refine x_block ?_
  refine x_seq (x_region ?_)
  refine tl_y rfl (y_eqIfaceNil rfl rfl) ?_
  refine tl_nil (.then_normal ?_)
  refine x_false rfl (rfl) ?_
  refine x_seq (x_region ?_)
  refine tl_y rfl (y_assertOk rfl (by intro _ h; cases h)) ?_
  refine tl_y rfl (y_extract rfl) ?_
  refine tl_y rfl (y_extract rfl) ?_
  refine tl_nil (.then_normal ?_)
  refine x_true rfl (rfl) ?_
  refine x_seq (x_region ?_)
  refine tl_e rfl (e_alloc (fun b7 => ?_))
  refine tl_e rfl (e_store rfl rfl (by rfl) (by rfl) inferInstance inferInstance inferInstance ?_)
  refine tl_nil (.then_normal ?_)
  refine .sub (F' := [(0, _), (1, _), (3, _)]) (.cons rfl (.cons rfl (.cons rfl .nil))) ?_
  refine x_seq (x_region ?_)
  refine tl_e rfl (e_alloc (fun b8 => ?_))
  refine tl_nil (.then_normal ?_)
  refine x_draw0 4 ((b7, .cells (List.toArray [.int .i64 e]) 160 (0, 0)) :: (b8, .cells (List.toArray [.slice none 0 0, .slice none 0 0]) 96 (0, 0)) :: []) Keeps.mem hmix rfl ?_
  refine to_y 0 rfl (by kernel_rfl) rfl (y_loadAgg rfl rfl (.own inferInstance inferInstance)) ?_
  refine to_p 1 rfl (by kernel_rfl) rfl (y_fieldAddr rfl) ?_
  refine to_y 2 rfl (by kernel_rfl) rfl (y_load rfl rfl (.own inferInstance inferInstance)) ?_
  refine to_e 3 rfl (by kernel_rfl) rfl (e_store rfl rfl (by rfl) (by rfl) inferInstance inferInstance inferInstance ?_)
  refine ⟨⟨(by first | exact Le.refl _ | assumption), Keeps.mem⟩, ?_⟩
  refine to_t 4 rfl (by kernel_rfl) (by kernel_rfl) rfl (e_store rfl rfl (by rfl) (by rfl) inferInstance inferInstance inferInstance ?_)
  refine to_nil (by kernel_rfl) (.block_normal (.dropTo ((c, .cells (List.toArray [.int .i64 e]) 38 (0, 0)) :: (b, .cells (List.toArray [.slice none 0 0, .slice none 0 0]) 96 (0, 0)) :: L) inferInstance (.rec_normal (Le.refl _) ⟨rfl, rfl, rfl⟩)))
theorem caughtTk_spec {wf : FuncId} {first cap : List Value} {K : SlV → SlV → Mem → Prop} {Kp : Int → Prop}
    (hw : ∀ p q, Con Tryz.prog wf (first ++ [] ++ cap).toArray G M (p :: q :: L) (fun v M' L' => L' = p :: q :: L ∧ ∃ x y, v = .agg (List.toArray ([x.v, y.v])) ∧ K x y M') (fun ch M' L' => L' = p :: q :: L ∧ ∃ e, Kp e ∧ ch = lwrong e)) :
    Con Tryz.prog 66 #[.func (.func wf) first.toArray cap.toArray] G M L (fun v M' L' => L' = L ∧ ((∃ x y, v = .tuple #[.agg (List.toArray ([x.v, y.v])), .int .i64 0] ∧ K x y M') ∨ (∃ e, v = .tuple #[.agg (List.toArray [.slice none 0 0, .slice none 0 0]), .int .i64 e] ∧ Kp e))) noPanic := by
  refine enterD (args := [_]) (fn := Tryz.f66) ⟨Tryz.func66, rfl, by kernel_rfl, by kernel_rfl⟩ 7 rfl ?_
  refine x_seq (x_region ?_)
  refine tl_e rfl (e_alloc (fun b1 => ?_))
  refine tl_e rfl (e_alloc (fun b2 => ?_))
  refine tl_nil (.then_normal ?_)
  refine x_seq (x_region ?_)
  refine tl_y rfl (y_makeFunc rfl rfl) ?_
  refine tl_e rfl (e_defer rfl rfl rfl ?_)
  refine tl_nil (.then_normal ?_)
  refine x_seq (x_region ?_)
  refine tl_y rfl (y_move (v := .func _ _ _) rfl) ?_
  refine tl_e rfl (e_callv rfl rfl (hw _ _) (by
    rintro _ M1 _ hM1 ⟨rfl, e, hr, rfl⟩
    refine .retD (cap := [_, _]) (args := []) caughtTk1_wrong ?_
    rintro _ M2 _ hM2 ⟨rfl, rfl, rfl⟩
    exact .inl ⟨rfl, _, L, rv2 rfl (rc_cellAgg (by rfl) rfl (.own inferInstance inferInstance)) (rc_cell (by rfl) rfl (.own inferInstance inferInstance)), inferInstance, hM1, rfl, .inr ⟨e, rfl, hr⟩⟩) ?_)
  rintro _ M1 _ hM1 ⟨rfl, x, y, rfl, hk⟩
  refine tl_e rfl (e_store rfl rfl (by rfl) (by rfl) inferInstance inferInstance inferInstance ?_)
  refine tl_e rfl (e_store rfl rfl (by rfl) (by rfl) inferInstance inferInstance inferInstance ?_)
  refine tl_nil (.then_normal ?_)
  refine .sub (F' := [(2, _), (3, _)]) (.cons rfl (.cons rfl .nil)) ?_
  refine x_ret (.retD (cap := [_, _]) (args := []) (caughtTk1_ret (cs := [x.v, y.v])) ?_)
  rintro _ M2 _ hM2 ⟨rfl, rfl, rfl⟩
  exact .inl ⟨rfl, _, L, rv2 rfl (rc_cellAgg (by rfl) rfl (.own inferInstance inferInstance)) (rc_cell (by rfl) rfl (.own inferInstance inferInstance)), inferInstance, hM1, rfl, .inl ⟨x, y, rfl, hk⟩⟩
theorem Pair1_spec (hg : LmG M) {A : Option Addr} {m c : Nat} {bs : List UInt8} (h : Bytes M A m c bs) (hmb : m ≤ 1000000000000) {b : Nat} [hb : Has L b (.cells (List.toArray [.slice A m c]) 35 (0, 0))] :
    Con Tryz.prog 62 #[.pointer (some ⟨b, 0, none⟩)] G M L (fun v M' L' => L' = L ∧ ∃ x : PairV, v = .agg (List.toArray x.cells) ∧ pairE bs = 0 ∧ x = pairC bs) (fun ch M' L' => L' = L ∧ ∃ e, (pairE bs ≠ 0 ∧ e = pairE bs) ∧ ch = lwrong e) := by
  have hm := h.size
  have hc := h.le
  refine enter (args := [_]) (fn := Tryz.f62) ⟨Tryz.func62, rfl, by kernel_rfl, by kernel_rfl⟩ 40 rfl ?_
  refine x_seq (x_region ?_)
  refine tl_e rfl (e_alloc (fun b1 => ?_))
  refine tl_nil (.then_normal ?_)
  refine x_seq (x_region ?_)
  refine tl_y rfl (y_load rfl rfl (.own inferInstance inferInstance)) ?_
  refine tl_y rfl (y_len rfl) ?_
  refine tl_y rfl (y_geq rfl rfl) ?_
  refine tl_e rfl (e_call rfl (lmust_spec _ _) (by
    rintro _ _ _ _ ⟨rfl, rfl, ht, rfl⟩
    have e : pairE bs = 2 := by rw [pairE, if_pos (by simp at ht; omega)]
    exact TP.dropTo L inferInstance (.retA rfl (Le.refl _) ⟨rfl, _, ⟨by rw [e]; decide, rfl⟩, by rw [e]⟩)) ?_)
  rintro _ _ _ _ ⟨rfl, rfl, ht⟩
  have h8 : 8 ≤ m := by simp at ht; omega
  have hs4 : Bytes M (sl A 4 c 1) 4 (c - 4) ((bs.drop 4).take 4) := Bytes.sub h 4 8 (by omega) h8
  refine tl_nil (.then_normal ?_)
  refine .sub (F' := [(0, _), (1, _)]) (.cons rfl (.cons rfl .nil)) ?_
  refine x_seq (x_region ?_)
  refine tl_y rfl (y_load rfl rfl (.own inferInstance inferInstance)) ?_
  refine tl_y rfl (y_sliceH rfl rfl (by omega) (by omega)) ?_
  refine tl_e rfl (e_call' rfl (Get8_spec (Bytes.take h 4 (by omega)) (by omega)) ?_)
  rintro _ _ _ _ ⟨rfl, rfl, x, hx, rfl⟩
  have hgl := getB_lt (bs.take 4)
  rw [List.length_take, Nat.min_eq_left (by omega)] at hgl
  have hcv : ((pairC bs).t.toNat : Int) = (x.toNat : Int) := by rw [pairC, UInt32.toNat_ofNat', hx, Nat.mod_eq_of_lt (by omega)]
  refine tl_y rfl (y_move (v := .tuple _) rfl) ?_
  refine tl_y rfl (y_extract rfl) ?_
  refine tl_y rfl (y_extract rfl) ?_
  refine tl_y rfl (y_assign (v := .int _ _) rfl) ?_
  refine tl_y rfl (y_assign (v := .bool _) rfl) ?_
  refine tl_nil (.then_normal ?_)
  refine .sub (F' := [(0, _), (1, _), (2, _)]) (.cons rfl (.cons rfl (.cons rfl .nil))) ?_
  refine x_seq (x_region ?_)
  refine tl_y rfl (y_load rfl rfl (.own inferInstance inferInstance)) ?_
  refine tl_y rfl (y_sliceLH rfl rfl rfl (by omega) (by omega)) ?_
  refine tl_e rfl (e_call' rfl (Get8_spec hs4 (by omega)) ?_)
  rintro _ _ _ _ ⟨rfl, rfl, y, hy, rfl⟩
  have hgl2 := getB_lt ((bs.drop 4).take 4)
  rw [List.length_take, List.length_drop, Nat.min_eq_left (by omega)] at hgl2
  have hcv2 : ((pairC bs).o.toNat : Int) = (y.toNat : Int) := by rw [pairC, UInt32.toNat_ofNat', hy, Nat.mod_eq_of_lt (by omega)]
  refine tl_y rfl (y_move (v := .tuple _) rfl) ?_
  refine tl_y rfl (y_extract rfl) ?_
  refine tl_y rfl (y_extract rfl) ?_
  refine tl_y rfl (y_assign (v := .int _ _) rfl) ?_
  refine tl_y rfl (y_assign (v := .bool _) rfl) ?_
  refine tl_nil (.then_normal ?_)
  refine .sub (F' := [(0, _), (1, _), (2, _), (4, _)]) (.cons rfl (.cons rfl (.cons rfl (.cons rfl .nil)))) ?_
  refine x_seq (x_region ?_)
  refine tl_y rfl (y_move (v := .int _ _) rfl) ?_
  refine tl_y rfl (y_convE (b := ((pairC bs).o.toNat : Int)) rfl (by rw [wrapU32, hcv2]; omega)) ?_
  refine tl_y rfl (y_move (v := .int _ _) rfl) ?_
  refine tl_y rfl (y_convE (b := ((pairC bs).t.toNat : Int)) rfl (by rw [wrapU32, hcv]; omega)) ?_
  refine tl_y rfl (y_build rfl) ?_
  refine tl_e rfl (e_alloc (fun b2 => ?_))
  refine tl_e rfl (e_store rfl rfl (by rfl) (by rfl) inferInstance inferInstance inferInstance ?_)
  refine tl_nil (.then_normal ?_)
  refine .sub (F' := [(0, _), (1, _), (6, _)]) (.cons rfl (.cons rfl (.cons rfl .nil))) ?_
  refine x_seq (x_region ?_)
  refine tl_y rfl (y_loadAgg rfl rfl (.own inferInstance inferInstance)) ?_
  refine tl_e rfl (e_call rfl (of_spec hg.hs (pairC bs)) (by
    rintro _ M1 _ hM1 ⟨rfl, hno, rfl⟩
    have e : pairE bs = 4 := by rw [pairE, if_neg (by omega), if_pos hno]
    exact TP.dropTo L inferInstance (.retA rfl hM1 ⟨rfl, _, ⟨by rw [e]; decide, rfl⟩, by rw [e]⟩)) ?_)
  rintro _ M1 _ hM1 ⟨rfl, hok, rfl⟩
  obtain ⟨n, w, p, H, hx⟩ := okP_facts hok
  obtain ⟨z1, z2, z3, z4, z5⟩ := hx.sizes
  have hn32 := hx.o.n32
  refine tl_e rfl (e_alloc (fun b3 => ?_))
  refine tl_e rfl (e_store rfl rfl (by rfl) (by rfl) inferInstance inferInstance inferInstance ?_)
  refine tl_nil (.then_normal ?_)
  refine x_seq (x_region ?_)
  refine tl_y rfl (y_load rfl rfl (.own inferInstance inferInstance)) ?_
  refine tl_y rfl (y_len rfl) ?_
  refine tl_y rfl (y_fieldAddr rfl) ?_
  refine tl_y rfl (y_fieldAddr rfl) ?_
  refine tl_y rfl (y_load (v := .int .i64 (n : Int)) rfl rfl (by rw [← hx.tn]; exact .own inferInstance inferInstance)) ?_
  refine tl_y rfl (y_addI rfl rfl (by omega)) ?_
  refine tl_y rfl (y_eql rfl rfl) ?_
  refine tl_e rfl (e_call rfl (lmust_spec _ _) (by
    rintro _ _ _ _ ⟨rfl, rfl, ht, rfl⟩
    have e : pairE bs = 5 := by rw [pairE, if_neg (by omega), if_neg (fun h => h hok), if_pos (by simp at ht; omega)]
    exact TP.dropTo L inferInstance (.retA rfl hM1 ⟨rfl, _, ⟨by rw [e]; decide, rfl⟩, by rw [e]⟩)) ?_)
  rintro _ _ _ _ ⟨rfl, rfl, ht⟩
  have h0 : pairE bs = 0 := by rw [pairE, if_neg (by omega), if_neg (fun h => h hok), if_neg (by simp at ht; omega)]
  refine tl_nil (.then_normal ?_)
  refine .sub (F' := [(1, _), (6, _)]) (.cons rfl (.cons rfl .nil)) ?_
  refine x_seq (x_region ?_)
  refine tl_y rfl (y_loadAgg rfl rfl (.own inferInstance inferInstance)) ?_
  refine tl_e rfl (e_store rfl rfl (by rfl) (by rfl) inferInstance inferInstance inferInstance ?_)
  refine tl_nil (.then_normal ?_)
  refine x_ret (retRV (L' := L) (rv1 rfl (rc_cellAgg (by rfl) rfl (.own inferInstance inferInstance))) inferInstance hM1 ⟨rfl, _, rfl, h0, rfl⟩)
theorem Pair_spec (hg : LmG M) {A : Option Addr} {m c : Nat} {bs : List UInt8} (h : Bytes M A m c bs) (hmb : m ≤ 1000000000000) :
    Con Tryz.prog 20 #[.slice A m c] G M L (fun v M' L' => L' = L ∧ v = .tuple #[.agg (List.toArray (pairX bs).cells), .int .i64 (pairE bs)]) noPanic := by
  refine enter (args := [_]) (fn := Tryz.f20) ⟨Tryz.func20, rfl, by kernel_rfl, by kernel_rfl⟩ 8 rfl ?_
  refine x_seq (x_region ?_)
  refine tl_e rfl (e_box rfl (fun b1 => ?_))
  refine tl_e rfl (e_alloc (fun b2 => ?_))
  refine tl_y rfl (y_assign rfl) ?_
  refine tl_nil (.then_normal ?_)
  refine x_seq (x_region ?_)
  refine tl_y rfl (y_makeFunc rfl rfl) ?_
  refine tl_e rfl (e_call' rfl (caughtX_spec (K := fun x _ => pairE bs = 0 ∧ x = pairC bs) (Kp := fun e => pairE bs ≠ 0 ∧ e = pairE bs) (first := []) (cap := [.pointer (some ⟨b1, 0, none⟩)]) (fun p' q' => Pair1_spec hg h hmb)) ?_)
  rintro v M1 _ hM1 ⟨rfl, hv⟩
  obtain rfl : v = .tuple #[.agg (List.toArray (pairX bs).cells), .int .i64 (pairE bs)] := by
    rcases hv with ⟨x, rfl, h0, rfl⟩ | ⟨e, rfl, hno, rfl⟩
    · rw [pairX, if_pos h0, h0]
    · rw [pairX, if_neg hno]; rfl
  refine tl_y rfl (y_extract rfl) ?_
  refine tl_y rfl (y_extract rfl) ?_
  refine tl_e rfl (e_store rfl rfl (by rfl) (by rfl) inferInstance inferInstance inferInstance ?_)
  refine tl_y rfl (y_assign (v := .int _ _) rfl) ?_
  refine tl_nil (.then_normal ?_)
  refine .sub (F' := [(2, _), (3, _)]) (.cons rfl (.cons rfl .nil)) ?_
  refine x_ret (retRV (L' := L) (rv2 rfl (rc_cellAgg (by rfl) rfl (.own inferInstance inferInstance)) (rc_tmp (by rfl))) inferInstance hM1 ⟨rfl, rfl⟩)
theorem Take1_spec (hg : LmG M) (x : PairV) {A : Option Addr} {m c : Nat} {bs : List UInt8} (h : Bytes M A m c bs) (hmb : m ≤ 1000000000000) {bp b : Nat} [hp : Has L bp (.cells (List.toArray x.cells) 24 (0, 0))] [hb : Has L b (.cells (List.toArray [.slice A m c]) 35 (0, 0))] :
    Con Tryz.prog 67 #[.pointer (some ⟨bp, 0, none⟩), .pointer (some ⟨b, 0, none⟩)] G M L (fun v M' L' => L' = L ∧ ∃ y z : SlV, v = .agg (List.toArray [y.v, z.v]) ∧ takeE x m = 0 ∧ Le M M' ∧ y = ⟨sl A 0 (sigN x) 1, sigN x, sigN x⟩ ∧ z = ⟨sl A (sigN x) c 1, m - sigN x, c - sigN x⟩) (fun ch M' L' => L' = L ∧ ∃ e, (takeE x m ≠ 0 ∧ e = takeE x m) ∧ ch = lwrong e) := by
  have hm := h.size
  have hc := h.le
  refine enter (args := [_, _]) (fn := Tryz.f67) ⟨Tryz.func67, rfl, by kernel_rfl, by kernel_rfl⟩ 20 rfl ?_
  refine x_seq (x_region ?_)
  refine tl_e rfl (e_alloc (fun b1 => ?_))
  refine tl_nil (.then_normal ?_)
  refine x_seq (x_region ?_)
  refine tl_y rfl (y_loadAgg rfl rfl (.own inferInstance inferInstance)) ?_
  refine tl_e rfl (e_call rfl (of_spec hg.hs x) (by
    rintro _ M1 _ hM1 ⟨rfl, hno, rfl⟩
    have e : takeE x m = 4 := by rw [takeE, if_pos hno]
    exact TP.dropTo L inferInstance (.retA rfl hM1 ⟨rfl, _, ⟨by rw [e]; decide, rfl⟩, by rw [e]⟩)) ?_)
  rintro _ M1 _ hM1 ⟨rfl, hok, rfl⟩
  obtain ⟨n, w, p, H, hx⟩ := okP_facts hok
  obtain ⟨z1, z2, z3, z4, z5⟩ := hx.sizes
  refine tl_e rfl (e_call' rfl (lsize_spec hx) ?_)
  rintro _ _ _ _ ⟨rfl, rfl, rfl⟩
  refine tl_y rfl (y_assign (v := .int _ _) rfl) ?_
  refine tl_nil (.then_normal ?_)
  refine .sub (F' := [(1, _), (2, _), (3, _)]) (.cons rfl (.cons rfl (.cons rfl .nil))) ?_
  refine x_seq (x_region ?_)
  refine tl_y rfl (y_load rfl rfl (.own inferInstance inferInstance)) ?_
  refine tl_y rfl (y_len rfl) ?_
  refine tl_y rfl (y_move (v := .int _ _) rfl) ?_
  refine tl_y rfl (y_geq rfl rfl) ?_
  refine tl_e rfl (e_call rfl (lmust_spec _ _) (by
    rintro _ _ _ _ ⟨rfl, rfl, ht, rfl⟩
    have e : takeE x m = 2 := by rw [takeE, if_neg (fun h => h hok), if_pos (by simp at ht; omega)]
    exact TP.dropTo L inferInstance (.retA rfl hM1 ⟨rfl, _, ⟨by rw [e]; decide, rfl⟩, by rw [e]⟩)) ?_)
  rintro _ _ _ _ ⟨rfl, rfl, ht⟩
  have hN : sigN x ≤ m := by simp at ht; omega
  have h0 : takeE x m = 0 := by rw [takeE, if_neg (fun h => h hok), if_neg (by omega)]
  refine tl_nil (.then_normal ?_)
  refine .sub (F' := [(1, _), (2, _), (3, _)]) (.cons rfl (.cons rfl (.cons rfl .nil))) ?_
  refine x_seq ?_
  refine x_draw 8 hmix rfl ?_
  refine to_y 0 rfl (by kernel_rfl) rfl (y_load rfl rfl (.own inferInstance inferInstance)) ?_
  refine to_p 1 rfl (by kernel_rfl) rfl (y_move (v := .int _ _) rfl) ?_
  refine to_p 2 rfl (by kernel_rfl) rfl (y_move (v := .int _ _) rfl) ?_
  refine to_p 3 rfl (by kernel_rfl) rfl (y_slice3 rfl rfl rfl (by omega) (by omega)) ?_
  refine to_y 4 rfl (by kernel_rfl) rfl (y_load rfl rfl (.own inferInstance inferInstance)) ?_
  refine to_p 5 rfl (by kernel_rfl) rfl (y_move (v := .int _ _) rfl) ?_
  refine to_p 6 rfl (by kernel_rfl) rfl (y_sliceL rfl rfl (by omega)) ?_
  refine to_p 7 rfl (by kernel_rfl) rfl (y_buildArr rfl) ?_
  refine to_t 8 rfl (by kernel_rfl) (by kernel_rfl) rfl (e_store rfl rfl (by rfl) (by rfl) inferInstance inferInstance inferInstance ?_)
  refine to_nil (by kernel_rfl) (.then_normal ?_)
  refine .sub (F' := [(2, _)]) (.cons rfl .nil) ?_
  refine x_ret (retRV (L' := L) (rv1 rfl (rc_cellAgg (by rfl) rfl (.own inferInstance inferInstance))) inferInstance hM1 ⟨rfl, ⟨_, _, _⟩, ⟨_, _, _⟩, rfl, h0, hM1, rfl, rfl⟩)
theorem Take_spec (hg : LmG M) (x : PairV) {A : Option Addr} {m c : Nat} {bs : List UInt8} (h : Bytes M A m c bs) (hmb : m ≤ 1000000000000) :
    Con Tryz.prog 22 #[.agg (List.toArray x.cells), .slice A m c] G M L (fun v M' L' => L' = L ∧ ∃ A1 n1 c1 A2 n2 c2, v = .tuple #[.slice A1 n1 c1, .slice A2 n2 c2, .int .i64 (takeE x m)] ∧ Bytes M' A1 n1 c1 (if takeE x m = 0 then bs.take (sigN x) else []) ∧ Bytes M' A2 n2 c2 (if takeE x m = 0 then bs.drop (sigN x) else [])) noPanic := by
  have hm := h.size
  have hc := h.le
  refine enter (args := [_, _]) (fn := Tryz.f22) ⟨Tryz.func22, rfl, by kernel_rfl, by kernel_rfl⟩ 19 rfl ?_
  refine x_seq (x_region ?_)
  refine tl_e rfl (e_box rfl (fun b1 => ?_))
  refine tl_e rfl (e_box rfl (fun b2 => ?_))
  refine tl_y rfl (y_assign rfl) ?_
  refine tl_y rfl (y_assign rfl) ?_
  refine tl_y rfl (y_assign rfl) ?_
  refine tl_nil (.then_normal ?_)
  refine .sub (F' := [(2, _), (3, _)]) (.cons rfl (.cons rfl .nil)) ?_
  refine x_seq (x_region ?_)
  refine tl_y rfl (y_makeFunc rfl rfl) ?_
  refine tl_e rfl (e_call' rfl (caughtTk_spec (K := fun y z M' => takeE x m = 0 ∧ Le M M' ∧ y = ⟨sl A 0 (sigN x) 1, sigN x, sigN x⟩ ∧ z = ⟨sl A (sigN x) c 1, m - sigN x, c - sigN x⟩) (Kp := fun e => takeE x m ≠ 0 ∧ e = takeE x m) (first := []) (cap := [.pointer (some ⟨b1, 0, none⟩), .pointer (some ⟨b2, 0, none⟩)]) (fun p' q' => Take1_spec hg x h hmb)) ?_)
  rintro v M1 _ hM1 ⟨rfl, hv⟩
  obtain ⟨⟨A1, n1, c1⟩, ⟨A2, n2, c2⟩, rfl, hb1, hb2⟩ : ∃ y z : SlV, v = .tuple #[.agg (List.toArray [y.v, z.v]), .int .i64 (takeE x m)] ∧ Bytes M1 y.a y.n y.c (if takeE x m = 0 then bs.take (sigN x) else []) ∧ Bytes M1 z.a z.n z.c (if takeE x m = 0 then bs.drop (sigN x) else []) := by
    rcases hv with ⟨y, z, rfl, h0, hle, rfl, rfl⟩ | ⟨e, rfl, hno, rfl⟩
    · have hN : sigN x ≤ m := by
        unfold takeE at h0
        split at h0
        · cases h0
        · split at h0
          · cases h0
          · omega
      exact ⟨_, _, by rw [h0], by rw [if_pos h0]; exact Bytes.take3 (h.mono hM1) _ _ hN (Nat.le_refl _) (by omega), by rw [if_pos h0]; exact Bytes.drop (h.mono hM1) _ hN⟩
    · exact ⟨⟨none, 0, 0⟩, ⟨none, 0, 0⟩, rfl, by rw [if_neg hno]; exact Row.nil _ _, by rw [if_neg hno]; exact Row.nil _ _⟩
  refine tl_y rfl (y_move (v := .tuple _) rfl) ?_
  refine tl_y rfl (y_extract rfl) ?_
  refine tl_y rfl (y_extract rfl) ?_
  refine tl_e rfl (e_alloc (fun b3 => ?_))
  refine tl_e rfl (e_store rfl rfl (by rfl) (by rfl) inferInstance inferInstance inferInstance ?_)
  refine tl_y rfl (y_assign (v := .int _ _) rfl) ?_
  refine tl_nil (.then_normal ?_)
  refine .sub (F' := [(7, _), (8, _)]) (.cons rfl (.cons rfl .nil)) ?_
  refine x_seq ?_
  refine x_draw 8 hmix rfl ?_
  refine to_p 0 rfl (by kernel_rfl) rfl (y_indexArrK 0 rfl rfl (by omega)) ?_
  refine to_y 1 rfl (by kernel_rfl) rfl (y_load rfl rfl (.own inferInstance inferInstance)) ?_
  refine to_p 2 rfl (by kernel_rfl) rfl (y_indexArrK 1 rfl rfl (by omega)) ?_
  refine to_y 3 rfl (by kernel_rfl) rfl (y_load rfl rfl (.own inferInstance inferInstance)) ?_
  refine to_p 4 rfl (by kernel_rfl) rfl (y_move (v := .int _ _) rfl) ?_
  refine to_p 5 rfl (by kernel_rfl) rfl (y_assign (v := .slice _ _ _) rfl) ?_
  refine to_p 6 rfl (by kernel_rfl) rfl (y_assign (v := .slice _ _ _) rfl) ?_
  refine to_p 7 rfl (by kernel_rfl) rfl (y_assign (v := .int _ _) rfl) ?_
  refine to_nil (by kernel_rfl) (.then_normal ?_)
  refine .sub (F' := [(4, _), (5, _), (6, _)]) (.cons rfl (.cons rfl (.cons rfl .nil))) ?_
  refine x_ret (.dropTo L inferInstance (ret3 rfl rfl rfl rfl hM1 ⟨rfl, _, _, _, _, _, _, rfl, hb1, hb2⟩))
end
end Go.Proofs.YtiimjodbaogjbaaGreatDoor
set_option linter.unusedVariables false
set_option linter.unusedSimpArgs false
set_option linter.constructorNameAsVariable false
namespace Go.Proofs.YtiimjodbaogjbaaGreatDoor
open Go Go.Eng
section
variable {G : World} {M : Mem} {L : Own} {NA SA TA : Option Addr} {nl nc sl_ sc tl tc : Nat} {name sec text : List UInt8}
theorem caughtHB1_ret {b c : Nat} {x : Int} {cs : List Value} : ConD Tryz.prog 169 #[.pointer (some ⟨b, 0, none⟩), .pointer (some ⟨c, 0, none⟩)] .returning G M ((c, .cells (List.toArray [.int .i64 x]) 38 (0, 0)) :: (b, .cells cs.toArray 35 (0, 0)) :: L) (fun u' M' L' => u' = .returning ∧ M' = M ∧ L' = (c, .cells (List.toArray [.int .i64 x]) 38 (0, 0)) :: (b, .cells cs.toArray 35 (0, 0)) :: L) := by
  refine enterRec (args := [_, _]) (fn := Tryz.f169) ⟨Tryz.func169, rfl, by kernel_rfl, by kernel_rfl⟩ 15 rfl rfl ?_
  refine x_block ?_
  refine x_seq (x_region ?_)
  refine tl_y rfl (y_eqNilIface rfl rfl) ?_
  refine tl_nil (.then_normal ?_)
  refine x_true rfl (rfl) ?_
  refine x_region ?_
  refine tl_y rfl (y_assign rfl) ?_
  refine tl_nil (.block_normal (.rec_normal (Le.refl _) ⟨rfl, rfl, rfl⟩))
theorem caughtHB1_wrong {b c : Nat} {x e : Int} : ConD Tryz.prog 169 #[.pointer (some ⟨b, 0, none⟩), .pointer (some ⟨c, 0, none⟩)] (.panicking (hwrong e)) G M ((c, .cells (List.toArray [.int .i64 x]) 38 (0, 0)) :: (b, .cells (List.toArray [.slice none 0 0]) 35 (0, 0)) :: L)
    (fun u' M' L' => u' = .panicking [{ v := hwrongv e, recovered := true }] ∧ M' = M ∧ L' = (c, .cells (List.toArray [.int .i64 e]) 38 (0, 0)) :: (b, .cells (List.toArray [.slice none 0 0]) 35 (0, 0)) :: L) := by
  refine enterRec (args := [_, _]) (fn := Tryz.f169) ⟨Tryz.func169, rfl, by kernel_rfl, by kernel_rfl⟩ 15 rfl rfl ?_
  refine x_block ?_
  refine x_seq (x_region ?_)
  refine tl_y rfl (y_eqIfaceNil rfl rfl) ?_
  refine tl_nil (.then_normal ?_)
  refine x_false rfl (rfl) ?_
  refine x_seq (x_region ?_)
  refine tl_y rfl (y_assertOk rfl (by intro _ h; cases h)) ?_
  refine tl_y rfl (y_extract rfl) ?_
  refine tl_y rfl (y_extract rfl) ?_
  refine tl_nil (.then_normal ?_)
  refine x_true rfl (rfl) ?_
  refine x_seq (x_region ?_)
  refine tl_e rfl (e_alloc (fun b7 => ?_))
  refine tl_e rfl (e_store rfl rfl (by rfl) (by rfl) inferInstance inferInstance inferInstance ?_)
  refine tl_nil (.then_normal ?_)
  refine .sub (F' := [(0, _), (1, _), (3, _)]) (.cons rfl (.cons rfl (.cons rfl .nil))) ?_
  refine x_seq (x_region ?_)
  refine tl_y rfl (y_assign rfl) ?_
  refine tl_nil (.then_normal ?_)
  refine x_draw0 4 ((b7, .cells (List.toArray [.int .i64 e]) 164 (0, 0)) :: []) Keeps.mem hmix rfl ?_
  refine to_p 0 rfl (by kernel_rfl) rfl (y_move (v := .slice _ _ _) rfl) ?_
  refine to_p 1 rfl (by kernel_rfl) rfl (y_fieldAddr rfl) ?_
  refine to_y 2 rfl (by kernel_rfl) rfl (y_load rfl rfl (.own inferInstance inferInstance)) ?_
  refine to_e 3 rfl (by kernel_rfl) rfl (e_store rfl rfl (by rfl) (by rfl) inferInstance inferInstance inferInstance ?_)
  refine ⟨⟨(by first | exact Le.refl _ | assumption), Keeps.mem⟩, ?_⟩
  refine to_t 4 rfl (by kernel_rfl) (by kernel_rfl) rfl (e_store rfl rfl (by rfl) (by rfl) inferInstance inferInstance inferInstance ?_)
  refine to_nil (by kernel_rfl) (.block_normal (.dropTo ((c, .cells (List.toArray [.int .i64 e]) 38 (0, 0)) :: (b, .cells (List.toArray [.slice none 0 0]) 35 (0, 0)) :: L) inferInstance (.rec_normal (Le.refl _) ⟨rfl, rfl, rfl⟩)))
theorem caughtHB_spec {wf : FuncId} {first cap : List Value} {K : Option Addr → Nat → Nat → Mem → Prop} {Kp : Int → Prop}
    (hw : ∀ p q, Con Tryz.prog wf (first ++ [] ++ cap).toArray G M (p :: q :: L) (fun v M' L' => L' = p :: q :: L ∧ ∃ A n c, v = .slice A n c ∧ K A n c M') (fun ch M' L' => L' = p :: q :: L ∧ ∃ e, Kp e ∧ ch = hwrong e)) :
    Con Tryz.prog 112 #[.func (.func wf) first.toArray cap.toArray] G M L (fun v M' L' => L' = L ∧ ((∃ A n c, v = .tuple #[.slice A n c, .int .i64 0] ∧ K A n c M') ∨ (∃ e, v = .tuple #[.slice none 0 0, .int .i64 e] ∧ Kp e))) noPanic := by
  refine enterD (args := [_]) (fn := Tryz.f112) ⟨Tryz.func112, rfl, by kernel_rfl, by kernel_rfl⟩ 7 rfl ?_
  refine x_seq (x_region ?_)
  refine tl_e rfl (e_alloc (fun b1 => ?_))
  refine tl_e rfl (e_alloc (fun b2 => ?_))
  refine tl_nil (.then_normal ?_)
  refine x_seq (x_region ?_)
  refine tl_y rfl (y_makeFunc rfl rfl) ?_
  refine tl_e rfl (e_defer rfl rfl rfl ?_)
  refine tl_nil (.then_normal ?_)
  refine x_seq (x_region ?_)
  refine tl_y rfl (y_move (v := .func _ _ _) rfl) ?_
  refine tl_e rfl (e_callv rfl rfl (hw _ _) (by
    rintro _ M1 _ hM1 ⟨rfl, e, hr, rfl⟩
    refine .retD (cap := [_, _]) (args := []) caughtHB1_wrong ?_
    rintro _ M2 _ hM2 ⟨rfl, rfl, rfl⟩
    exact .inl ⟨rfl, _, L, rv2 rfl (rc_cell (by rfl) rfl (.own inferInstance inferInstance)) (rc_cell (by rfl) rfl (.own inferInstance inferInstance)), inferInstance, hM1, rfl, .inr ⟨e, rfl, hr⟩⟩) ?_)
  rintro _ M1 _ hM1 ⟨rfl, A, n, c, rfl, hk⟩
  refine tl_e rfl (e_store rfl rfl (by rfl) (by rfl) inferInstance inferInstance inferInstance ?_)
  refine tl_e rfl (e_store rfl rfl (by rfl) (by rfl) inferInstance inferInstance inferInstance ?_)
  refine tl_nil (.then_normal ?_)
  refine .sub (F' := [(2, _), (3, _)]) (.cons rfl (.cons rfl .nil)) ?_
  refine x_ret (.retD (cap := [_, _]) (args := []) (caughtHB1_ret (cs := [.slice A n c])) ?_)
  rintro _ M2 _ hM2 ⟨rfl, rfl, rfl⟩
  exact .inl ⟨rfl, _, L, rv2 rfl (rc_cell (by rfl) rfl (.own inferInstance inferInstance)) (rc_cell (by rfl) rfl (.own inferInstance inferInstance)), inferInstance, hM1, rfl, .inl ⟨A, n, c, rfl, hk⟩⟩
theorem caughtHE1_ret {b c : Nat} {x : Int} {cs : List Value} : ConD Tryz.prog 136 #[.pointer (some ⟨b, 0, none⟩), .pointer (some ⟨c, 0, none⟩)] .returning G M ((c, .cells (List.toArray [.int .i64 x]) 38 (0, 0)) :: (b, .cells (List.toArray cs) 49 (0, 0)) :: L) (fun u' M' L' => u' = .returning ∧ M' = M ∧ L' = (c, .cells (List.toArray [.int .i64 x]) 38 (0, 0)) :: (b, .cells cs.toArray 49 (0, 0)) :: L) := by
  refine enterRec (args := [_, _]) (fn := Tryz.f136) ⟨Tryz.func136, rfl, by kernel_rfl, by kernel_rfl⟩ 15 rfl rfl ?_
  refine x_block ?_
  refine x_seq (x_region ?_)
  refine tl_y rfl (y_eqNilIface rfl rfl) ?_
  refine tl_nil (.then_normal ?_)
  refine x_true rfl (rfl) ?_
  refine x_region ?_
  refine tl_y rfl (y_assign rfl) ?_
  refine tl_nil (.block_normal (.rec_normal (Le.refl _) ⟨rfl, rfl, rfl⟩))
theorem caughtHE1_wrong {b c : Nat} {x e : Int} : ConD Tryz.prog 136 #[.pointer (some ⟨b, 0, none⟩), .pointer (some ⟨c, 0, none⟩)] (.panicking (hwrong e)) G M ((c, .cells (List.toArray [.int .i64 x]) 38 (0, 0)) :: (b, .cells (List.toArray [.slice none 0 0, .slice none 0 0]) 49 (0, 0)) :: L)
    (fun u' M' L' => u' = .panicking [{ v := hwrongv e, recovered := true }] ∧ M' = M ∧ L' = (c, .cells (List.toArray [.int .i64 e]) 38 (0, 0)) :: (b, .cells (List.toArray [.slice none 0 0, .slice none 0 0]) 49 (0, 0)) :: L) := by
  refine enterRec (args := [_, _]) (fn := Tryz.f136) ⟨Tryz.func136, rfl, by kernel_rfl, by kernel_rfl⟩ 15 rfl rfl ?_
  refine x_block ?_
  refine x_seq (x_region ?_)
  refine tl_y rfl (y_eqIfaceNil rfl rfl) ?_
  refine tl_nil (.then_normal ?_)
  refine x_false rfl (rfl) ?_
  refine x_seq (x_region ?_)
  refine tl_y rfl (y_assertOk rfl (by intro _ h; cases h)) ?_
  refine tl_y rfl (y_extract rfl) ?_
  refine tl_y rfl (y_extract rfl) ?_
  refine tl_nil (.then_normal ?_)
  refine x_true rfl (rfl) ?_
  refine x_seq (x_region ?_)
  refine tl_e rfl (e_alloc (fun b7 => ?_))
  refine tl_e rfl (e_store rfl rfl (by rfl) (by rfl) inferInstance inferInstance inferInstance ?_)
  refine tl_nil (.then_normal ?_)
  refine .sub (F' := [(0, _), (1, _), (3, _)]) (.cons rfl (.cons rfl (.cons rfl .nil))) ?_
  refine x_seq (x_region ?_)
  refine tl_e rfl (e_alloc (fun b8 => ?_))
  refine tl_nil (.then_normal ?_)
  refine x_draw0 4 ((b7, .cells (List.toArray [.int .i64 e]) 164 (0, 0)) :: (b8, .cells (List.toArray [.slice none 0 0, .slice none 0 0]) 49 (0, 0)) :: []) Keeps.mem hmix rfl ?_
  refine to_y 0 rfl (by kernel_rfl) rfl (y_loadAgg rfl rfl (.own inferInstance inferInstance)) ?_
  refine to_p 1 rfl (by kernel_rfl) rfl (y_fieldAddr rfl) ?_
  refine to_y 2 rfl (by kernel_rfl) rfl (y_load rfl rfl (.own inferInstance inferInstance)) ?_
  refine to_e 3 rfl (by kernel_rfl) rfl (e_store rfl rfl (by rfl) (by rfl) inferInstance inferInstance inferInstance ?_)
  refine ⟨⟨(by first | exact Le.refl _ | assumption), Keeps.mem⟩, ?_⟩
  refine to_t 4 rfl (by kernel_rfl) (by kernel_rfl) rfl (e_store rfl rfl (by rfl) (by rfl) inferInstance inferInstance inferInstance ?_)
  refine to_nil (by kernel_rfl) (.block_normal (.dropTo ((c, .cells (List.toArray [.int .i64 e]) 38 (0, 0)) :: (b, .cells (List.toArray [.slice none 0 0, .slice none 0 0]) 49 (0, 0)) :: L) inferInstance (.rec_normal (Le.refl _) ⟨rfl, rfl, rfl⟩)))
theorem caughtHE_spec {wf : FuncId} {first cap : List Value} {K : SlV → SlV → Mem → Prop} {Kp : Int → Prop}
    (hw : ∀ p q, Con Tryz.prog wf (first ++ [] ++ cap).toArray G M (p :: q :: L) (fun v M' L' => L' = p :: q :: L ∧ ∃ x y, v = .agg (List.toArray ([x.v, y.v])) ∧ K x y M') (fun ch M' L' => L' = p :: q :: L ∧ ∃ e, Kp e ∧ ch = hwrong e)) :
    Con Tryz.prog 77 #[.func (.func wf) first.toArray cap.toArray] G M L (fun v M' L' => L' = L ∧ ((∃ x y, v = .tuple #[.agg (List.toArray ([x.v, y.v])), .int .i64 0] ∧ K x y M') ∨ (∃ e, v = .tuple #[.agg (List.toArray [.slice none 0 0, .slice none 0 0]), .int .i64 e] ∧ Kp e))) noPanic := by
  refine enterD (args := [_]) (fn := Tryz.f77) ⟨Tryz.func77, rfl, by kernel_rfl, by kernel_rfl⟩ 7 rfl ?_
  refine x_seq (x_region ?_)
  refine tl_e rfl (e_alloc (fun b1 => ?_))
  refine tl_e rfl (e_alloc (fun b2 => ?_))
  refine tl_nil (.then_normal ?_)
  refine x_seq (x_region ?_)
  refine tl_y rfl (y_makeFunc rfl rfl) ?_
  refine tl_e rfl (e_defer rfl rfl rfl ?_)
  refine tl_nil (.then_normal ?_)
  refine x_seq (x_region ?_)
  refine tl_y rfl (y_move (v := .func _ _ _) rfl) ?_
  refine tl_e rfl (e_callv rfl rfl (hw _ _) (by
    rintro _ M1 _ hM1 ⟨rfl, e, hr, rfl⟩
    refine .retD (cap := [_, _]) (args := []) caughtHE1_wrong ?_
    rintro _ M2 _ hM2 ⟨rfl, rfl, rfl⟩
    exact .inl ⟨rfl, _, L, rv2 rfl (rc_cellAgg (by rfl) rfl (.own inferInstance inferInstance)) (rc_cell (by rfl) rfl (.own inferInstance inferInstance)), inferInstance, hM1, rfl, .inr ⟨e, rfl, hr⟩⟩) ?_)
  rintro _ M1 _ hM1 ⟨rfl, x, y, rfl, hk⟩
  refine tl_e rfl (e_store rfl rfl (by rfl) (by rfl) inferInstance inferInstance inferInstance ?_)
  refine tl_e rfl (e_store rfl rfl (by rfl) (by rfl) inferInstance inferInstance inferInstance ?_)
  refine tl_nil (.then_normal ?_)
  refine .sub (F' := [(2, _), (3, _)]) (.cons rfl (.cons rfl .nil)) ?_
  refine x_ret (.retD (cap := [_, _]) (args := []) (caughtHE1_ret (cs := [x.v, y.v])) ?_)
  rintro _ M2 _ hM2 ⟨rfl, rfl, rfl⟩
  exact .inl ⟨rfl, _, L, rv2 rfl (rc_cellAgg (by rfl) rfl (.own inferInstance inferInstance)) (rc_cell (by rfl) rfl (.own inferInstance inferInstance)), inferInstance, hM1, rfl, .inl ⟨x, y, rfl, hk⟩⟩
theorem hwell_spec (e : Int) :
    Con Tryz.prog 170 #[.int .i64 e] G M L (fun v M' L' => M = M' ∧ L = L' ∧ e = 0) (fun ch M' L' => M = M' ∧ L = L' ∧ e ≠ 0 ∧ ch = hwrong e) := by
  refine enter (args := [_]) (fn := Tryz.f170) ⟨Tryz.func170, rfl, by kernel_rfl, by kernel_rfl⟩ 6 rfl ?_
  refine x_region ?_
  refine tl_y rfl (y_move (v := .int _ _) rfl) ?_
  refine tl_y rfl (y_eql rfl rfl) ?_
  refine tl_y rfl (y_move (v := .int _ _) rfl) ?_
  refine tl_e rfl (e_call rfl (hmust_spec _ _) (by
    rintro _ _ _ _ ⟨rfl, rfl, ht, rfl⟩
    exact .retA rfl (Le.refl _) ⟨rfl, rfl, by simpa using ht, rfl⟩) ?_)
  rintro _ _ _ _ ⟨rfl, rfl, ht⟩
  refine tl_nil (end0 rfl (Le.refl _) ⟨rfl, rfl, by simpa using ht⟩)
def belNV (x : PairV) (nl sl : Nat) (name sec : List UInt8) (q : Nat) : List UInt8 := if belE x nl sl = 0 then belN x name sec q else []
def belSV (x : PairV) (nl sl : Nat) (name sec : List UInt8) (q : Nat) : List UInt8 := if belE x nl sl = 0 then belS x name sec q else []
theorem below_spec (hg : LmG M) (x : PairV) (hname : Bytes M NA nl nc name) (hsec : Bytes M SA sl_ sc sec) (q : UInt32) :
    Con Tryz.prog 79 #[.agg (List.toArray x.cells), .agg (List.toArray (seedC NA nl nc SA sl_ sc)), .int .u32 (q.toNat : Int)] G M L (fun v M' L' => L' = L ∧ ∃ y z : SlV, v = .agg (List.toArray [y.v, z.v]) ∧ belE x nl sl_ = 0 ∧ Bytes M' y.a y.n y.c (belN x name sec q.toNat) ∧ Bytes M' z.a z.n z.c (belS x name sec q.toNat)) (fun ch M' L' => L' = L ∧ belE x nl sl_ ≠ 0 ∧ ch = hwrong (belE x nl sl_)) := by
  refine enter (args := [_, _, _]) (fn := Tryz.f79) ⟨Tryz.func79, rfl, by kernel_rfl, by kernel_rfl⟩ 32 rfl ?_
  refine x_seq (x_region ?_)
  refine tl_e rfl (e_box rfl (fun b1 => ?_))
  refine tl_e rfl (e_box rfl (fun b2 => ?_))
  refine tl_e rfl (e_alloc (fun b3 => ?_))
  refine tl_nil (.then_normal ?_)
  refine x_seq (x_region ?_)
  refine tl_y rfl (y_loadAgg rfl rfl (.own inferInstance inferInstance)) ?_
  refine tl_e rfl (e_call' rfl (lMay_spec hg.hs x) ?_)
  rintro _ M1 _ hM1 ⟨rfl, rfl⟩
  have hd := hM1
  refine tl_e rfl (e_call rfl (hmust_spec _ _) (by
    rintro _ _ _ _ ⟨rfl, rfl, ht, rfl⟩
    have e : belE x nl sl_ = 4 := by rw [belE, if_pos (by simpa using ht)]
    exact TP.dropTo L inferInstance (.retA rfl hd ⟨rfl, by rw [e]; decide, by rw [e]⟩)) ?_)
  rintro _ _ _ _ ⟨rfl, rfl, ht⟩
  have hok : okP x := by simpa using ht
  obtain ⟨n, w, p, H, hx⟩ := okP_facts hok
  have hn32 := hx.o.n32
  refine tl_nil (.then_normal ?_)
  refine .sub (F' := [(2, _), (3, _), (4, _), (6, _)]) (.cons rfl (.cons rfl (.cons rfl (.cons rfl .nil)))) ?_
  refine x_seq (x_region ?_)
  refine tl_y rfl (y_fieldAddr rfl) ?_
  refine tl_y rfl (y_load rfl rfl (.own inferInstance inferInstance)) ?_
  refine tl_e rfl (e_call' rfl (Ots_spec (hg.mono hd).ch.set x.o) ?_)
  rintro _ M2 _ hM2 ⟨rfl, rfl⟩
  replace hd := hd.trans hM2
  refine tl_y rfl (y_move (v := .tuple _) rfl) ?_
  refine tl_y rfl (y_extract rfl) ?_
  refine tl_y rfl (y_extract rfl) ?_
  refine tl_e rfl (e_alloc (fun b4 => ?_))
  refine tl_e rfl (e_store rfl rfl (by rfl) (by rfl) inferInstance inferInstance inferInstance ?_)
  refine tl_y rfl (y_assign (v := .int _ _) rfl) ?_
  refine tl_nil (.then_normal ?_)
  refine .sub (F' := [(2, _), (4, _), (6, _), (7, _)]) (.cons rfl (.cons rfl (.cons rfl (.cons rfl .nil)))) ?_
  refine x_seq (x_region ?_)
  refine tl_y rfl (y_loadAgg rfl rfl (.own inferInstance inferInstance)) ?_
  refine tl_y rfl (y_loadAgg rfl rfl (.own inferInstance inferInstance)) ?_
  refine tl_e rfl (e_call' rfl (oMay_spec (hg.mono hd).ch.set (otsV x.o)) ?_)
  rintro _ M3 _ hM3 ⟨rfl, rfl⟩
  replace hd := hd.trans hM3
  refine tl_e rfl (e_call rfl (hmust_spec _ _) (by
    rintro _ _ _ _ ⟨rfl, rfl, ht, rfl⟩
    have e : belE x nl sl_ = 1 := by rw [belE, if_neg (fun h => h hok), if_pos (by simpa using ht)]
    exact TP.dropTo L inferInstance (.retA rfl hd ⟨rfl, by rw [e]; decide, by rw [e]⟩)) ?_)
  rintro _ _ _ _ ⟨rfl, rfl, ht⟩
  have hy : okY (otsV x.o) nl sl_ := by simpa using ht
  have he0 : belE x nl sl_ = 0 := by rw [belE, if_neg (fun h => h hok), if_neg (fun h => h hy)]
  have hll := hidB_len hx.o name sec q.toNat 65535
  refine tl_nil (.then_normal ?_)
  refine .sub (F' := [(2, _), (4, _), (6, _), (7, _)]) (.cons rfl (.cons rfl (.cons rfl (.cons rfl .nil)))) ?_
  refine x_seq ?_
  have he : Le M3 M3 := Le.refl _
  refine x_draw 10 hmix rfl ?_
  refine to_y 0 rfl (by kernel_rfl) rfl (y_loadAgg rfl rfl (.own inferInstance inferInstance)) ?_
  refine to_y 1 rfl (by kernel_rfl) rfl (y_loadAgg rfl rfl (.own inferInstance inferInstance)) ?_
  refine to_p 2 rfl (by kernel_rfl) rfl (y_move (v := .int _ _) rfl) ?_
  refine to_y 5 rfl (by kernel_rfl) rfl (y_loadAgg rfl rfl (.own inferInstance inferInstance)) ?_
  refine to_y 6 rfl (by kernel_rfl) rfl (y_loadAgg rfl rfl (.own inferInstance inferInstance)) ?_
  refine to_p 7 rfl (by kernel_rfl) rfl (y_move (v := .int _ _) rfl) ?_
  refine to_e 3 rfl (by kernel_rfl) rfl (e_call' rfl (oSecret_spec (hg.mono hd).ch (otsV x.o) (hname.mono hd) (hsec.mono hd) q 65535 (by omega)) ?_)
  rintro _ M4 _ hM4 ⟨rfl, A4, m4, c4, rfl, hA4⟩
  rw [if_pos hy] at hA4
  have hm4 := hA4.size
  have hc4 := hA4.le
  replace hd := hd.trans hM4
  replace he := he.trans hM4
  try replace hA5 := hA5.mono hM4
  refine ⟨⟨he, Keeps.mem⟩, ?_⟩
  refine to_p 4 rfl (by kernel_rfl) rfl (y_slice3 rfl rfl rfl (by omega) (by omega)) ?_
  refine to_e 8 rfl (by kernel_rfl) rfl (e_call' rfl (oSecret_spec (hg.mono hd).ch (otsV x.o) (hname.mono hd) (hsec.mono hd) q 65534 (by omega)) ?_)
  rintro _ M5 _ hM5 ⟨rfl, A5, m5, c5, rfl, hA5⟩
  rw [if_pos hy] at hA5
  replace hd := hd.trans hM5
  replace he := he.trans hM5
  try replace hA4 := hA4.mono hM5
  refine ⟨⟨he, Keeps.mem⟩, ?_⟩
  refine to_p 9 rfl (by kernel_rfl) rfl (y_build rfl) ?_
  refine to_t 10 rfl (by kernel_rfl) (by kernel_rfl) rfl (e_store rfl rfl (by rfl) (by rfl) inferInstance inferInstance inferInstance ?_)
  refine to_nil (by kernel_rfl) (.then_normal ?_)
  refine .sub (F' := [(6, _)]) (.cons rfl .nil) ?_
  refine x_ret (retRV (L' := L) (rv1 rfl (rc_cellAgg (by rfl) rfl (.own inferInstance inferInstance))) inferInstance hd ⟨rfl, ⟨_, _, _⟩, ⟨_, _, _⟩, rfl, he0, Bytes.take3 hA4 16 16 (by omega) (Nat.le_refl _) (by omega), hA5⟩)
theorem Below1_spec (hg : LmG M) (x : PairV) (hname : Bytes M NA nl nc name) (hsec : Bytes M SA sl_ sc sec) (q : UInt32) {bp bs bq : Nat}
    [i1 : Has L bp (.cells (List.toArray x.cells) 24 (0, 0))] [i2 : Has L bs (.cells (List.toArray (seedC NA nl nc SA sl_ sc)) 49 (0, 0))] [i3 : Has L bq (.cells (List.toArray [.int .u32 (q.toNat : Int)]) 22 (0, 0))] :
    Con Tryz.prog 78 #[.pointer (some ⟨bp, 0, none⟩), .pointer (some ⟨bs, 0, none⟩), .pointer (some ⟨bq, 0, none⟩)] G M L (fun v M' L' => L' = L ∧ ∃ y z : SlV, v = .agg (List.toArray [y.v, z.v]) ∧ belE x nl sl_ = 0 ∧ Bytes M' y.a y.n y.c (belN x name sec q.toNat) ∧ Bytes M' z.a z.n z.c (belS x name sec q.toNat)) (fun ch M' L' => L' = L ∧ ∃ e, (belE x nl sl_ ≠ 0 ∧ e = belE x nl sl_) ∧ ch = hwrong e) := by
  refine enter (args := [_, _, _]) (fn := Tryz.f78) ⟨Tryz.func78, rfl, by kernel_rfl, by kernel_rfl⟩ 8 rfl ?_
  refine x_seq (x_region ?_)
  refine tl_e rfl (e_alloc (fun b1 => ?_))
  refine tl_nil (.then_normal ?_)
  refine x_seq (x_region ?_)
  refine tl_y rfl (y_loadAgg rfl rfl (.own inferInstance inferInstance)) ?_
  refine tl_y rfl (y_loadAgg rfl rfl (.own inferInstance inferInstance)) ?_
  refine tl_y rfl (y_load rfl rfl (.own inferInstance inferInstance)) ?_
  refine tl_e rfl (e_call rfl (below_spec hg x hname hsec q) (by
    rintro _ M1 _ hM1 ⟨rfl, hno, rfl⟩
    exact TP.dropTo L inferInstance (.retA rfl hM1 ⟨rfl, _, ⟨hno, rfl⟩, rfl⟩)) ?_)
  rintro _ M1 _ hM1 ⟨rfl, y, z, rfl, h0, hy, hz⟩
  refine tl_e rfl (e_store rfl rfl (by rfl) (by rfl) inferInstance inferInstance inferInstance ?_)
  refine tl_nil (.then_normal ?_)
  refine .sub (F' := [(3, _)]) (.cons rfl .nil) ?_
  refine x_ret (retRV (L' := L) (rv1 rfl (rc_cellAgg (by rfl) rfl (.own inferInstance inferInstance))) inferInstance hM1 ⟨rfl, y, z, rfl, h0, hy, hz⟩)
theorem Below_spec (hg : LmG M) (x : PairV) (hname : Bytes M NA nl nc name) (hsec : Bytes M SA sl_ sc sec) (q : UInt32) :
    Con Tryz.prog 32 #[.agg (List.toArray x.cells), .agg (List.toArray (seedC NA nl nc SA sl_ sc)), .int .u32 (q.toNat : Int)] G M L (fun v M' L' => L' = L ∧ ∃ y z : SlV, v = .tuple #[.agg (List.toArray [y.v, z.v]), .int .i64 (belE x nl sl_)] ∧ Bytes M' y.a y.n y.c (belNV x nl sl_ name sec q.toNat) ∧ Bytes M' z.a z.n z.c (belSV x nl sl_ name sec q.toNat)) noPanic := by
  refine enter (args := [_, _, _]) (fn := Tryz.f32) ⟨Tryz.func32, rfl, by kernel_rfl, by kernel_rfl⟩ 12 rfl ?_
  refine x_seq (x_region ?_)
  refine tl_e rfl (e_box rfl (fun b1 => ?_))
  refine tl_e rfl (e_box rfl (fun b2 => ?_))
  refine tl_e rfl (e_box rfl (fun b3 => ?_))
  refine tl_e rfl (e_alloc (fun b4 => ?_))
  refine tl_y rfl (y_assign rfl) ?_
  refine tl_nil (.then_normal ?_)
  refine .sub (F' := [(3, _), (4, _), (5, _), (6, _)]) (.cons rfl (.cons rfl (.cons rfl (.cons rfl .nil)))) ?_
  refine x_seq (x_region ?_)
  refine tl_y rfl (y_makeFunc rfl rfl) ?_
  refine tl_e rfl (e_call' rfl (caughtHE_spec (K := fun y z M' => belE x nl sl_ = 0 ∧ Bytes M' y.a y.n y.c (belN x name sec q.toNat) ∧ Bytes M' z.a z.n z.c (belS x name sec q.toNat)) (Kp := fun e => belE x nl sl_ ≠ 0 ∧ e = belE x nl sl_) (first := []) (cap := [.pointer (some ⟨b1, 0, none⟩), .pointer (some ⟨b2, 0, none⟩), .pointer (some ⟨b3, 0, none⟩)]) (fun p' q' => Below1_spec hg x hname hsec q)) ?_)
  rintro v M1 _ hM1 ⟨rfl, hv⟩
  obtain ⟨y, z, rfl, hy, hz⟩ : ∃ y z : SlV, v = .tuple #[.agg (List.toArray [y.v, z.v]), .int .i64 (belE x nl sl_)] ∧ Bytes M1 y.a y.n y.c (belNV x nl sl_ name sec q.toNat) ∧ Bytes M1 z.a z.n z.c (belSV x nl sl_ name sec q.toNat) := by
    rcases hv with ⟨y, z, rfl, h0, hy, hz⟩ | ⟨e, rfl, hno, rfl⟩
    · exact ⟨y, z, by rw [h0], by rw [belNV, if_pos h0]; exact hy, by rw [belSV, if_pos h0]; exact hz⟩
    · exact ⟨⟨none, 0, 0⟩, ⟨none, 0, 0⟩, rfl, by rw [belNV, if_neg hno]; exact Row.nil _ _, by rw [belSV, if_neg hno]; exact Row.nil _ _⟩
  refine tl_y rfl (y_extract rfl) ?_
  refine tl_y rfl (y_extract rfl) ?_
  refine tl_e rfl (e_store rfl rfl (by rfl) (by rfl) inferInstance inferInstance inferInstance ?_)
  refine tl_y rfl (y_assign (v := .int _ _) rfl) ?_
  refine tl_nil (.then_normal ?_)
  refine .sub (F' := [(6, _), (7, _)]) (.cons rfl (.cons rfl .nil)) ?_
  refine x_ret (retRV (L' := L) (rv2 rfl (rc_cellAgg (by rfl) rfl (.own inferInstance inferInstance)) (rc_tmp (by rfl))) inferInstance hM1 ⟨rfl, y, z, rfl, hy, hz⟩)
theorem hpublic_spec (hg : LmG M) (x : PairV) (hname : Bytes M NA nl nc name) (hsec : Bytes M SA sl_ sc sec) :
    Con Tryz.prog 116 #[.agg (List.toArray x.cells), .agg (List.toArray (seedC NA nl nc SA sl_ sc))] G M L (fun v M' L' => L' = L ∧ mayC x nl sl_ = 0 ∧ ∃ A m c, v = .slice A m c ∧ Bytes M' A m c (pubB x name sec)) (fun ch M' L' => L' = L ∧ mayC x nl sl_ ≠ 0 ∧ ch = hwrong (mayC x nl sl_)) := by
  refine enter (args := [_, _]) (fn := Tryz.f116) ⟨Tryz.func116, rfl, by kernel_rfl, by kernel_rfl⟩ 16 rfl ?_
  refine x_seq (x_region ?_)
  refine tl_e rfl (e_box rfl (fun b1 => ?_))
  refine tl_e rfl (e_box rfl (fun b2 => ?_))
  refine tl_y rfl (y_assign rfl) ?_
  refine tl_nil (.then_normal ?_)
  refine x_seq (x_region ?_)
  refine tl_y rfl (y_loadAgg rfl rfl (.own inferInstance inferInstance)) ?_
  refine tl_y rfl (y_loadAgg rfl rfl (.own inferInstance inferInstance)) ?_
  refine tl_e rfl (e_call' rfl (Public_lspec hg x hname hsec) ?_)
  rintro _ M1 _ hM1 ⟨rfl, A1, m1, c1, rfl, hA1⟩
  refine tl_y rfl (y_move (v := .tuple _) rfl) ?_
  refine tl_y rfl (y_extract rfl) ?_
  refine tl_y rfl (y_extract rfl) ?_
  refine tl_y rfl (y_assign (v := .slice _ _ _) rfl) ?_
  refine tl_y rfl (y_assign (v := .int _ _) rfl) ?_
  refine tl_nil (.then_normal ?_)
  refine .sub (F' := [(5, _), (6, _)]) (.cons rfl (.cons rfl .nil)) ?_
  refine x_seq (x_region ?_)
  refine tl_y rfl (y_move (v := .int _ _) rfl) ?_
  refine tl_e rfl (e_call rfl (hwell_spec _) (by
    rintro _ _ _ _ ⟨rfl, rfl, hne, rfl⟩
    exact TP.dropTo L inferInstance (.retA rfl hM1 ⟨rfl, hne, rfl⟩)) ?_)
  rintro _ _ _ _ ⟨rfl, rfl, h0⟩
  rw [pubV, if_pos h0] at hA1
  refine tl_nil (.then_normal ?_)
  refine x_seq (x_region ?_)
  refine tl_y rfl (y_move (v := .slice _ _ _) rfl) ?_
  refine tl_y rfl (y_assign (v := .slice _ _ _) rfl) ?_
  refine tl_nil (.then_normal ?_)
  refine .sub (F' := [(4, _)]) (.cons rfl .nil) ?_
  refine x_ret (.dropTo L inferInstance (ret1 rfl rfl hM1 ⟨rfl, h0, _, _, _, rfl, hA1⟩))
theorem makes_spec (hg : LmG M) {A : Option Addr} {n c : Nat} {l : List PairV} (h : Row M 2 A n c (prow l)) :
    Con Tryz.prog 114 #[.slice A n c, .agg (List.toArray (seedC NA nl nc SA sl_ sc))] G M L (fun v M' L' => L' = L ∧ canE l nl sl_ = 0) (fun ch M' L' => L' = L ∧ canE l nl sl_ ≠ 0 ∧ ch = hwrong (canE l nl sl_)) := by
  have hmx := h.max
  have hle := h.le
  have hln : l.length = n := by have := h.len; rw [prow, flat_len pcl] at this; omega
  refine enter (args := [_, _]) (fn := Tryz.f114) ⟨Tryz.func114, rfl, by kernel_rfl, by kernel_rfl⟩ 37 rfl ?_
  refine x_seq (x_region ?_)
  refine tl_e rfl (e_box rfl (fun b1 => ?_))
  refine tl_nil (.then_normal ?_)
  refine x_seq (x_region ?_)
  refine tl_y rfl (y_move (v := .slice _ _ _) rfl) ?_
  refine tl_e rfl (e_call rfl (trees_spec hg.hs h) (by
    rintro _ M1 _ hM1 ⟨rfl, hno, rfl⟩
    have e : canE l nl sl_ = 4 := by rw [canE, if_pos hno]
    exact TP.dropTo L inferInstance (.retA rfl hM1 ⟨rfl, by rw [e]; decide, by rw [e]⟩)) ?_)
  rintro _ M1 _ hM1 ⟨rfl, hok, AT, cT, rfl, hrow⟩
  have hn8 := hok.1.2
  refine tl_y rfl (y_assign (v := .slice _ _ _) rfl) ?_
  refine tl_nil (.then_normal ?_)
  refine x_seq (x_region ?_)
  refine tl_y rfl (y_move (v := .slice _ _ _) rfl) ?_
  refine tl_y rfl (y_len rfl) ?_
  refine tl_y rfl (y_move rfl) ?_
  refine tl_nil (.then_normal ?_)
  refine .sub (F' := [(0, _), (3, _), (11, _), (12, _), (13, _)]) (.cons rfl (.cons rfl (.cons rfl (.cons rfl (.cons rfl .nil))))) ?_
  refine x_block ?_
  refine x_loop (I := fun m' F D M2 L2 => ∃ (k : Nat), m' = n - k ∧ k ≤ n ∧ Le M1 M2 ∧ (∀ p ∈ l.take k, (tv p).h ≤ 10 ∧ okY (otsV p.o) nl sl_) ∧ D = [] ∧ L2 = (b1, .cells (List.toArray (seedC NA nl nc SA sl_ sc)) 49 (0, 0)) :: L ∧ F = [(0, .slice A n c), (3, .pointer (some ⟨b1, 0, none⟩)), (11, .slice AT n cT), (12, .int .i64 n), (13, .int .i64 k)]) (n) (F0 := [(0, _), (3, _), (11, _), (12, _), (13, _)]) ?_ (.cons rfl (.cons rfl (.cons rfl (.cons rfl (.cons rfl .nil))))) ?_  -- slots [0, 3, 11, 12, 13], written [13]
  · exact ⟨0, rfl, by omega, Le.refl _, fun p hp => by simp at hp, rfl, rfl, rfl⟩
  rintro m _ _ M2 _ ⟨k, rfl, hk, hM2, hgd, rfl, rfl, rfl⟩
  refine x_seq (x_region ?_)
  refine tl_y rfl (y_lss rfl rfl) ?_
  refine tl_nil (.then_normal ?_)
  refine x_seq ?_
  refine x_cond rfl (fun hc1 => ?_) (fun hc1 => ?_)
  ·
    have hkn : k < n := by omega
    obtain ⟨p, hp⟩ : ∃ p, l[k]? = some p := ⟨_, List.getElem?_eq_getElem (by omega)⟩
    have hmem : p ∈ l := List.mem_of_getElem? hp
    have htk : l.take (k + 1) = l.take k ++ [p] := by
      rw [List.take_add_one, hp]; rfl
    have hpt : (l.map tv)[k]? = some (tv p) := by rw [List.getElem?_map, hp]; rfl
    have hd := hM1.trans hM2
    obtain ⟨g, o, rfl, hcell⟩ := (hrow.mono hM2).cellsN (by omega)
    have hc2 := fun L => hcell L (k * 4) 4 (by rw [trow, flat_len tcl, List.length_map]; omega)
    simp only [trow, flat_take tcl _ k _ hpt] at hc2
    obtain ⟨g2, o2, rfl, hcell2⟩ := (h.mono hd).addr (by omega)
    have hv0 := fun L => hcell2 L (k * 2 + 0) (.int .u32 (p.o.toNat : Int)) (by rw [prow, flat_get pcl _ k p hp 0 (by omega)]; rfl)
    refine x_skip (.then_normal ?_)
    refine x_seq ?_
    refine x_block ?_
    refine x_seq (x_region ?_)
    refine tl_y rfl (y_move (v := .int _ _) rfl) ?_
    refine tl_y rfl (y_indexAddr rfl rfl (by omega)) ?_
    refine tl_y rfl (y_loadAgg rfl rfl (.at_ (hc2 _) (by omega))) ?_
    refine tl_e rfl (e_alloc (fun b2 => ?_))
    refine tl_y rfl (y_assign (v := .int _ _) rfl) ?_
    refine tl_e rfl (e_store rfl rfl (by rfl) (by rfl) inferInstance inferInstance inferInstance ?_)
    refine tl_nil (.then_normal ?_)
    refine .sub (F' := [(0, _), (3, _), (5, _), (6, _), (11, _), (12, _), (13, _)]) (.cons rfl (.cons rfl (.cons rfl (.cons rfl (.cons rfl (.cons rfl (.cons rfl .nil))))))) ?_
    refine x_seq (x_region ?_)
    refine tl_y rfl (y_move (v := .slice _ _ _) rfl) ?_
    refine tl_y rfl (y_move (v := .int _ _) rfl) ?_
    refine tl_y rfl (y_indexAddr rfl rfl (by omega)) ?_
    refine tl_y rfl (y_fieldAddr rfl) ?_
    refine tl_y rfl (y_load rfl rfl (.at_ (hv0 _) (by omega))) ?_
    refine tl_e rfl (e_call' rfl (Ots_spec (hg.mono hd).ch.set p.o) ?_)
    rintro _ M3 _ hM3 ⟨rfl, rfl⟩
    replace hd := hd.trans hM3
    refine tl_y rfl (y_move (v := .tuple _) rfl) ?_
    refine tl_y rfl (y_extract rfl) ?_
    refine tl_y rfl (y_extract rfl) ?_
    refine tl_e rfl (e_alloc (fun b3 => ?_))
    refine tl_e rfl (e_store rfl rfl (by rfl) (by rfl) inferInstance inferInstance inferInstance ?_)
    refine tl_y rfl (y_assign (v := .int _ _) rfl) ?_
    refine tl_nil (.then_normal ?_)
    refine .sub (F' := [(0, _), (3, _), (6, _), (7, _), (11, _), (12, _), (13, _)]) (.cons rfl (.cons rfl (.cons rfl (.cons rfl (.cons rfl (.cons rfl (.cons rfl .nil))))))) ?_
    refine x_region ?_
    refine tl_y rfl (y_fieldAddr rfl) ?_
    refine tl_y rfl (y_load rfl rfl (.own inferInstance inferInstance)) ?_
    refine tl_y rfl (y_leq rfl rfl) ?_
    refine tl_y rfl (y_move (v := .bool _) rfl) ?_
    refine tl_cases (s := 30) rfl (fun hk1 => ?_) (fun hk1 => ?_)
    ·
      refine tl_y rfl (y_loadAgg rfl rfl (.own inferInstance inferInstance)) ?_
      refine tl_y rfl (y_loadAgg rfl rfl (.own inferInstance inferInstance)) ?_
      refine tl_e rfl (e_call' rfl (oMay_spec (hg.mono hd).ch.set (otsV p.o)) ?_)
      rintro _ M4 _ hM4 ⟨rfl, rfl⟩
      replace hd := hd.trans hM4
      refine tl_y rfl (y_pickT rfl rfl) ?_
      refine tl_e rfl (e_call rfl (hmust_spec _ _) (by
        rintro _ _ _ _ ⟨rfl, rfl, ht, rfl⟩
        have e : canE l nl sl_ = 1 := by rw [canE, if_neg (fun h => h hok), if_pos (fun h => by have := (h p hmem).2; simp [this] at ht)]
        exact TP.dropTo L inferInstance (.retA rfl hd ⟨rfl, by rw [e]; decide, by rw [e]⟩)) ?_)
      rintro _ _ _ _ ⟨rfl, rfl, ht⟩
      refine tl_nil (.block_normal (.then_normal ?_))
      refine .sub (F' := [(0, _), (3, _), (11, _), (12, _), (13, _)]) (.cons rfl (.cons rfl (.cons rfl (.cons rfl (.cons rfl .nil))))) ?_
      refine x_region ?_
      refine tl_y rfl (y_addI rfl rfl (by omega)) ?_
      refine tl_y rfl (y_move (v := .int _ _) rfl) ?_
      refine .dropTo ((b1, .cells (List.toArray (seedC NA nl nc SA sl_ sc)) 49 (0, 0)) :: L) inferInstance ?_
      refine tl_nil (.loop_next (m' := n - (k + 1)) (by omega) (F' := [(0, _), (3, _), (11, _), (12, _), (13, _)]) (.cons rfl (.cons rfl (.cons rfl (.cons rfl (.cons rfl .nil))))) ?_)
      exact ⟨k + 1, rfl, by omega, hM2.trans (hM3.trans hM4), fun p' hp' => by
        rw [htk, List.mem_append, List.mem_singleton] at hp'
        rcases hp' with hp' | rfl
        · exact hgd p' hp'
        · exact ⟨hk1, by simpa using ht⟩, rfl, rfl, rfl⟩
    ·
      refine tl_skip rfl ?_
      refine tl_skip rfl ?_
      refine tl_skip rfl ?_
      refine tl_y rfl (y_pickF rfl rfl) ?_
      refine tl_e rfl (e_call rfl (hmust_spec _ _) (by
        rintro _ _ _ _ ⟨rfl, rfl, ht, rfl⟩
        have e : canE l nl sl_ = 1 := by rw [canE, if_neg (fun h => h hok), if_pos (fun h => hk1 (h p hmem).1)]
        exact TP.dropTo L inferInstance (.retA rfl hd ⟨rfl, by rw [e]; decide, by rw [e]⟩)) ?_)
      rintro _ _ _ _ ⟨rfl, rfl, ht⟩
      refine tl_nil (.block_normal (.then_normal ?_))
      refine .sub (F' := [(0, _), (3, _), (11, _), (12, _), (13, _)]) (.cons rfl (.cons rfl (.cons rfl (.cons rfl (.cons rfl .nil))))) ?_
      refine x_region ?_
      refine tl_y rfl (y_addI rfl rfl (by omega)) ?_
      refine tl_y rfl (y_move (v := .int _ _) rfl) ?_
      refine tl_nil (.loop_next (m' := n - (k + 1)) (by omega) (F' := [(0, _), (3, _), (11, _), (12, _), (13, _)]) (.cons rfl (.cons rfl (.cons rfl (.cons rfl (.cons rfl .nil))))) ?_)
      exact absurd ht (by simp)
  ·
    obtain rfl : k = n := by omega
    rw [List.take_of_length_le (by omega)] at hgd
    refine x_exit (.then_exit (.loop_exit (.block_exit (.dropTo L inferInstance (end0 rfl (hM1.trans hM2) ⟨rfl, canE_ok hok hgd⟩)))))
theorem Public1_hspec (hg : LmG M) {A : Option Addr} {n c : Nat} {l : List PairV} (h : Row M 2 A n c (prow l)) (hname : Bytes M NA nl nc name) (hsec : Bytes M SA sl_ sc sec) {bl bs : Nat}
    [i1 : Has L bl (.cells (List.toArray [.slice A n c]) 46 (0, 0))] [i2 : Has L bs (.cells (List.toArray (seedC NA nl nc SA sl_ sc)) 49 (0, 0))] :
    Con Tryz.prog 113 #[.pointer (some ⟨bl, 0, none⟩), .pointer (some ⟨bs, 0, none⟩)] G M L (fun v M' L' => L' = L ∧ ∃ A m c, v = .slice A m c ∧ canE l nl sl_ = 0 ∧ Bytes M' A m c (hpubB l name sec)) (fun ch M' L' => L' = L ∧ ∃ e, (canE l nl sl_ ≠ 0 ∧ e = canE l nl sl_) ∧ ch = hwrong e) := by
  have hln : l.length = n := by have := h.len; rw [prow, flat_len pcl] at this; omega
  have hns := hname.size
  have hss := hsec.size
  refine enter (args := [_, _]) (fn := Tryz.f113) ⟨Tryz.func113, rfl, by kernel_rfl, by kernel_rfl⟩ 17 rfl ?_
  refine x_seq (x_region ?_)
  refine tl_y rfl (y_assign rfl) ?_
  refine tl_nil (.then_normal ?_)
  refine x_seq (x_region ?_)
  refine tl_y rfl (y_load rfl rfl (.own inferInstance inferInstance)) ?_
  refine tl_y rfl (y_loadAgg rfl rfl (.own inferInstance inferInstance)) ?_
  refine tl_e rfl (e_call rfl (makes_spec hg h) (by
    rintro _ M1 _ hM1 ⟨rfl, hno, rfl⟩
    exact .retA rfl hM1 ⟨rfl, _, ⟨hno, rfl⟩, rfl⟩) ?_)
  rintro _ M1 L hM1 ⟨rfl, h0⟩
  have hd : Le M M1 := hM1
  obtain ⟨hok, hcan⟩ := canE_zero h0
  have hn8 := hok.1
  obtain ⟨hp0, hm0, he0, _⟩ := okL_get hok (i := 0) (by omega)
  have hmay : mayC (l.getD 0 p0) nl sl_ = 0 := by
    have := (seedR_may hok hcan [] hns hss (i := 0) (j := 0) (by omega) (by omega)).2
    rw [seedR, hns, hss] at this
    exact this
  obtain ⟨n', w', p', H', hx⟩ := okP_facts hp0
  have hn32 := hx.o.n32
  have hn16 : name.length = 16 := by rw [hns]; exact (hcan _ hm0).2.2.1
  obtain ⟨pp1, _, _, _, _⟩ := pub_parts hx hn16 sec
  obtain ⟨g, o, rfl, hcell⟩ := (h.mono hd).cellsN (by omega)
  have hc2 := fun L => hcell L (0 * 2) 2 (by rw [prow, flat_len pcl]; omega)
  simp only [prow, flat_take pcl l 0 _ he0] at hc2
  refine tl_nil (.then_normal ?_)
  refine .sub (F' := [(0, _), (1, _)]) (.cons rfl (.cons rfl .nil)) ?_
  refine x_seq ?_
  have he : Le M1 M1 := Le.refl _
  refine x_draw 12 hmix rfl ?_
  refine to_y 0 rfl (by kernel_rfl) rfl (y_load rfl rfl (.own inferInstance inferInstance)) ?_
  refine to_p 1 rfl (by kernel_rfl) rfl (y_len rfl) ?_
  refine to_p 2 rfl (by kernel_rfl) rfl (y_convN64 rfl (by omega)) ?_
  refine to_y 4 rfl (by kernel_rfl) rfl (y_load rfl rfl (.own inferInstance inferInstance)) ?_
  refine to_p 5 rfl (by kernel_rfl) rfl (y_indexAddr rfl rfl (by omega)) ?_
  refine to_y 6 rfl (by kernel_rfl) rfl (y_loadAgg rfl rfl (.at_ (hc2 _) (by omega))) ?_
  refine to_y 7 rfl (by kernel_rfl) rfl (y_loadAgg rfl rfl (.own inferInstance inferInstance)) ?_
  refine to_e 3 rfl (by kernel_rfl) rfl (e_call' rfl (PutV_spec n 4 (by omega) (by omega)) ?_)
  rintro _ M2 _ hM2 ⟨rfl, A2, c2, rfl, hA2⟩
  replace hd := hd.trans hM2
  replace he := he.trans hM2
  try replace hA3 := hA3.mono hM2
  refine ⟨⟨he, Keeps.mem⟩, ?_⟩
  refine to_e 8 rfl (by kernel_rfl) rfl (e_call rfl (hpublic_spec (hg.mono hd) (l.getD 0 p0) (hname.mono hd) (hsec.mono hd)) (by
    rintro _ M3 _ hM3 ⟨rfl, hno, rfl⟩
    exact absurd hmay hno) ?_)
  rintro _ M3 L hM3 ⟨rfl, _, A3, m3, c3, rfl, hA3⟩
  replace hd := hd.trans hM3
  replace he := he.trans hM3
  try replace hA2 := hA2.mono hM3
  refine ⟨⟨he, Keeps.mem⟩, ?_⟩
  refine to_e 9 rfl (by kernel_rfl) rfl (e_buildSlice rfl (by decide) (fun b7 => ?_))
  refine ⟨⟨he, Keeps.mem⟩, ?_⟩
  refine .pub b7 inferInstance (fun M6 hM6 hb7 => ?_)
  have hd6 := hd.trans hM6
  have he6 := he.trans hM6
  have hfl : [putB n 4, pubB (l.getD 0 p0) name sec].flatten = hpubB l name sec := by simp [hpubB, hln]
  have hfll : (hpubB l name sec).length ≤ 100 := by rw [hpubB, List.length_append, putB_length, pp1]; omega
  refine to_e 10 rfl (by kernel_rfl) rfl (e_call' rfl (Cat_spec (Row.whole hb7 rfl (by omega)) (.cons (hA2.mono hM6) (.cons (hA3.mono hM6) .nil)) (by rw [hfl]; omega)) ?_)
  rintro _ M7 _ hM7 ⟨rfl, A7, c7, rfl, hA7⟩
  rw [hfl] at hA7
  rw [hfl]
  replace hd6 := hd6.trans hM7
  replace he6 := he6.trans hM7
  refine ⟨⟨he6, Keeps.mem⟩, ?_⟩
  refine to_p 11 rfl (by kernel_rfl) rfl (y_assign (v := .slice _ _ _) rfl) ?_
  refine to_nil (by kernel_rfl) (.then_normal ?_)
  refine .sub (F' := [(2, _)]) (.cons rfl .nil) ?_
  refine x_ret (.dropTo L inferInstance (ret1 rfl rfl hd6 ⟨rfl, _, _, _, rfl, h0, hA7⟩))
theorem Public_hspec (hg : LmG M) {A : Option Addr} {n c : Nat} {l : List PairV} (h : Row M 2 A n c (prow l)) (hname : Bytes M NA nl nc name) (hsec : Bytes M SA sl_ sc sec) :
    Con Tryz.prog 50 #[.slice A n c, .agg (List.toArray (seedC NA nl nc SA sl_ sc))] G M L (fun v M' L' => L' = L ∧ ∃ A m c, v = .tuple #[.slice A m c, .int .i64 (canE l nl sl_)] ∧ Bytes M' A m c (hpubV l nl sl_ name sec)) noPanic := by
  refine enter (args := [_, _]) (fn := Tryz.f50) ⟨Tryz.func50, rfl, by kernel_rfl, by kernel_rfl⟩ 10 rfl ?_
  refine x_seq (x_region ?_)
  refine tl_e rfl (e_box rfl (fun b1 => ?_))
  refine tl_e rfl (e_box rfl (fun b2 => ?_))
  refine tl_y rfl (y_assign rfl) ?_
  refine tl_y rfl (y_assign rfl) ?_
  refine tl_nil (.then_normal ?_)
  refine .sub (F' := [(2, _), (3, _)]) (.cons rfl (.cons rfl .nil)) ?_
  refine x_seq (x_region ?_)
  refine tl_y rfl (y_makeFunc rfl rfl) ?_
  refine tl_e rfl (e_call' rfl (caughtHB_spec (K := fun A m c M' => canE l nl sl_ = 0 ∧ Bytes M' A m c (hpubB l name sec)) (Kp := fun e => canE l nl sl_ ≠ 0 ∧ e = canE l nl sl_) (first := []) (cap := [.pointer (some ⟨b1, 0, none⟩), .pointer (some ⟨b2, 0, none⟩)]) (fun p' q' => Public1_hspec hg h hname hsec)) ?_)
  rintro v M1 _ hM1 ⟨rfl, hv⟩
  obtain ⟨A2, m2, c2, rfl, hA⟩ : ∃ A m c, v = .tuple #[.slice A m c, .int .i64 (canE l nl sl_)] ∧ Bytes M1 A m c (hpubV l nl sl_ name sec) := by
    rcases hv with ⟨A, m, c, rfl, h0, hb⟩ | ⟨e, rfl, hno, rfl⟩
    · exact ⟨A, m, c, by rw [h0], by rw [hpubV, if_pos h0]; exact hb⟩
    · exact ⟨none, 0, 0, rfl, by rw [hpubV, if_neg hno]; exact Row.nil _ _⟩
  refine tl_y rfl (y_extract rfl) ?_
  refine tl_y rfl (y_extract rfl) ?_
  refine tl_y rfl (y_assign (v := .slice _ _ _) rfl) ?_
  refine tl_y rfl (y_assign (v := .int _ _) rfl) ?_
  refine tl_nil (.then_normal ?_)
  refine .sub (F' := [(4, _), (5, _)]) (.cons rfl (.cons rfl .nil)) ?_
  refine x_ret (.dropTo L inferInstance (ret2 rfl rfl rfl hM1 ⟨rfl, _, _, _, rfl, hA⟩))
end
end Go.Proofs.YtiimjodbaogjbaaGreatDoor
