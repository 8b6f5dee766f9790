/-
Contracts of functions, each proved by a walk through its code.
-/
import Derived.Test.YtiimjodbaogjbaaGreatDoorLms1Etc
import Derived.Test.YtiimjodbaogjbaaGreatDoorEngWEtc
import Derived.Test.YtiimjodbaogjbaaGreatDoorShakeEtc
import Derived.Test.YtiimjodbaogjbaaGreatDoorDig2Etc
import Derived.Test.YtiimjodbaogjbaaGreatDoorOnce4Etc
set_option linter.unusedVariables false
set_option linter.unusedSimpArgs false
set_option linter.constructorNameAsVariable false
namespace Go.Proofs.YtiimjodbaogjbaaGreatDoor
open Go Go.Eng
structure SlV where
  a : Option Addr
  n : Nat
  c : Nat
abbrev SlV.v (x : SlV) : Value := .slice x.a x.n x.c
section
variable {G : World} {M : Mem} {L : Own}
theorem caughtTk1_ret {b c : Nat} {x : Int} {cs : List Value} : ConD Tryz.prog 130 #[.pointer (some ⟨b, 0, none⟩), .pointer (some ⟨c, 0, none⟩)] .returning G M ((c, .cells (List.toArray [.int .i64 x]) 38 (0, 0)) :: (b, .cells (List.toArray cs) 96 (0, 0)) :: L) (fun u' M' L' => u' = .returning ∧ M' = M ∧ L' = (c, .cells (List.toArray [.int .i64 x]) 38 (0, 0)) :: (b, .cells cs.toArray 96 (0, 0)) :: L) := by
  refine enterRec (args := [_, _]) (fn := Tryz.f130) ⟨Tryz.func130, rfl, by kernel_rfl, by kernel_rfl⟩ 15 rfl rfl ?_
  refine x_block ?_
  refine x_seq (x_region ?_)
  refine tl_y rfl (y_eqNilIface rfl rfl) ?_
  refine tl_nil (.then_normal ?_)
  refine x_true rfl (rfl) ?_
  refine x_region ?_
  refine tl_y rfl (y_assign rfl) ?_
  refine tl_nil (.block_normal (.rec_normal (Le.refl _) ⟨rfl, rfl, rfl⟩))
theorem caughtTk1_wrong {b c : Nat} {x e : Int} : ConD Tryz.prog 130 #[.pointer (some ⟨b, 0, none⟩), .pointer (some ⟨c, 0, none⟩)] (.panicking (lwrong e)) G M ((c, .cells (List.toArray [.int .i64 x]) 38 (0, 0)) :: (b, .cells (List.toArray [.slice none 0 0, .slice none 0 0]) 96 (0, 0)) :: L)
    (fun u' M' L' => u' = .panicking [{ v := lwrongv e, recovered := true }] ∧ M' = M ∧ L' = (c, .cells (List.toArray [.int .i64 e]) 38 (0, 0)) :: (b, .cells (List.toArray [.slice none 0 0, .slice none 0 0]) 96 (0, 0)) :: L) := by
  refine enterRec (args := [_, _]) (fn := Tryz.f130) ⟨Tryz.func130, rfl, by kernel_rfl, by kernel_rfl⟩ 15 rfl rfl ?_
  refine x_block ?_
  refine x_seq (x_region ?_)
  refine tl_y rfl (y_eqIfaceNil rfl rfl) ?_
  refine tl_nil (.then_normal ?_)
  refine x_false rfl (rfl) ?_
  refine x_seq (x_region ?_)
  refine tl_y rfl (y_assertOk rfl (by intro _ h; cases h)) ?_
  refine tl_y rfl (y_extract rfl) ?_
  refine tl_y rfl (y_extract rfl) ?_
  refine tl_nil (.then_normal ?_)
  refine x_true rfl (rfl) ?_
  refine x_seq (x_region ?_)
  refine tl_e rfl (e_alloc (fun b7 => ?_))
  refine tl_e rfl (e_store rfl rfl (by rfl) (by rfl) inferInstance inferInstance inferInstance ?_)
  refine tl_nil (.then_normal ?_)
  refine .sub (F' := [(0, _), (1, _), (3, _)]) (.cons rfl (.cons rfl (.cons rfl .nil))) ?_
  refine x_seq (x_region ?_)
  refine tl_e rfl (e_alloc (fun b8 => ?_))
  refine tl_nil (.then_normal ?_)
  refine x_draw0 4 ((b7, .cells (List.toArray [.int .i64 e]) 160 (0, 0)) :: (b8, .cells (List.toArray [.slice none 0 0, .slice none 0 0]) 96 (0, 0)) :: []) Keeps.mem hmix rfl ?_
  refine to_y 0 rfl (by kernel_rfl) rfl (y_loadAgg rfl rfl (.own inferInstance inferInstance)) ?_
  refine to_p 1 rfl (by kernel_rfl) rfl (y_fieldAddr rfl) ?_
  refine to_y 2 rfl (by kernel_rfl) rfl (y_load rfl rfl (.own inferInstance inferInstance)) ?_
  refine to_e 3 rfl (by kernel_rfl) rfl (e_store rfl rfl (by rfl) (by rfl) inferInstance inferInstance inferInstance ?_)
  refine ⟨⟨(by first | exact Le.refl _ | assumption), Keeps.mem⟩, ?_⟩
  refine to_t 4 rfl (by kernel_rfl) (by kernel_rfl) rfl (e_store rfl rfl (by rfl) (by rfl) inferInstance inferInstance inferInstance ?_)
  refine to_nil (by kernel_rfl) (.block_normal (.dropTo ((c, .cells (List.toArray [.int .i64 e]) 38 (0, 0)) :: (b, .cells (List.toArray [.slice none 0 0, .slice none 0 0]) 96 (0, 0)) :: L) inferInstance (.rec_normal (Le.refl _) ⟨rfl, rfl, rfl⟩)))
theorem caughtTk_spec {wf : FuncId} {first cap : List Value} {K : SlV → SlV → Mem → Prop} {Kp : Int → Prop}
    (hw : ∀ p q, Con Tryz.prog wf (first ++ [] ++ cap).toArray G M (p :: q :: L) (fun v M' L' => L' = p :: q :: L ∧ ∃ x y, v = .agg (List.toArray ([x.v, y.v])) ∧ K x y M') (fun ch M' L' => L' = p :: q :: L ∧ ∃ e, Kp e ∧ ch = lwrong e)) :
    Con Tryz.prog 66 #[.func (.func wf) first.toArray cap.toArray] G M L (fun v M' L' => L' = L ∧ ((∃ x y, v = .tuple #[.agg (List.toArray ([x.v, y.v])), .int .i64 0] ∧ K x y M') ∨ (∃ e, v = .tuple #[.agg (List.toArray [.slice none 0 0, .slice none 0 0]), .int .i64 e] ∧ Kp e))) noPanic := by
  refine enterD (args := [_]) (fn := Tryz.f66) ⟨Tryz.func66, rfl, by kernel_rfl, by kernel_rfl⟩ 7 rfl ?_
  refine x_seq (x_region ?_)
  refine tl_e rfl (e_alloc (fun b1 => ?_))
  refine tl_e rfl (e_alloc (fun b2 => ?_))
  refine tl_nil (.then_normal ?_)
  refine x_seq (x_region ?_)
  refine tl_y rfl (y_makeFunc rfl rfl) ?_
  refine tl_e rfl (e_defer rfl rfl rfl ?_)
  refine tl_nil (.then_normal ?_)
  refine x_seq (x_region ?_)
  refine tl_y rfl (y_move (v := .func _ _ _) rfl) ?_
  refine tl_e rfl (e_callv rfl rfl (hw _ _) (by
    rintro _ M1 _ hM1 ⟨rfl, e, hr, rfl⟩
    refine .retD (cap := [_, _]) (args := []) caughtTk1_wrong ?_
    rintro _ M2 _ hM2 ⟨rfl, rfl, rfl⟩
    exact .inl ⟨rfl, _, L, rv2 rfl (rc_cellAgg (by rfl) rfl (.own inferInstance inferInstance)) (rc_cell (by rfl) rfl (.own inferInstance inferInstance)), inferInstance, hM1, rfl, .inr ⟨e, rfl, hr⟩⟩) ?_)
  rintro _ M1 _ hM1 ⟨rfl, x, y, rfl, hk⟩
  refine tl_e rfl (e_store rfl rfl (by rfl) (by rfl) inferInstance inferInstance inferInstance ?_)
  refine tl_e rfl (e_store rfl rfl (by rfl) (by rfl) inferInstance inferInstance inferInstance ?_)
  refine tl_nil (.then_normal ?_)
  refine .sub (F' := [(2, _), (3, _)]) (.cons rfl (.cons rfl .nil)) ?_
  refine x_ret (.retD (cap := [_, _]) (args := []) (caughtTk1_ret (cs := [x.v, y.v])) ?_)
  rintro _ M2 _ hM2 ⟨rfl, rfl, rfl⟩
  exact .inl ⟨rfl, _, L, rv2 rfl (rc_cellAgg (by rfl) rfl (.own inferInstance inferInstance)) (rc_cell (by rfl) rfl (.own inferInstance inferInstance)), inferInstance, hM1, rfl, .inl ⟨x, y, rfl, hk⟩⟩
theorem Pair1_spec (hg : LmG M) {A : Option Addr} {m c : Nat} {bs : List UInt8} (h : Bytes M A m c bs) (hmb : m ≤ 1000000000000) {b : Nat} [hb : Has L b (.cells (List.toArray [.slice A m c]) 35 (0, 0))] :
    Con Tryz.prog 62 #[.pointer (some ⟨b, 0, none⟩)] G M L (fun v M' L' => L' = L ∧ ∃ x : PairV, v = .agg (List.toArray x.cells) ∧ pairE bs = 0 ∧ x = pairC bs) (fun ch M' L' => L' = L ∧ ∃ e, (pairE bs ≠ 0 ∧ e = pairE bs) ∧ ch = lwrong e) := by
  have hm := h.size
  have hc := h.le
  refine enter (args := [_]) (fn := Tryz.f62) ⟨Tryz.func62, rfl, by kernel_rfl, by kernel_rfl⟩ 40 rfl ?_
  refine x_seq (x_region ?_)
  refine tl_e rfl (e_alloc (fun b1 => ?_))
  refine tl_nil (.then_normal ?_)
  refine x_seq (x_region ?_)
  refine tl_y rfl (y_load rfl rfl (.own inferInstance inferInstance)) ?_
  refine tl_y rfl (y_len rfl) ?_
  refine tl_y rfl (y_geq rfl rfl) ?_
  refine tl_e rfl (e_call rfl (lmust_spec _ _) (by
    rintro _ _ _ _ ⟨rfl, rfl, ht, rfl⟩
    have e : pairE bs = 2 := by rw [pairE, if_pos (by simp at ht; omega)]
    exact TP.dropTo L inferInstance (.retA rfl (Le.refl _) ⟨rfl, _, ⟨by rw [e]; decide, rfl⟩, by rw [e]⟩)) ?_)
  rintro _ _ _ _ ⟨rfl, rfl, ht⟩
  have h8 : 8 ≤ m := by simp at ht; omega
  have hs4 : Bytes M (sl A 4 c 1) 4 (c - 4) ((bs.drop 4).take 4) := Bytes.sub h 4 8 (by omega) h8
  refine tl_nil (.then_normal ?_)
  refine .sub (F' := [(0, _), (1, _)]) (.cons rfl (.cons rfl .nil)) ?_
  refine x_seq (x_region ?_)
  refine tl_y rfl (y_load rfl rfl (.own inferInstance inferInstance)) ?_
  refine tl_y rfl (y_sliceH rfl rfl (by omega) (by omega)) ?_
  refine tl_e rfl (e_call' rfl (Get8_spec (Bytes.take h 4 (by omega)) (by omega)) ?_)
  rintro _ _ _ _ ⟨rfl, rfl, x, hx, rfl⟩
  have hgl := getB_lt (bs.take 4)
  rw [List.length_take, Nat.min_eq_left (by omega)] at hgl
  have hcv : ((pairC bs).t.toNat : Int) = (x.toNat : Int) := by rw [pairC, UInt32.toNat_ofNat', hx, Nat.mod_eq_of_lt (by omega)]
  refine tl_y rfl (y_move (v := .tuple _) rfl) ?_
  refine tl_y rfl (y_extract rfl) ?_
  refine tl_y rfl (y_extract rfl) ?_
  refine tl_y rfl (y_assign (v := .int _ _) rfl) ?_
  refine tl_y rfl (y_assign (v := .bool _) rfl) ?_
  refine tl_nil (.then_normal ?_)
  refine .sub (F' := [(0, _), (1, _), (2, _)]) (.cons rfl (.cons rfl (.cons rfl .nil))) ?_
  refine x_seq (x_region ?_)
  refine tl_y rfl (y_load rfl rfl (.own inferInstance inferInstance)) ?_
  refine tl_y rfl (y_sliceLH rfl rfl rfl (by omega) (by omega)) ?_
  refine tl_e rfl (e_call' rfl (Get8_spec hs4 (by omega)) ?_)
  rintro _ _ _ _ ⟨rfl, rfl, y, hy, rfl⟩
  have hgl2 := getB_lt ((bs.drop 4).take 4)
  rw [List.length_take, List.length_drop, Nat.min_eq_left (by omega)] at hgl2
  have hcv2 : ((pairC bs).o.toNat : Int) = (y.toNat : Int) := by rw [pairC, UInt32.toNat_ofNat', hy, Nat.mod_eq_of_lt (by omega)]
  refine tl_y rfl (y_move (v := .tuple _) rfl) ?_
  refine tl_y rfl (y_extract rfl) ?_
  refine tl_y rfl (y_extract rfl) ?_
  refine tl_y rfl (y_assign (v := .int _ _) rfl) ?_
  refine tl_y rfl (y_assign (v := .bool _) rfl) ?_
  refine tl_nil (.then_normal ?_)
  refine .sub (F' := [(0, _), (1, _), (2, _), (4, _)]) (.cons rfl (.cons rfl (.cons rfl (.cons rfl .nil)))) ?_
  refine x_seq (x_region ?_)
  refine tl_y rfl (y_move (v := .int _ _) rfl) ?_
  refine tl_y rfl (y_convE (b := ((pairC bs).o.toNat : Int)) rfl (by rw [wrapU32, hcv2]; omega)) ?_
  refine tl_y rfl (y_move (v := .int _ _) rfl) ?_
  refine tl_y rfl (y_convE (b := ((pairC bs).t.toNat : Int)) rfl (by rw [wrapU32, hcv]; omega)) ?_
  refine tl_y rfl (y_build rfl) ?_
  refine tl_e rfl (e_alloc (fun b2 => ?_))
  refine tl_e rfl (e_store rfl rfl (by rfl) (by rfl) inferInstance inferInstance inferInstance ?_)
  refine tl_nil (.then_normal ?_)
  refine .sub (F' := [(0, _), (1, _), (6, _)]) (.cons rfl (.cons rfl (.cons rfl .nil))) ?_
  refine x_seq (x_region ?_)
  refine tl_y rfl (y_loadAgg rfl rfl (.own inferInstance inferInstance)) ?_
  refine tl_e rfl (e_call rfl (of_spec hg.hs (pairC bs)) (by
    rintro _ M1 _ hM1 ⟨rfl, hno, rfl⟩
    have e : pairE bs = 4 := by rw [pairE, if_neg (by omega), if_pos hno]
    exact TP.dropTo L inferInstance (.retA rfl hM1 ⟨rfl, _, ⟨by rw [e]; decide, rfl⟩, by rw [e]⟩)) ?_)
  rintro _ M1 _ hM1 ⟨rfl, hok, rfl⟩
  obtain ⟨n, w, p, H, hx⟩ := okP_facts hok
  obtain ⟨z1, z2, z3, z4, z5⟩ := hx.sizes
  have hn32 := hx.o.n32
  refine tl_e rfl (e_alloc (fun b3 => ?_))
  refine tl_e rfl (e_store rfl rfl (by rfl) (by rfl) inferInstance inferInstance inferInstance ?_)
  refine tl_nil (.then_normal ?_)
  refine x_seq (x_region ?_)
  refine tl_y rfl (y_load rfl rfl (.own inferInstance inferInstance)) ?_
  refine tl_y rfl (y_len rfl) ?_
  refine tl_y rfl (y_fieldAddr rfl) ?_
  refine tl_y rfl (y_fieldAddr rfl) ?_
  refine tl_y rfl (y_load (v := .int .i64 (n : Int)) rfl rfl (by rw [← hx.tn]; exact .own inferInstance inferInstance)) ?_
  refine tl_y rfl (y_addI rfl rfl (by omega)) ?_
  refine tl_y rfl (y_eql rfl rfl) ?_
  refine tl_e rfl (e_call rfl (lmust_spec _ _) (by
    rintro _ _ _ _ ⟨rfl, rfl, ht, rfl⟩
    have e : pairE bs = 5 := by rw [pairE, if_neg (by omega), if_neg (fun h => h hok), if_pos (by simp at ht; omega)]
    exact TP.dropTo L inferInstance (.retA rfl hM1 ⟨rfl, _, ⟨by rw [e]; decide, rfl⟩, by rw [e]⟩)) ?_)
  rintro _ _ _ _ ⟨rfl, rfl, ht⟩
  have h0 : pairE bs = 0 := by rw [pairE, if_neg (by omega), if_neg (fun h => h hok), if_neg (by simp at ht; omega)]
  refine tl_nil (.then_normal ?_)
  refine .sub (F' := [(1, _), (6, _)]) (.cons rfl (.cons rfl .nil)) ?_
  refine x_seq (x_region ?_)
  refine tl_y rfl (y_loadAgg rfl rfl (.own inferInstance inferInstance)) ?_
  refine tl_e rfl (e_store rfl rfl (by rfl) (by rfl) inferInstance inferInstance inferInstance ?_)
  refine tl_nil (.then_normal ?_)
  refine x_ret (retRV (L' := L) (rv1 rfl (rc_cellAgg (by rfl) rfl (.own inferInstance inferInstance))) inferInstance hM1 ⟨rfl, _, rfl, h0, rfl⟩)
theorem Pair_spec (hg : LmG M) {A : Option Addr} {m c : Nat} {bs : List UInt8} (h : Bytes M A m c bs) (hmb : m ≤ 1000000000000) :
    Con Tryz.prog 20 #[.slice A m c] G M L (fun v M' L' => L' = L ∧ v = .tuple #[.agg (List.toArray (pairX bs).cells), .int .i64 (pairE bs)]) noPanic := by
  refine enter (args := [_]) (fn := Tryz.f20) ⟨Tryz.func20, rfl, by kernel_rfl, by kernel_rfl⟩ 8 rfl ?_
  refine x_seq (x_region ?_)
  refine tl_e rfl (e_box rfl (fun b1 => ?_))
  refine tl_e rfl (e_alloc (fun b2 => ?_))
  refine tl_y rfl (y_assign rfl) ?_
  refine tl_nil (.then_normal ?_)
  refine x_seq (x_region ?_)
  refine tl_y rfl (y_makeFunc rfl rfl) ?_
  refine tl_e rfl (e_call' rfl (caughtX_spec (K := fun x _ => pairE bs = 0 ∧ x = pairC bs) (Kp := fun e => pairE bs ≠ 0 ∧ e = pairE bs) (first := []) (cap := [.pointer (some ⟨b1, 0, none⟩)]) (fun p' q' => Pair1_spec hg h hmb)) ?_)
  rintro v M1 _ hM1 ⟨rfl, hv⟩
  obtain rfl : v = .tuple #[.agg (List.toArray (pairX bs).cells), .int .i64 (pairE bs)] := by
    rcases hv with ⟨x, rfl, h0, rfl⟩ | ⟨e, rfl, hno, rfl⟩
    · rw [pairX, if_pos h0, h0]
    · rw [pairX, if_neg hno]; rfl
  refine tl_y rfl (y_extract rfl) ?_
  refine tl_y rfl (y_extract rfl) ?_
  refine tl_e rfl (e_store rfl rfl (by rfl) (by rfl) inferInstance inferInstance inferInstance ?_)
  refine tl_y rfl (y_assign (v := .int _ _) rfl) ?_
  refine tl_nil (.then_normal ?_)
  refine .sub (F' := [(2, _), (3, _)]) (.cons rfl (.cons rfl .nil)) ?_
  refine x_ret (retRV (L' := L) (rv2 rfl (rc_cellAgg (by rfl) rfl (.own inferInstance inferInstance)) (rc_tmp (by rfl))) inferInstance hM1 ⟨rfl, rfl⟩)
theorem Take1_spec (hg : LmG M) (x : PairV) {A : Option Addr} {m c : Nat} {bs : List UInt8} (h : Bytes M A m c bs) (hmb : m ≤ 1000000000000) {bp b : Nat} [hp : Has L bp (.cells (List.toArray x.cells) 24 (0, 0))] [hb : Has L b (.cells (List.toArray [.slice A m c]) 35 (0, 0))] :
    Con Tryz.prog 67 #[.pointer (some ⟨bp, 0, none⟩), .pointer (some ⟨b, 0, none⟩)] G M L (fun v M' L' => L' = L ∧ ∃ y z : SlV, v = .agg (List.toArray [y.v, z.v]) ∧ takeE x m = 0 ∧ Le M M' ∧ y = ⟨sl A 0 (sigN x) 1, sigN x, sigN x⟩ ∧ z = ⟨sl A (sigN x) c 1, m - sigN x, c - sigN x⟩) (fun ch M' L' => L' = L ∧ ∃ e, (takeE x m ≠ 0 ∧ e = takeE x m) ∧ ch = lwrong e) := by
  have hm := h.size
  have hc := h.le
  refine enter (args := [_, _]) (fn := Tryz.f67) ⟨Tryz.func67, rfl, by kernel_rfl, by kernel_rfl⟩ 20 rfl ?_
  refine x_seq (x_region ?_)
  refine tl_e rfl (e_alloc (fun b1 => ?_))
  refine tl_nil (.then_normal ?_)
  refine x_seq (x_region ?_)
  refine tl_y rfl (y_loadAgg rfl rfl (.own inferInstance inferInstance)) ?_
  refine tl_e rfl (e_call rfl (of_spec hg.hs x) (by
    rintro _ M1 _ hM1 ⟨rfl, hno, rfl⟩
    have e : takeE x m = 4 := by rw [takeE, if_pos hno]
    exact TP.dropTo L inferInstance (.retA rfl hM1 ⟨rfl, _, ⟨by rw [e]; decide, rfl⟩, by rw [e]⟩)) ?_)
  rintro _ M1 _ hM1 ⟨rfl, hok, rfl⟩
  obtain ⟨n, w, p, H, hx⟩ := okP_facts hok
  obtain ⟨z1, z2, z3, z4, z5⟩ := hx.sizes
  refine tl_e rfl (e_call' rfl (lsize_spec hx) ?_)
  rintro _ _ _ _ ⟨rfl, rfl, rfl⟩
  refine tl_y rfl (y_assign (v := .int _ _) rfl) ?_
  refine tl_nil (.then_normal ?_)
  refine .sub (F' := [(1, _), (2, _), (3, _)]) (.cons rfl (.cons rfl (.cons rfl .nil))) ?_
  refine x_seq (x_region ?_)
  refine tl_y rfl (y_load rfl rfl (.own inferInstance inferInstance)) ?_
  refine tl_y rfl (y_len rfl) ?_
  refine tl_y rfl (y_move (v := .int _ _) rfl) ?_
  refine tl_y rfl (y_geq rfl rfl) ?_
  refine tl_e rfl (e_call rfl (lmust_spec _ _) (by
    rintro _ _ _ _ ⟨rfl, rfl, ht, rfl⟩
    have e : takeE x m = 2 := by rw [takeE, if_neg (fun h => h hok), if_pos (by simp at ht; omega)]
    exact TP.dropTo L inferInstance (.retA rfl hM1 ⟨rfl, _, ⟨by rw [e]; decide, rfl⟩, by rw [e]⟩)) ?_)
  rintro _ _ _ _ ⟨rfl, rfl, ht⟩
  have hN : sigN x ≤ m := by simp at ht; omega
  have h0 : takeE x m = 0 := by rw [takeE, if_neg (fun h => h hok), if_neg (by omega)]
  refine tl_nil (.then_normal ?_)
  refine .sub (F' := [(1, _), (2, _), (3, _)]) (.cons rfl (.cons rfl (.cons rfl .nil))) ?_
  refine x_seq ?_
  refine x_draw 8 hmix rfl ?_
  refine to_y 0 rfl (by kernel_rfl) rfl (y_load rfl rfl (.own inferInstance inferInstance)) ?_
  refine to_p 1 rfl (by kernel_rfl) rfl (y_move (v := .int _ _) rfl) ?_
  refine to_p 2 rfl (by kernel_rfl) rfl (y_move (v := .int _ _) rfl) ?_
  refine to_p 3 rfl (by kernel_rfl) rfl (y_slice3 rfl rfl rfl (by omega) (by omega)) ?_
  refine to_y 4 rfl (by kernel_rfl) rfl (y_load rfl rfl (.own inferInstance inferInstance)) ?_
  refine to_p 5 rfl (by kernel_rfl) rfl (y_move (v := .int _ _) rfl) ?_
  refine to_p 6 rfl (by kernel_rfl) rfl (y_sliceL rfl rfl (by omega)) ?_
  refine to_p 7 rfl (by kernel_rfl) rfl (y_buildArr rfl) ?_
  refine to_t 8 rfl (by kernel_rfl) (by kernel_rfl) rfl (e_store rfl rfl (by rfl) (by rfl) inferInstance inferInstance inferInstance ?_)
  refine to_nil (by kernel_rfl) (.then_normal ?_)
  refine .sub (F' := [(2, _)]) (.cons rfl .nil) ?_
  refine x_ret (retRV (L' := L) (rv1 rfl (rc_cellAgg (by rfl) rfl (.own inferInstance inferInstance))) inferInstance hM1 ⟨rfl, ⟨_, _, _⟩, ⟨_, _, _⟩, rfl, h0, hM1, rfl, rfl⟩)
theorem Take_spec (hg : LmG M) (x : PairV) {A : Option Addr} {m c : Nat} {bs : List UInt8} (h : Bytes M A m c bs) (hmb : m ≤ 1000000000000) :
    Con Tryz.prog 22 #[.agg (List.toArray x.cells), .slice A m c] G M L (fun v M' L' => L' = L ∧ ∃ A1 n1 c1 A2 n2 c2, v = .tuple #[.slice A1 n1 c1, .slice A2 n2 c2, .int .i64 (takeE x m)] ∧ Bytes M' A1 n1 c1 (if takeE x m = 0 then bs.take (sigN x) else []) ∧ Bytes M' A2 n2 c2 (if takeE x m = 0 then bs.drop (sigN x) else [])) noPanic := by
  have hm := h.size
  have hc := h.le
  refine enter (args := [_, _]) (fn := Tryz.f22) ⟨Tryz.func22, rfl, by kernel_rfl, by kernel_rfl⟩ 19 rfl ?_
  refine x_seq (x_region ?_)
  refine tl_e rfl (e_box rfl (fun b1 => ?_))
  refine tl_e rfl (e_box rfl (fun b2 => ?_))
  refine tl_y rfl (y_assign rfl) ?_
  refine tl_y rfl (y_assign rfl) ?_
  refine tl_y rfl (y_assign rfl) ?_
  refine tl_nil (.then_normal ?_)
  refine .sub (F' := [(2, _), (3, _)]) (.cons rfl (.cons rfl .nil)) ?_
  refine x_seq (x_region ?_)
  refine tl_y rfl (y_makeFunc rfl rfl) ?_
  refine tl_e rfl (e_call' rfl (caughtTk_spec (K := fun y z M' => takeE x m = 0 ∧ Le M M' ∧ y = ⟨sl A 0 (sigN x) 1, sigN x, sigN x⟩ ∧ z = ⟨sl A (sigN x) c 1, m - sigN x, c - sigN x⟩) (Kp := fun e => takeE x m ≠ 0 ∧ e = takeE x m) (first := []) (cap := [.pointer (some ⟨b1, 0, none⟩), .pointer (some ⟨b2, 0, none⟩)]) (fun p' q' => Take1_spec hg x h hmb)) ?_)
  rintro v M1 _ hM1 ⟨rfl, hv⟩
  obtain ⟨⟨A1, n1, c1⟩, ⟨A2, n2, c2⟩, rfl, hb1, hb2⟩ : ∃ y z : SlV, v = .tuple #[.agg (List.toArray [y.v, z.v]), .int .i64 (takeE x m)] ∧ Bytes M1 y.a y.n y.c (if takeE x m = 0 then bs.take (sigN x) else []) ∧ Bytes M1 z.a z.n z.c (if takeE x m = 0 then bs.drop (sigN x) else []) := by
    rcases hv with ⟨y, z, rfl, h0, hle, rfl, rfl⟩ | ⟨e, rfl, hno, rfl⟩
    · have hN : sigN x ≤ m := by
        unfold takeE at h0
        split at h0
        · cases h0
        · split at h0
          · cases h0
          · omega
      exact ⟨_, _, by rw [h0], by rw [if_pos h0]; exact Bytes.take3 (h.mono hM1) _ _ hN (Nat.le_refl _) (by omega), by rw [if_pos h0]; exact Bytes.drop (h.mono hM1) _ hN⟩
    · exact ⟨⟨none, 0, 0⟩, ⟨none, 0, 0⟩, rfl, by rw [if_neg hno]; exact Row.nil _ _, by rw [if_neg hno]; exact Row.nil _ _⟩
  refine tl_y rfl (y_move (v := .tuple _) rfl) ?_
  refine tl_y rfl (y_extract rfl) ?_
  refine tl_y rfl (y_extract rfl) ?_
  refine tl_e rfl (e_alloc (fun b3 => ?_))
  refine tl_e rfl (e_store rfl rfl (by rfl) (by rfl) inferInstance inferInstance inferInstance ?_)
  refine tl_y rfl (y_assign (v := .int _ _) rfl) ?_
  refine tl_nil (.then_normal ?_)
  refine .sub (F' := [(7, _), (8, _)]) (.cons rfl (.cons rfl .nil)) ?_
  refine x_seq ?_
  refine x_draw 8 hmix rfl ?_
  refine to_p 0 rfl (by kernel_rfl) rfl (y_indexArrK 0 rfl rfl (by omega)) ?_
  refine to_y 1 rfl (by kernel_rfl) rfl (y_load rfl rfl (.own inferInstance inferInstance)) ?_
  refine to_p 2 rfl (by kernel_rfl) rfl (y_indexArrK 1 rfl rfl (by omega)) ?_
  refine to_y 3 rfl (by kernel_rfl) rfl (y_load rfl rfl (.own inferInstance inferInstance)) ?_
  refine to_p 4 rfl (by kernel_rfl) rfl (y_move (v := .int _ _) rfl) ?_
  refine to_p 5 rfl (by kernel_rfl) rfl (y_assign (v := .slice _ _ _) rfl) ?_
  refine to_p 6 rfl (by kernel_rfl) rfl (y_assign (v := .slice _ _ _) rfl) ?_
  refine to_p 7 rfl (by kernel_rfl) rfl (y_assign (v := .int _ _) rfl) ?_
  refine to_nil (by kernel_rfl) (.then_normal ?_)
  refine .sub (F' := [(4, _), (5, _), (6, _)]) (.cons rfl (.cons rfl (.cons rfl .nil))) ?_
  refine x_ret (.dropTo L inferInstance (ret3 rfl rfl rfl rfl hM1 ⟨rfl, _, _, _, _, _, _, rfl, hb1, hb2⟩))
end
end Go.Proofs.YtiimjodbaogjbaaGreatDoor
set_option linter.unusedVariables false
set_option linter.unusedSimpArgs false
set_option linter.constructorNameAsVariable false
namespace Go.Proofs.YtiimjodbaogjbaaGreatDoor
open Go Go.Eng
def sumT (ns : List Nat) (i : Nat) : Nat := (ns.take i).sum
def cutR (bs : List UInt8) (ns : List Nat) (i : Nat) : List (List UInt8) := (List.range i).map fun j => (bs.drop (sumT ns j)).take (ns.getD j 0)
theorem cutR_succ (bs : List UInt8) (ns : List Nat) (i : Nat) : cutR bs ns (i + 1) = cutR bs ns i ++ [(bs.drop (sumT ns i)).take (ns.getD i 0)] := by
  rw [cutR, List.range_succ, List.map_append]; rfl
theorem cutR_get (bs : List UInt8) (ns : List Nat) {i k : Nat} (h : i < k) : (cutR bs ns k).getD i [] = (bs.drop (sumT ns i)).take (ns.getD i 0) := by
  rw [List.getD_eq_getElem?_getD, cutR, List.getElem?_map, List.getElem?_range h]; rfl
theorem cutR_len (bs : List UInt8) (ns : List Nat) (k : Nat) : (cutR bs ns k).length = k := by simp [cutR]
theorem sumT_succ {ns : List Nat} {i : Nat} (h : i < ns.length) : sumT ns (i + 1) = sumT ns i + ns.getD i 0 := by
  rw [sumT, List.take_add_one, List.sum_append, List.getElem?_eq_getElem h, List.getD_eq_getElem?_getD, List.getElem?_eq_getElem h]
  simp [sumT]
theorem sumT_le (ns : List Nat) (i : Nat) : sumT ns i ≤ ns.sum := by
  have := congrArg List.sum (List.take_append_drop i ns)
  rw [List.sum_append] at this
  unfold sumT
  omega
theorem sumT_all (ns : List Nat) : sumT ns ns.length = ns.sum := by rw [sumT, List.take_length]
section
variable {G : World} {M : Mem} {L : Own}
def owrongv (e : Int) : Value := .iface 219 (.agg #[.int .i64 e])
def owrong (e : Int) : List PanicEntry := [{ v := owrongv e, recovered := false }]
theorem opart_spec {A : Option Addr} {m c : Nat} {bs : List UInt8} (h : Bytes M A m c bs) (hm : m ≤ 1000000000000) (n : Nat) :
    Con Tryz.prog 202 #[.slice A m c, .int .i64 (n : Int)] G M L (fun v M' L' => L = L' ∧ n ≤ m ∧ ∃ A' c', v = .tuple #[.slice A' n c', .slice (sl A n c 1) (m - n) (c - n)] ∧ Bytes M' A' n c' (bs.take n)) (fun ch M' L' => L = L' ∧ m < n ∧ ch = owrong 2) := by
  have hc := h.le
  refine enter (args := [_, _]) (fn := Tryz.f202) ⟨Tryz.func202, rfl, by kernel_rfl, by kernel_rfl⟩ 25 rfl ?_
  refine x_seq (x_region ?_)
  refine tl_y rfl (y_assign rfl) ?_
  refine tl_y rfl (y_assign rfl) ?_
  refine tl_nil (.then_normal ?_)
  refine x_seq ?_
  refine x_block ?_
  refine x_seq (x_region ?_)
  refine tl_y rfl (y_move (v := .int _ _) rfl) ?_
  refine tl_y rfl (y_lss rfl rfl) ?_
  refine tl_y rfl (y_assign (v := .bool _) rfl) ?_
  refine tl_nil (.then_normal ?_)
  refine .sub (F' := [(0, _), (1, _), (6, _)]) (.cons rfl (.cons rfl (.cons rfl .nil))) ?_
  refine x_false rfl (decide_eq_false (by omega)) ?_
  refine x_seq (x_region ?_)
  refine tl_y rfl (y_move (v := .int _ _) rfl) ?_
  refine tl_y rfl (y_move (v := .slice _ _ _) rfl) ?_
  refine tl_y rfl (y_len rfl) ?_
  refine tl_y rfl (y_gtr rfl rfl) ?_
  refine tl_y rfl (y_assign (v := .bool _) rfl) ?_
  refine tl_nil (.then_normal ?_)
  refine .sub (F' := [(0, _), (1, _), (11, _)]) (.cons rfl (.cons rfl (.cons rfl .nil))) ?_
  refine x_cond rfl (fun hc2 => ?_) (fun hc2 => ?_)
  ·
    refine x_region ?_
    refine tl_y rfl (y_build rfl) ?_
    refine tl_y rfl (y_makeIface rfl (by intro _ h; cases h)) ?_
    refine tl_e rfl (e_panic rfl (.retA rfl (Le.refl _) ⟨rfl, by omega, rfl⟩))
  ·
    have hn : n ≤ m := by omega
    refine x_skip (.block_normal (.then_normal ?_))
    refine x_seq ?_
    refine x_draw 9 hmix rfl ?_
    refine to_p 0 rfl (by kernel_rfl) rfl (y_move (v := .slice _ _ _) rfl) ?_
    refine to_p 1 rfl (by kernel_rfl) rfl (y_move (v := .int _ _) rfl) ?_
    refine to_p 2 rfl (by kernel_rfl) rfl (y_sliceH rfl rfl (by omega) (by omega)) ?_
    refine to_p 4 rfl (by kernel_rfl) rfl (y_move (v := .slice _ _ _) rfl) ?_
    refine to_p 5 rfl (by kernel_rfl) rfl (y_move (v := .int _ _) rfl) ?_
    refine to_p 6 rfl (by kernel_rfl) rfl (y_sliceL rfl rfl (by omega)) ?_
    refine to_e 3 rfl (by kernel_rfl) rfl (e_call' rfl (bytesClone_spec (Bytes.take h n hn) (by omega)) ?_)
    rintro _ M1 _ hM1 ⟨rfl, A1, c1, rfl, hA1⟩
    refine ⟨⟨(by first | exact Le.refl _ | assumption), Keeps.mem⟩, ?_⟩
    refine to_p 7 rfl (by kernel_rfl) rfl (y_assign (v := .slice _ _ _) rfl) ?_
    refine to_p 8 rfl (by kernel_rfl) rfl (y_assign (v := .slice _ _ _) rfl) ?_
    refine to_nil (by kernel_rfl) (.then_normal ?_)
    refine .sub (F' := [(4, _), (5, _)]) (.cons rfl (.cons rfl .nil)) ?_
    refine x_ret (ret2 rfl rfl rfl hM1 ⟨rfl, hn, A1, c1, rfl, hA1⟩)
theorem Cut1_ret {b c : Nat} {x : Int} {cs : List Value} : ConD Tryz.prog 201 #[.pointer (some ⟨b, 0, none⟩), .pointer (some ⟨c, 0, none⟩)] .returning G M ((c, .cells (List.toArray [.int .i64 x]) 38 (0, 0)) :: (b, .cells cs.toArray 121 (0, 0)) :: L) (fun u' M' L' => u' = .returning ∧ M' = M ∧ L' = (c, .cells (List.toArray [.int .i64 x]) 38 (0, 0)) :: (b, .cells cs.toArray 121 (0, 0)) :: L) := by
  refine enterRec (args := [_, _]) (fn := Tryz.f201) ⟨Tryz.func201, rfl, by kernel_rfl, by kernel_rfl⟩ 13 rfl rfl ?_
  refine x_block ?_
  refine x_seq (x_region ?_)
  refine tl_y rfl (y_eqNilIface rfl rfl) ?_
  refine tl_nil (.then_normal ?_)
  refine x_true rfl (rfl) ?_
  refine x_region ?_
  refine tl_y rfl (y_assign rfl) ?_
  refine tl_nil (.block_normal (.rec_normal (Le.refl _) ⟨rfl, rfl, rfl⟩))
theorem Cut1_wrong {b c : Nat} {x e : Int} {v0 : Value} : ConD Tryz.prog 201 #[.pointer (some ⟨b, 0, none⟩), .pointer (some ⟨c, 0, none⟩)] (.panicking (owrong e)) G M ((c, .cells (List.toArray [.int .i64 x]) 38 (0, 0)) :: (b, .cells (List.toArray [v0]) 121 (0, 0)) :: L)
    (fun u' M' L' => u' = .panicking [{ v := owrongv e, recovered := true }] ∧ M' = M ∧ L' = (c, .cells (List.toArray [.int .i64 e]) 38 (0, 0)) :: (b, .cells (List.toArray [.slice none 0 0]) 121 (0, 0)) :: L) := by
  refine enterRec (args := [_, _]) (fn := Tryz.f201) ⟨Tryz.func201, rfl, by kernel_rfl, by kernel_rfl⟩ 13 rfl rfl ?_
  refine x_block ?_
  refine x_seq (x_region ?_)
  refine tl_y rfl (y_eqIfaceNil rfl rfl) ?_
  refine tl_nil (.then_normal ?_)
  refine x_false rfl (rfl) ?_
  refine x_seq (x_region ?_)
  refine tl_y rfl (y_assertOk rfl (by intro _ h; cases h)) ?_
  refine tl_y rfl (y_extract rfl) ?_
  refine tl_y rfl (y_extract rfl) ?_
  refine tl_nil (.then_normal ?_)
  refine x_true rfl (rfl) ?_
  refine x_seq (x_region ?_)
  refine tl_e rfl (e_alloc (fun b7 => ?_))
  refine tl_e rfl (e_store rfl rfl (by rfl) (by rfl) inferInstance inferInstance inferInstance ?_)
  refine tl_nil (.then_normal ?_)
  refine .sub (F' := [(0, _), (1, _), (3, _)]) (.cons rfl (.cons rfl (.cons rfl .nil))) ?_
  refine x_draw0 4 ((b7, .cells (List.toArray [.int .i64 e]) 219 (0, 0)) :: []) Keeps.mem hmix rfl ?_
  refine to_p 0 rfl (by kernel_rfl) rfl (y_fieldAddr rfl) ?_
  refine to_y 1 rfl (by kernel_rfl) rfl (y_load rfl rfl (.own inferInstance inferInstance)) ?_
  refine to_e 2 rfl (by kernel_rfl) rfl (e_store rfl rfl (by rfl) (by rfl) inferInstance inferInstance inferInstance ?_)
  refine ⟨⟨(by first | exact Le.refl _ | assumption), Keeps.mem⟩, ?_⟩
  refine to_e 3 rfl (by kernel_rfl) rfl (e_store rfl rfl (by rfl) (by rfl) inferInstance inferInstance inferInstance ?_)
  refine ⟨⟨(by first | exact Le.refl _ | assumption), Keeps.mem⟩, ?_⟩
  refine to_nil (by kernel_rfl) (.block_normal (.dropTo ((c, .cells (List.toArray [.int .i64 e]) 38 (0, 0)) :: (b, .cells (List.toArray [.slice none 0 0]) 121 (0, 0)) :: L) inferInstance (.rec_normal (Le.refl _) ⟨rfl, rfl, rfl⟩)))
theorem Cut_spec {A SA : Option Addr} {m c k sc : Nat} {bs : List UInt8} (h : Bytes M A m c bs) (hm : m ≤ 1000000000000) {ns : List Nat} (hns : Row M 1 SA k sc (intsL ns)) (hk : k ≤ 1000) :
    Con Tryz.prog 157 #[.slice A m c, .slice SA k sc] G M L (fun v M' L' => L' = L ∧ ∃ A' n' c' e, v = .tuple #[.slice A' n' c', .int .i64 e] ∧ (e = 0 ↔ m = ns.sum) ∧ (e = 0 → ∃ vs, n' = k ∧ Row M' 1 A' k c' vs ∧ BRows M' vs (cutR bs ns k))) noPanic := by
  have hkl : ns.length = k := by have := hns.len; simpa [intsL] using this
  have hmx := hns.max
  have hmz := h.size
  refine enterD (args := [_, _]) (fn := Tryz.f157) ⟨Tryz.func157, rfl, by kernel_rfl, by kernel_rfl⟩ 33 rfl ?_
  refine x_seq (x_region ?_)
  refine tl_e rfl (e_alloc (fun b1 => ?_))
  refine tl_e rfl (e_alloc (fun b2 => ?_))
  refine tl_nil (.then_normal ?_)
  refine x_seq (x_region ?_)
  refine tl_y rfl (y_makeFunc rfl rfl) ?_
  refine tl_e rfl (e_defer rfl rfl rfl ?_)
  refine tl_nil (.then_normal ?_)
  refine x_seq (x_seq (x_region ?_))
  refine tl_y rfl (y_move (v := .slice _ _ _) rfl) ?_
  refine tl_y rfl (y_len rfl) ?_
  refine tl_y rfl (y_move rfl) ?_
  refine tl_nil (.then_normal ?_)
  refine x_block ?_
  refine x_loop (I := fun m' F D M1 L1 => ∃ (i : Nat) (A1 : Option Addr) (m1 c1 : Nat) (A2 : Option Addr) (c2 : Nat) (E : Own) (vs : List Value), m' = k - i ∧ i ≤ k ∧ Le M M1 ∧ sumT ns i ≤ m ∧ m1 = m - sumT ns i ∧ Bytes M1 A1 m1 c1 (bs.drop (sumT ns i)) ∧ OwnRow 35 1 A2 i c2 vs E ∧ BRows M1 vs (cutR bs ns i) ∧ D = [{ target := .fn (.func 201) (List.toArray [.pointer (some ⟨b1, 0, none⟩), .pointer (some ⟨b2, 0, none⟩)]), args := List.toArray [] }] ∧ L1 = (b2, .cells (List.toArray [.int .i64 0]) 38 (0, 0)) :: (b1, .cells (List.toArray [.slice A2 i c2]) 121 (0, 0)) :: (E ++ L) ∧ F = [(0, .slice A1 m1 c1), (4, .pointer (some ⟨b1, 0, none⟩)), (5, .pointer (some ⟨b2, 0, none⟩)), (10, .slice SA k sc), (11, .int .i64 k), (12, .int .i64 i)]) (k) (F0 := [(0, _), (4, _), (5, _), (10, _), (11, _), (12, _)]) ?_ (.cons rfl (.cons rfl (.cons rfl (.cons rfl (.cons rfl (.cons rfl .nil)))))) ?_  -- slots [0, 4, 5, 10, 11, 12], written [0, 12]
  · exact ⟨0, A, m, c, none, 0, [], [], rfl, by omega, Le.refl _, Nat.zero_le _, by simp [sumT], by simpa [sumT] using h, .nil, .nil, rfl, rfl, rfl⟩
  rintro m _ _ M1 _ ⟨i, A1, m1, c1, A2, c2, E, vs, rfl, hi, hM1, hsi, rfl, hA1, hE, hB, rfl, rfl, rfl⟩
  refine x_seq (x_region ?_)
  refine tl_y rfl (y_lss rfl rfl) ?_
  refine tl_nil (.then_normal ?_)
  refine x_seq ?_
  refine x_cond rfl (fun hc1 => ?_) (fun hc1 => ?_)
  ·
    have hik : i < k := by omega
    obtain ⟨g, o, rfl, hcell⟩ := (hns.mono hM1).addr (by omega)
    have hgi : (intsL ns)[i]? = some (.int .i64 ((ns.getD i 0 : Nat) : Int)) := by
      rw [intsL, List.getElem?_map, List.getD_eq_getElem?_getD, List.getElem?_eq_getElem (by omega)]; rfl
    have hss := sumT_succ (ns := ns) (i := i) (by omega)
    have hsl := sumT_le ns (i + 1)
    refine x_skip (.then_normal ?_)
    refine x_seq ?_
    refine x_block ?_
    refine x_seq (x_region ?_)
    refine tl_y rfl (y_indexAddr rfl rfl (by omega)) ?_
    refine tl_y rfl (y_load rfl rfl (.at_ (hcell _ i _ hgi) (by omega))) ?_
    refine tl_y rfl (y_assign (v := .int _ _) rfl) ?_
    refine tl_nil (.then_normal ?_)
    refine x_seq (x_region ?_)
    refine tl_y rfl (y_assign rfl) ?_
    refine tl_nil (.then_normal ?_)
    refine .sub (F' := [(0, _), (4, _), (5, _), (7, _), (10, _), (11, _), (12, _)]) (.cons rfl (.cons rfl (.cons rfl (.cons rfl (.cons rfl (.cons rfl (.cons rfl .nil))))))) ?_
    refine x_seq (x_region ?_)
    refine tl_y rfl (y_move (v := .slice _ _ _) rfl) ?_
    refine tl_y rfl (y_move (v := .int _ _) rfl) ?_
    refine tl_e rfl (e_call rfl (opart_spec hA1 (by omega) (ns.getD i 0)) (by
      rintro _ M2 _ hM2 ⟨rfl, hlt, rfl⟩
      refine .retD (cap := [_, _]) (args := []) Cut1_wrong ?_
      rintro _ M3 _ hM3 ⟨rfl, rfl, rfl⟩
      exact .inl ⟨rfl, _, L, rv2 rfl (rc_cell (by rfl) rfl (.own inferInstance inferInstance)) (rc_cell (by rfl) rfl (.own inferInstance inferInstance)), inferInstance, hM1.trans hM2, rfl, _, _, _, _, rfl, iff_of_false (by decide) (by omega), fun h => by cases h⟩) ?_)
    rintro _ M2 _ hM2 ⟨rfl, hle, A3, c3, rfl, hA3⟩
    refine tl_y rfl (y_move (v := .tuple _) rfl) ?_
    refine tl_y rfl (y_extract rfl) ?_
    refine tl_y rfl (y_extract rfl) ?_
    refine tl_y rfl (y_assign (v := .slice _ _ _) rfl) ?_
    refine tl_y rfl (y_assign (v := .slice _ _ _) rfl) ?_
    refine tl_nil (.then_normal ?_)
    refine .sub (F' := [(0, _), (4, _), (5, _), (8, _), (10, _), (11, _), (12, _)]) (.cons rfl (.cons rfl (.cons rfl (.cons rfl (.cons rfl (.cons rfl (.cons rfl .nil))))))) ?_
    refine x_region ?_
    refine tl_y rfl (y_load rfl rfl (.own inferInstance inferInstance)) ?_
    refine tl_y rfl (y_move (v := .slice _ _ _) rfl) ?_
    refine tl_e rfl (e_buildSlice rfl (by decide) (fun b3 => ?_))
    refine .pub b3 inferInstance (fun M3 hM3 hb3 => ?_)
    refine .bringE E inferInstance ?_
    refine tl_e rfl (e_append (by decide) rfl rfl hE (.row (Row.whole (s := 1) hb3 rfl (by omega))) rfl (by omega) (by omega) (fun A7 c7 E7 hE7 => ?_))
    refine tl_e rfl (e_store rfl rfl (by rfl) (by rfl) inferInstance inferInstance inferInstance ?_)
    refine tl_nil (.block_normal (.then_normal ?_))
    refine .sub (F' := [(0, _), (4, _), (5, _), (10, _), (11, _), (12, _)]) (.cons rfl (.cons rfl (.cons rfl (.cons rfl (.cons rfl (.cons rfl .nil)))))) ?_
    refine x_region ?_
    refine tl_y rfl (y_addI rfl rfl (by omega)) ?_
    refine tl_y rfl (y_move (v := .int _ _) rfl) ?_
    refine .to ((b2, .cells (List.toArray [.int .i64 0]) 38 (0, 0)) :: (b1, .cells (List.toArray [.slice A7 (i + 1) c7]) 121 (0, 0)) :: (E7 ++ L)) inferInstance ?_
    refine tl_nil (.loop_next (m' := k - (i + 1)) (by omega) (F' := [(0, _), (4, _), (5, _), (10, _), (11, _), (12, _)]) (.cons rfl (.cons rfl (.cons rfl (.cons rfl (.cons rfl (.cons rfl .nil)))))) ?_)
    exact ⟨i + 1, _, _, _, A7, c7, E7, _, rfl, by omega, hM1.trans (hM2.trans hM3), by omega, by omega, by
      have h2 := Bytes.drop hA1 (ns.getD i 0) hle
      rw [List.drop_drop, ← hss] at h2
      exact h2.mono (hM2.trans hM3), hE7, by rw [cutR_succ]; exact (hB.mono (hM2.trans hM3)).snoc (hA3.mono hM3), rfl, rfl, rfl⟩
  ·
    obtain rfl : i = k := by omega
    have hall := sumT_all ns
    rw [hkl] at hall
    refine x_exit (.then_exit (.loop_exit (.block_exit (.then_normal ?_))))
    refine .sub (F' := [(0, _), (4, _), (5, _)]) (.cons rfl (.cons rfl (.cons rfl .nil))) ?_
    refine x_seq (x_seq (x_region ?_))
    refine tl_y rfl (y_move (v := .slice _ _ _) rfl) ?_
    refine tl_y rfl (y_len rfl) ?_
    refine tl_y rfl (y_gtr rfl rfl) ?_
    refine tl_nil (.then_normal ?_)
    refine x_cond rfl (fun hc2 => ?_) (fun hc2 => ?_)
    ·
      refine x_region ?_
      refine tl_y rfl (y_build rfl) ?_
      refine tl_y rfl (y_makeIface rfl (by intro _ h; cases h)) ?_
      refine tl_e rfl (e_panic rfl (by
        refine .retD (cap := [_, _]) (args := []) Cut1_wrong ?_
        rintro _ M3 _ hM3 ⟨rfl, rfl, rfl⟩
        exact .inl ⟨rfl, _, L, rv2 rfl (rc_cell (by rfl) rfl (.own inferInstance inferInstance)) (rc_cell (by rfl) rfl (.own inferInstance inferInstance)), inferInstance, hM1, rfl, _, _, _, _, rfl, iff_of_false (by decide) (by omega), fun h => by cases h⟩))
    ·
      refine .bringE E inferInstance ?_
      refine .pubRow hE (fun M4 hM4 hrow => ?_)
      refine x_skip (.then_normal ?_)
      refine .sub (F' := [(4, _), (5, _)]) (.cons rfl (.cons rfl .nil)) ?_
      refine x_seq (x_region ?_)
      refine tl_y rfl (y_load rfl rfl (.own inferInstance inferInstance)) ?_
      refine tl_e rfl (e_store rfl rfl (by rfl) (by rfl) inferInstance inferInstance inferInstance ?_)
      refine tl_e rfl (e_store rfl rfl (by rfl) (by rfl) inferInstance inferInstance inferInstance ?_)
      refine tl_nil (.then_normal ?_)
      refine x_ret (.to ((b2, .cells (List.toArray [.int .i64 0]) 38 (0, 0)) :: (b1, .cells (List.toArray [.slice A2 i c2]) 121 (0, 0)) :: L) inferInstance (.retD (cap := [_, _]) (args := []) (Cut1_ret (cs := [.slice A2 i c2])) ?_))
      rintro _ M2 _ hM2 ⟨rfl, rfl, rfl⟩
      exact .inl ⟨rfl, _, L, rv2 rfl (rc_cell (by rfl) rfl (.own inferInstance inferInstance)) (rc_cell (by rfl) rfl (.own inferInstance inferInstance)), inferInstance, hM1.trans hM4, rfl, _, _, _, _, rfl, iff_of_true rfl (by omega), fun _ => ⟨_, rfl, hrow, hB.mono hM4⟩⟩
end
end Go.Proofs.YtiimjodbaogjbaaGreatDoor
set_option linter.unusedVariables false
set_option linter.unusedSimpArgs false
set_option linter.constructorNameAsVariable false
namespace Go.Proofs.YtiimjodbaogjbaaGreatDoor
open Go Go.Eng
section
variable {G : World} {M : Mem} {L : Own} {NA SA TA : Option Addr} {nl nc sl_ sc tl tc : Nat} {name sec text : List UInt8}
theorem cut_parts {M : Mem} {vs : List Value} {sig : List UInt8} {S P : Nat} (hB : BRows M vs (cutR sig [4, S, 4, P] 4)) (hlen : sig.length = 8 + S + P) :
    ∃ A0 c0 A1 c1 A2 c2 A3 c3, vs[0]? = some (.slice A0 4 c0) ∧ Bytes M A0 4 c0 (sig.take 4) ∧ vs[1]? = some (.slice A1 S c1) ∧ Bytes M A1 S c1 ((sig.drop 4).take S) ∧
      vs[2]? = some (.slice A2 4 c2) ∧ Bytes M A2 4 c2 ((sig.drop (4 + S)).take 4) ∧ vs[3]? = some (.slice A3 P c3) ∧ Bytes M A3 P c3 ((sig.drop (8 + S)).take P) := by
  have hl := cutR_len sig [4, S, 4, P] 4
  obtain ⟨A0, n0, c0, v0, h0⟩ := hB.get 0 (by omega)
  obtain ⟨A1, n1, c1, v1, h1⟩ := hB.get 1 (by omega)
  obtain ⟨A2, n2, c2, v2, h2⟩ := hB.get 2 (by omega)
  obtain ⟨A3, n3, c3, v3, h3⟩ := hB.get 3 (by omega)
  rw [cutR_get _ _ (by omega)] at h0 h1 h2 h3
  have e0 : (sig.drop (sumT [4, S, 4, P] 0)).take ([4, S, 4, P].getD 0 0) = sig.take 4 := by simp [sumT]
  have e1 : (sig.drop (sumT [4, S, 4, P] 1)).take ([4, S, 4, P].getD 1 0) = (sig.drop 4).take S := by simp [sumT]
  have e2 : (sig.drop (sumT [4, S, 4, P] 2)).take ([4, S, 4, P].getD 2 0) = (sig.drop (4 + S)).take 4 := by simp [sumT]
  have e3 : (sig.drop (sumT [4, S, 4, P] 3)).take ([4, S, 4, P].getD 3 0) = (sig.drop (8 + S)).take P := by
    have : sumT [4, S, 4, P] 3 = 8 + S := by simp [sumT]; omega
    rw [this]; rfl
  rw [e0] at h0
  rw [e1] at h1
  rw [e2] at h2
  rw [e3] at h3
  have s0 := h0.size
  have s1 := h1.size
  have s2 := h2.size
  have s3 := h3.size
  rw [List.length_take] at s0
  rw [List.length_take, List.length_drop] at s1 s2 s3
  obtain rfl : n0 = 4 := by omega
  obtain rfl : n1 = S := by omega
  obtain rfl : n2 = 4 := by omega
  obtain rfl : n3 = P := by omega
  exact ⟨A0, c0, A1, c1, A2, c2, A3, c3, v0, h0, v1, h1, v2, h2, v3, h3⟩
theorem staV_le {nl tl : Nat} {name : List UInt8} {q : Nat} {text sig : List UInt8} : (staV nl tl name q text sig).length ≤ 32 := by
  unfold staV
  split
  · exact cPartO_le _ _ _ _ _ _
  · simp
theorem leads_spec (hg : LmG M) {x : PairV} {n w p H : Nat} (hx : PF x n w p H) (hname : Bytes M NA 16 nc name) (htext : Bytes M TA tl tc text) {A : Option Addr} {m c : Nat} {sig : List UInt8} (hsig : Bytes M A m c sig) (hmb : m ≤ 1000000000000) :
    Con Tryz.prog 100 #[.agg (List.toArray (pcells (otsV x.o) (treeV x.t))), .agg (List.toArray x.cells), .slice NA 16 nc, .slice TA tl tc, .slice A m c] G M L (fun v M' L' => L' = L ∧ ∃ A' m' c', v = .slice A' m' c' ∧ fitL x tl name text sig ∧ Bytes M' A' m' c' (fitR x tl name text sig)) (fun ch M' L' => L' = L ∧ ∃ e, (¬ fitL x tl name text sig ∧ e ≠ 0) ∧ ch = lwrong e) := by
  obtain ⟨z1, z2, z3, z4, z5⟩ := hx.sizes
  have hn32 := hx.o.n32
  have hms := hsig.size
  have hm : (n : Int) * (H : Int) = ((n * H : Nat) : Int) := by push_cast; rfl
  have hH2 := hx.h2
  refine enter (args := [_, _, _, _, _]) (fn := Tryz.f100) ⟨Tryz.func100, rfl, by kernel_rfl, by kernel_rfl⟩ 122 rfl ?_
  refine x_seq (x_region ?_)
  refine tl_e rfl (e_box rfl (fun b1 => ?_))
  refine tl_e rfl (e_box rfl (fun b2 => ?_))
  refine tl_y rfl (y_assign rfl) ?_
  refine tl_nil (.then_normal ?_)
  refine x_seq (x_region ?_)
  refine tl_y rfl (y_fieldAddr rfl) ?_
  refine tl_y rfl (y_loadAgg rfl rfl (.own inferInstance inferInstance)) ?_
  refine tl_e rfl (e_call' rfl (oSize_spec (otsV x.o) hx.o) ?_)
  rintro _ _ _ _ ⟨rfl, rfl, rfl⟩
  refine tl_y rfl (y_assign (v := .int _ _) rfl) ?_
  refine tl_nil (.then_normal ?_)
  refine .sub (F' := [(2, _), (3, _), (4, _), (5, _), (6, _), (11, _)]) (.cons rfl (.cons rfl (.cons rfl (.cons rfl (.cons rfl (.cons rfl .nil)))))) ?_
  refine x_seq (x_region ?_)
  refine tl_y rfl (y_move (v := .slice _ _ _) rfl) ?_
  refine tl_y rfl (y_move (v := .int _ _) rfl) ?_
  refine tl_y rfl (y_fieldAddr rfl) ?_
  refine tl_y rfl (y_fieldAddr rfl) ?_
  refine tl_y rfl (y_load (v := .int .i64 (n : Int)) rfl rfl (by rw [← hx.tn]; exact .own inferInstance inferInstance)) ?_
  refine tl_y rfl (y_fieldAddr rfl) ?_
  refine tl_y rfl (y_fieldAddr rfl) ?_
  refine tl_y rfl (y_load (v := .int .i64 (H : Int)) rfl rfl (by rw [← hx.th]; exact .own inferInstance inferInstance)) ?_
  refine tl_y rfl (y_mulI rfl rfl (by rw [hm]; omega)) ?_
  rw [hm]
  refine tl_e rfl (e_buildSlice rfl (by decide) (fun b3 => ?_))
  refine .pub b3 inferInstance (fun M1 hM1 hb3 => ?_)
  have hints : Row M1 1 (some ⟨b3, 0, none⟩) 4 4 (intsL [4, sizeN (otsV x.o), 4, n * H]) := Row.whole (vs := intsL [4, sizeN (otsV x.o), 4, n * H]) hb3 rfl (by omega)
  refine tl_e rfl (e_call' rfl (Cut_spec (hsig.mono hM1) hmb hints (by omega)) ?_)
  rintro _ M2 _ hM2 ⟨rfl, AP, nP, cP, e, rfl, heq, hcut⟩
  have hd : Le M M2 := hM1.trans hM2
  have hsum : [4, sizeN (otsV x.o), 4, n * H].sum = sigN x := by rw [z2]; simp; omega
  rw [hsum] at heq
  refine tl_y rfl (y_move (v := .tuple _) rfl) ?_
  refine tl_y rfl (y_extract rfl) ?_
  refine tl_y rfl (y_extract rfl) ?_
  refine tl_y rfl (y_assign (v := .slice _ _ _) rfl) ?_
  refine tl_y rfl (y_assign (v := .int _ _) rfl) ?_
  refine tl_nil (.then_normal ?_)
  refine .sub (F' := [(2, _), (3, _), (5, _), (6, _), (12, _), (13, _)]) (.cons rfl (.cons rfl (.cons rfl (.cons rfl (.cons rfl (.cons rfl .nil)))))) ?_
  refine x_seq ?_
  refine x_meet (I := fun F D M3 L3 => F = [(2, .slice NA 16 nc), (3, .slice TA tl tc), (5, .pointer (some ⟨b1, 0, none⟩)), (12, .slice AP nP cP)] ∧ D = [] ∧ Le M2 M3 ∧ (e = 0 ∧ (sig.drop 4).take 4 = putB x.o.toNat 4 ∧ (sig.drop (4 + sizeN (otsV x.o))).take 4 = putB x.t.toNat 4) ∧ (b2, .cells (List.toArray x.cells) 24 (0, 0)) :: (b1, .cells (List.toArray (pcells (otsV x.o) (treeV x.t))) 86 (0, 0)) :: L = L3) ?_ (fun Jd3 => ?_)
  ·
    rintro _ _ M3 _ ⟨rfl, rfl, hM3, ⟨he0, hcode, hcode2⟩, rfl⟩  -- slots [2, 3, 5, 12]
    obtain ⟨vs, rfl, hrow, hB⟩ := hcut he0
    have hml := heq.1 he0
    obtain ⟨A0, c0, A1, c1, A2, c2, A3, c3, v0, h0, v1, h1, v2, h2, v3, h3⟩ := cut_parts hB (by omega)
    have hd3 := hd.trans hM3
    obtain ⟨g, o, rfl, hcell⟩ := (hrow.mono hM3).addr (by omega)
    have hgl := getB_lt (sig.take 4)
    rw [List.length_take, Nat.min_eq_left (by omega)] at hgl
    obtain ⟨q, hq⟩ : ∃ q : UInt32, q.toNat = getB (sig.take 4) := ⟨UInt32.ofNat (getB (sig.take 4)), by rw [UInt32.toNat_ofNat', Nat.mod_eq_of_lt (by omega)]⟩
    refine x_seq (x_region ?_)
    refine tl_y rfl (y_move (v := .slice _ _ _) rfl) ?_
    refine tl_y rfl (y_indexAddrK 0 rfl rfl (by omega)) ?_
    refine tl_y rfl (y_load rfl rfl (.at_ (hcell _ 0 _ v0) (by omega))) ?_
    refine tl_e rfl (e_call' rfl (Get8_spec (h0.mono hM3) (by omega)) ?_)
    rintro _ _ _ _ ⟨rfl, rfl, y, hy, rfl⟩
    refine tl_y rfl (y_move (v := .tuple _) rfl) ?_
    refine tl_y rfl (y_extract rfl) ?_
    refine tl_y rfl (y_extract rfl) ?_
    refine tl_y rfl (y_assign (v := .int _ _) rfl) ?_
    refine tl_y rfl (y_assign (v := .bool _) rfl) ?_
    refine tl_nil (.then_normal ?_)
    refine .sub (F' := [(2, _), (3, _), (5, _), (12, _), (14, _)]) (.cons rfl (.cons rfl (.cons rfl (.cons rfl (.cons rfl .nil))))) ?_
    refine x_seq (x_region ?_)
    refine tl_y rfl (y_move (v := .slice _ _ _) rfl) ?_
    refine tl_y rfl (y_move (v := .int _ _) rfl) ?_
    refine tl_y rfl (y_convE (b := (q.toNat : Int)) rfl (by rw [wrapU32, hq]; omega)) ?_
    refine tl_y rfl (y_move (v := .slice _ _ _) rfl) ?_
    refine tl_y rfl (y_move (v := .slice _ _ _) rfl) ?_
    refine tl_y rfl (y_indexAddrK 1 rfl rfl (by omega)) ?_
    refine tl_y rfl (y_load rfl rfl (.at_ (hcell _ 1 _ v1) (by omega))) ?_
    refine tl_e rfl (e_call' rfl (oStands_spec (hg.mono hd3).ch (hname.mono hd3) q (htext.mono hd3) (h1.mono hM3)) ?_)
    rintro _ M4 _ hM4 ⟨rfl, A4, m4, c4, rfl, hA4⟩
    have hd4 := hd3.trans hM4
    have hm4 := hA4.size
    have hm4' := staV_le (nl := 16) (tl := tl) (name := name) (q := q.toNat) (text := text) (sig := (sig.drop 4).take (sizeN (otsV x.o)))
    refine tl_y rfl (y_move (v := .tuple _) rfl) ?_
    refine tl_y rfl (y_extract rfl) ?_
    refine tl_y rfl (y_extract rfl) ?_
    refine tl_y rfl (y_assign (v := .slice _ _ _) rfl) ?_
    refine tl_y rfl (y_assign (v := .int _ _) rfl) ?_
    refine tl_nil (.then_normal ?_)
    refine .sub (F' := [(2, _), (5, _), (12, _), (13, _), (14, _), (16, _)]) (.cons rfl (.cons rfl (.cons rfl (.cons rfl (.cons rfl (.cons rfl .nil)))))) ?_
    refine x_seq (x_region ?_)
    refine tl_y rfl (y_move (v := .int _ _) rfl) ?_
    refine tl_y rfl (y_eql rfl rfl) ?_
    refine tl_y rfl (y_move (v := .int _ _) rfl) ?_
    refine tl_e rfl (e_call rfl (lmust_spec _ _) (by
      rintro _ _ _ _ ⟨rfl, rfl, ht, rfl⟩
      exact TP.dropTo L inferInstance (.retA rfl hd4 ⟨rfl, _, ⟨fun h => by have := h.2.2.2.1; simp [this] at ht, by simpa using ht⟩, rfl⟩)) ?_)
    rintro _ _ _ _ ⟨rfl, rfl, ht⟩
    have hst : staE 16 tl ((sig.drop 4).take (sizeN (otsV x.o))) = 0 := by simpa using ht
    refine tl_nil (.then_normal ?_)
    refine .sub (F' := [(2, _), (5, _), (12, _), (14, _), (16, _)]) (.cons rfl (.cons rfl (.cons rfl (.cons rfl (.cons rfl .nil))))) ?_
    refine x_seq (x_region ?_)
    refine tl_y rfl (y_assign rfl) ?_
    refine tl_nil (.then_normal ?_)
    refine x_seq (x_seq (x_region ?_))
    refine tl_y rfl (y_fieldAddr rfl) ?_
    refine tl_y rfl (y_fieldAddr rfl) ?_
    refine tl_y rfl (y_load (v := .int .i64 (H : Int)) rfl rfl (by rw [← hx.th]; exact .own inferInstance inferInstance)) ?_
    refine tl_y rfl (y_move rfl) ?_
    refine tl_nil (.then_normal ?_)
    refine x_block ?_
    refine x_loop (I := fun m' F D M5 L5 => ∃ (i : Nat) (AW : Option Addr) (cW : Nat) (E : Own) (ws : List Value), m' = H - i ∧ i ≤ H ∧ Le M4 M5 ∧ OwnRow 35 1 AW i cW ws E ∧ BRows M5 ws (wayS sig (8 + sizeN (otsV x.o)) n i) ∧ D = [] ∧ L5 = E ++ ((b2, .cells (List.toArray x.cells) 24 (0, 0)) :: (b1, .cells (List.toArray (pcells (otsV x.o) (treeV x.t))) 86 (0, 0)) :: L) ∧ F = [(2, .slice NA 16 nc), (5, .pointer (some ⟨b1, 0, none⟩)), (12, .slice (some ⟨g, o, none⟩) 4 cP), (14, .int .u64 (y.toNat : Int)), (16, .slice A4 m4 c4), (17, .slice AW i cW), (83, .int .i64 H), (84, .int .i64 i)]) (H) (F0 := [(2, _), (5, _), (12, _), (14, _), (16, _), (17, _), (83, _), (84, _)]) ?_ (.cons rfl (.cons rfl (.cons rfl (.cons rfl (.cons rfl (.cons rfl (.cons rfl (.cons rfl .nil)))))))) ?_  -- slots [2, 5, 12, 14, 16, 17, 83, 84], written [17, 84]
    · exact ⟨0, none, 0, [], [], rfl, by omega, Le.refl _, .nil, .nil, rfl, rfl, rfl⟩
    rintro m _ _ M5 _ ⟨i, AW, cW, E, ws, rfl, hi, hM5, hE, hW, rfl, rfl, rfl⟩
    refine x_seq (x_region ?_)
    refine tl_y rfl (y_lss rfl rfl) ?_
    refine tl_nil (.then_normal ?_)
    refine x_seq ?_
    refine x_cond rfl (fun hc1 => ?_) (fun hc1 => ?_)
    ·
      have hiH : i < H := by omega
      have hin : i * n + n ≤ n * H := by
        have := Nat.mul_le_mul_left n (show i + 1 ≤ H from hiH)
        rw [Nat.mul_succ, Nat.mul_comm n i] at this
        omega
      have hm1 : (i : Int) * (n : Int) = ((i * n : Nat) : Int) := by push_cast; rfl
      have hm2 : ((i : Int) + 1) * (n : Int) = ((i * n + n : Nat) : Int) := by rw [Int.add_mul, Int.one_mul, hm1]; push_cast; rfl
      have he5 : Le M3 M5 := hM4.trans hM5
      have hc3 := h3.le
      have hsub := Bytes.sub (h3.mono (hM3.trans he5)) (i * n) (i * n + n) (by omega) (by omega)
      rw [show i * n + n - i * n = n by omega, List.drop_take, List.take_take, List.drop_drop, Nat.min_eq_left (by omega)] at hsub
      obtain ⟨g', o', hgo, hcell'⟩ := (hrow.mono (hM3.trans he5)).addr (by omega)
      obtain ⟨rfl, rfl⟩ : g = g' ∧ o = o' := by simpa using hgo
      refine x_skip (.then_normal ?_)
      refine x_seq ?_
      refine x_block ?_
      refine x_seq (x_region ?_)
      refine tl_y rfl (y_move (v := .int _ _) rfl) ?_
      refine tl_y rfl (y_assign (v := .int _ _) rfl) ?_
      refine tl_nil (.then_normal ?_)
      have he : Le M5 M5 := Le.refl _
      refine x_draw 17 hmix rfl ?_
      refine to_p 0 rfl (by kernel_rfl) rfl (y_move (v := .slice _ _ _) rfl) ?_
      refine to_p 1 rfl (by kernel_rfl) rfl (y_move (v := .slice _ _ _) rfl) ?_
      refine to_p 2 rfl (by kernel_rfl) rfl (y_indexAddrK 3 rfl rfl (by omega)) ?_
      refine to_yp 3 [16, 15] rfl (by kernel_rfl) rfl (y_load rfl rfl (.at_ (hcell' _ 3 _ v3) (by omega))) ?_
      refine to_p 4 rfl (by kernel_rfl) rfl (y_move (v := .int _ _) rfl) ?_
      refine to_p 5 rfl (by kernel_rfl) rfl (y_fieldAddr rfl) ?_
      refine to_p 6 rfl (by kernel_rfl) rfl (y_fieldAddr rfl) ?_
      refine to_yp 7 [16, 15, 8] rfl (by kernel_rfl) rfl (y_load (v := .int .i64 (n : Int)) rfl rfl (by rw [← hx.tn]; exact .own inferInstance inferInstance)) ?_
      refine to_p 8 rfl (by kernel_rfl) rfl (y_mulI rfl rfl (by rw [hm1]; omega)) ?_
      rw [hm1]
      refine to_p 9 rfl (by kernel_rfl) rfl (y_move (v := .int _ _) rfl) ?_
      refine to_p 10 rfl (by kernel_rfl) rfl (y_addI rfl rfl (by omega)) ?_
      refine to_p 11 rfl (by kernel_rfl) rfl (y_fieldAddr rfl) ?_
      refine to_p 12 rfl (by kernel_rfl) rfl (y_fieldAddr rfl) ?_
      refine to_yp 13 [16, 15, 14] rfl (by kernel_rfl) rfl (y_load (v := .int .i64 (n : Int)) rfl rfl (by rw [← hx.tn]; exact .own inferInstance inferInstance)) ?_
      refine to_p 14 rfl (by kernel_rfl) rfl (y_mulI rfl rfl (by rw [hm2]; omega)) ?_
      rw [hm2]
      refine to_p 15 rfl (by kernel_rfl) rfl (y_sliceLH rfl rfl rfl (by omega) (by omega)) ?_
      rw [Int.toNat_natCast, Int.toNat_natCast, show i * n + n - i * n = n by omega]
      refine to_e 16 rfl (by kernel_rfl) rfl (e_buildSlice rfl (by decide) (fun b4 => ?_))
      refine ⟨⟨he, Keeps.mem⟩, ?_⟩
      refine .pub b4 inferInstance (fun M6 hM6 hb6 => ?_)
      refine to_t 17 rfl (by kernel_rfl) (by kernel_rfl) rfl (e_append (by decide) rfl rfl hE (.row (Row.whole (s := 1) hb6 rfl (by omega))) rfl (by omega) (by omega) (fun A7 c7 E7 hE7 => ?_))
      refine to_p 18 rfl (by kernel_rfl) rfl (y_assign (v := .slice _ _ _) rfl) ?_
      refine to_nil (by kernel_rfl) (.block_normal (.then_normal ?_))
      refine .sub (F' := [(2, _), (5, _), (12, _), (14, _), (16, _), (17, _), (83, _), (84, _)]) (.cons rfl (.cons rfl (.cons rfl (.cons rfl (.cons rfl (.cons rfl (.cons rfl (.cons rfl .nil)))))))) ?_
      refine x_region ?_
      refine tl_y rfl (y_addI rfl rfl (by omega)) ?_
      refine tl_y rfl (y_move (v := .int _ _) rfl) ?_
      refine tl_nil (.loop_next (m' := H - (i + 1)) (by omega) (F' := [(2, _), (5, _), (12, _), (14, _), (16, _), (17, _), (83, _), (84, _)]) (.cons rfl (.cons rfl (.cons rfl (.cons rfl (.cons rfl (.cons rfl (.cons rfl (.cons rfl .nil)))))))) ?_)
      exact ⟨i + 1, A7, c7, E7, _, rfl, by omega, hM5.trans hM6, hE7, by rw [wayS_succ]; exact (hW.mono hM6).snoc (hsub.mono hM6), rfl, rfl, rfl⟩
    ·
      obtain rfl : i = H := by omega
      refine .pubRow hE (fun M6 hM6 hrow6 => ?_)
      have hd6 := hd4.trans (hM5.trans hM6)
      have hway : fitWay x sig = wayS sig (8 + sizeN (otsV x.o)) n i := by rw [fitWay, hx.tn, hx.th]; rfl
      have hkey : staV 16 tl name q.toNat text ((sig.drop 4).take (sizeN (otsV x.o))) = fitKey x tl name text sig := by rw [fitKey, hq]
      refine x_exit (.then_exit (.loop_exit (.block_exit (.then_normal ?_))))
      refine .sub (F' := [(2, _), (5, _), (14, _), (16, _), (17, _)]) (.cons rfl (.cons rfl (.cons rfl (.cons rfl (.cons rfl .nil))))) ?_
      refine x_seq (x_region ?_)
      refine tl_y rfl (y_fieldAddr rfl) ?_
      refine tl_y rfl (y_loadAgg rfl rfl (.own inferInstance inferInstance)) ?_
      refine tl_y rfl (y_move (v := .slice _ _ _) rfl) ?_
      refine tl_y rfl (y_move (v := .int _ _) rfl) ?_
      refine tl_y rfl (y_convE (b := (q.toNat : Int)) rfl (by rw [wrapU32, hq]; omega)) ?_
      refine tl_y rfl (y_move (v := .slice _ _ _) rfl) ?_
      refine tl_y rfl (y_move (v := .slice _ _ _) rfl) ?_
      refine tl_e rfl (e_call' rfl (Climb_spec (hg.mono hd6).mr (treeV x.t) (hname.mono hd6) q (hA4.mono (hM5.trans hM6)) (by omega) hrow6 (hW.mono hM6)) ?_)
      rintro _ M7 _ hM7 ⟨rfl, A7, m7, c7, rfl, hA7⟩
      have hd7 := hd6.trans hM7
      refine tl_y rfl (y_move (v := .tuple _) rfl) ?_
      refine tl_y rfl (y_extract rfl) ?_
      refine tl_y rfl (y_extract rfl) ?_
      refine tl_y rfl (y_assign (v := .slice _ _ _) rfl) ?_
      refine tl_y rfl (y_assign (v := .int _ _) rfl) ?_
      refine tl_nil (.then_normal ?_)
      refine .sub (F' := [(13, _), (19, _)]) (.cons rfl (.cons rfl .nil)) ?_
      refine x_seq (x_region ?_)
      refine tl_y rfl (y_move (v := .int _ _) rfl) ?_
      refine tl_y rfl (y_eql rfl rfl) ?_
      refine tl_y rfl (y_move (v := .int _ _) rfl) ?_
      refine tl_e rfl (e_call rfl (lmust_spec _ _) (by
        rintro _ _ _ _ ⟨rfl, rfl, ht, rfl⟩
        exact TP.dropTo L inferInstance (.retA rfl hd7 ⟨rfl, _, ⟨fun h => by have := h.2.2.2.2; rw [hway, ← hq] at this; simp [this] at ht, by simpa using ht⟩, rfl⟩)) ?_)
      rintro _ _ _ _ ⟨rfl, rfl, ht⟩
      refine tl_nil (.then_normal ?_)
      refine .sub (F' := [(19, _)]) (.cons rfl .nil) ?_
      refine x_seq (x_region ?_)
      refine tl_y rfl (y_move (v := .slice _ _ _) rfl) ?_
      refine tl_y rfl (y_assign (v := .slice _ _ _) rfl) ?_
      refine tl_nil (.then_normal ?_)
      refine x_ret (.dropTo L inferInstance (ret1 rfl rfl hd7 ⟨rfl, _, _, _, rfl, ⟨by omega, hcode, hcode2, hst, by rw [hway, ← hq]; simpa using ht⟩, by rw [fitR, hway, ← hkey, ← hq]; exact hA7⟩))
  ·
    have he : Le M2 M2 := Le.refl _
    refine x_draw 22 hmix rfl ?_
    refine to_p 0 rfl (by kernel_rfl) rfl (y_move (v := .int _ _) rfl) ?_
    refine to_p 1 rfl (by kernel_rfl) rfl (y_eql rfl rfl) ?_
    refine to_p 2 rfl (by kernel_rfl) rfl (y_move (v := .bool _) rfl) ?_
    refine to_cases (s := 39) rfl (fun hk1 => ?_) (fun hk1 => ?_)
    ·
      refine to_p 3 rfl (by kernel_rfl) rfl (y_move (v := .slice _ _ _) rfl) ?_
      obtain ⟨vs, rfl, hrow, hB⟩ := hcut hk1
      have hml := heq.1 hk1
      obtain ⟨A0, c0, A1, c1, A2, c2, A3, c3, v0, h0, v1, h1, v2, h2, v3, h3⟩ := cut_parts hB (by omega)
      obtain ⟨g, o, rfl, hcell⟩ := hrow.addr (by omega)
      have h14 := Bytes.take h1 4 z5
      rw [List.take_take, Nat.min_eq_left z5] at h14
      have hc1 := h1.le
      refine to_p 4 rfl (by kernel_rfl) rfl (y_indexAddrK 1 rfl rfl (by omega)) ?_
      refine to_y 5 rfl (by kernel_rfl) rfl (y_load rfl rfl (.at_ (hcell _ 1 _ v1) (by omega))) ?_
      refine to_p 6 rfl (by kernel_rfl) rfl (y_sliceH rfl rfl (by omega) (by omega)) ?_
      refine to_p 7 rfl (by kernel_rfl) rfl (y_fieldAddr rfl) ?_
      refine to_y 8 rfl (by kernel_rfl) rfl (y_load rfl rfl (.own inferInstance inferInstance)) ?_
      refine to_e 9 rfl (by kernel_rfl) rfl (e_call' rfl (lcode_spec x.o) ?_)
      rintro _ M4 _ hM4 ⟨rfl, A4, c4, rfl, hA4⟩
      replace he := he.trans hM4
      refine ⟨⟨(by first | exact Le.refl _ | assumption), Keeps.mem⟩, ?_⟩
      refine to_e 10 rfl (by kernel_rfl) rfl (e_call' rfl (Same_spec (h14.mono he) hA4) ?_)
      rintro _ _ _ _ ⟨rfl, rfl, rfl⟩
      refine ⟨⟨(by first | exact Le.refl _ | assumption), Keeps.mem⟩, ?_⟩
      refine to_p 11 rfl (by kernel_rfl) rfl (y_pickT rfl rfl) ?_
      refine to_p 12 rfl (by kernel_rfl) rfl (y_move (v := .bool _) rfl) ?_
      refine to_cases (s := 49) rfl (fun hk2 => ?_) (fun hk2 => ?_)
      ·
        refine to_p 13 rfl (by kernel_rfl) rfl (y_move (v := .slice _ _ _) rfl) ?_
        refine to_p 14 rfl (by kernel_rfl) rfl (y_indexAddrK 2 rfl rfl (by omega)) ?_
        refine to_y 15 rfl (by kernel_rfl) rfl (y_load rfl rfl (.at_ (hcell _ 2 _ v2) (by omega))) ?_
        refine to_p 16 rfl (by kernel_rfl) rfl (y_fieldAddr rfl) ?_
        refine to_y 17 rfl (by kernel_rfl) rfl (y_load rfl rfl (.own inferInstance inferInstance)) ?_
        refine to_e 18 rfl (by kernel_rfl) rfl (e_call' rfl (lcode_spec x.t) ?_)
        rintro _ M5 _ hM5 ⟨rfl, A5, c5, rfl, hA5⟩
        replace he := he.trans hM5
        refine ⟨⟨(by first | exact Le.refl _ | assumption), Keeps.mem⟩, ?_⟩
        refine to_e 19 rfl (by kernel_rfl) rfl (e_call' rfl (Same_spec (h2.mono he) hA5) ?_)
        rintro _ _ _ _ ⟨rfl, rfl, rfl⟩
        refine ⟨⟨(by first | exact Le.refl _ | assumption), Keeps.mem⟩, ?_⟩
        refine to_p 20 rfl (by kernel_rfl) rfl (y_pickT rfl rfl) ?_
        refine to_e 21 rfl (by kernel_rfl) rfl (e_call rfl (lmust_spec _ _) (by
          rintro _ _ _ _ ⟨rfl, rfl, ht, rfl⟩
          exact TP.dropTo L inferInstance (.retA rfl (hd.trans he) ⟨rfl, 3, ⟨fun h => by first | exact hk1 (heq.2 (by have := h.1; omega)) | exact hk2 h.2.1 | (have := h.2.2.1; simp [this] at ht; done), by decide⟩, rfl⟩)) ?_)
        rintro _ _ _ _ ⟨rfl, rfl, ht⟩
        refine ⟨⟨(by first | exact Le.refl _ | assumption), Keeps.mem⟩, ?_⟩
        refine to_nil (by kernel_rfl) (.then_normal (.sub (F' := [(2, _), (3, _), (5, _), (12, _)]) (.cons rfl (.cons rfl (.cons rfl (.cons rfl .nil)))) (Jd3 _ _ _ _ ?_)))
        exact ⟨rfl, rfl, he, by first | (cases ht; done) | exact ⟨hk1, hk2, by simpa using ht⟩, rfl⟩
      ·
        refine to_skip 13 rfl (by kernel_rfl) rfl ?_
        refine to_skip 14 rfl (by kernel_rfl) rfl ?_
        refine to_skip 15 rfl (by kernel_rfl) rfl ?_
        refine to_skip 16 rfl (by kernel_rfl) rfl ?_
        refine to_skip 17 rfl (by kernel_rfl) rfl ?_
        refine to_skip 18 rfl (by kernel_rfl) rfl ?_
        refine to_skip 19 rfl (by kernel_rfl) rfl ?_
        refine to_p 20 rfl (by kernel_rfl) rfl (y_pickF rfl rfl) ?_
        refine to_e 21 rfl (by kernel_rfl) rfl (e_call rfl (lmust_spec _ _) (by
          rintro _ _ _ _ ⟨rfl, rfl, ht, rfl⟩
          exact TP.dropTo L inferInstance (.retA rfl (hd.trans he) ⟨rfl, 3, ⟨fun h => by first | exact hk1 (heq.2 (by have := h.1; omega)) | exact hk2 h.2.1 | (have := h.2.2.1; simp [this] at ht; done), by decide⟩, rfl⟩)) ?_)
        rintro _ _ _ _ ⟨rfl, rfl, ht⟩
        refine ⟨⟨(by first | exact Le.refl _ | assumption), Keeps.mem⟩, ?_⟩
        refine to_nil (by kernel_rfl) (.then_normal (.sub (F' := [(2, _), (3, _), (5, _), (12, _)]) (.cons rfl (.cons rfl (.cons rfl (.cons rfl .nil)))) (Jd3 _ _ _ _ ?_)))
        exact ⟨rfl, rfl, he, by first | (cases ht; done) | exact ⟨hk1, hk2, by simpa using ht⟩, rfl⟩
    ·
      refine to_skip 3 rfl (by kernel_rfl) rfl ?_
      refine to_skip 4 rfl (by kernel_rfl) rfl ?_
      refine to_skip 5 rfl (by kernel_rfl) rfl ?_
      refine to_skip 6 rfl (by kernel_rfl) rfl ?_
      refine to_skip 7 rfl (by kernel_rfl) rfl ?_
      refine to_skip 8 rfl (by kernel_rfl) rfl ?_
      refine to_skip 9 rfl (by kernel_rfl) rfl ?_
      refine to_skip 10 rfl (by kernel_rfl) rfl ?_
      refine to_p 11 rfl (by kernel_rfl) rfl (y_pickF rfl rfl) ?_
      refine to_p 12 rfl (by kernel_rfl) rfl (y_move (v := .bool _) rfl) ?_
      refine to_skip 13 rfl (by kernel_rfl) rfl ?_
      refine to_skip 14 rfl (by kernel_rfl) rfl ?_
      refine to_skip 15 rfl (by kernel_rfl) rfl ?_
      refine to_skip 16 rfl (by kernel_rfl) rfl ?_
      refine to_skip 17 rfl (by kernel_rfl) rfl ?_
      refine to_skip 18 rfl (by kernel_rfl) rfl ?_
      refine to_skip 19 rfl (by kernel_rfl) rfl ?_
      refine to_p 20 rfl (by kernel_rfl) rfl (y_pickF rfl rfl) ?_
      refine to_e 21 rfl (by kernel_rfl) rfl (e_call rfl (lmust_spec _ _) (by
        rintro _ _ _ _ ⟨rfl, rfl, ht, rfl⟩
        exact TP.dropTo L inferInstance (.retA rfl (hd.trans he) ⟨rfl, 3, ⟨fun h => by first | exact hk1 (heq.2 (by have := h.1; omega)) | exact hk2 h.2.1 | (have := h.2.2.1; simp [this] at ht; done), by decide⟩, rfl⟩)) ?_)
      rintro _ _ _ _ ⟨rfl, rfl, ht⟩
      refine ⟨⟨(by first | exact Le.refl _ | assumption), Keeps.mem⟩, ?_⟩
      refine to_nil (by kernel_rfl) (.then_normal (.sub (F' := [(2, _), (3, _), (5, _), (12, _)]) (.cons rfl (.cons rfl (.cons rfl (.cons rfl .nil)))) (Jd3 _ _ _ _ ?_)))
      exact ⟨rfl, rfl, he, by first | (cases ht; done) | exact ⟨hk1, hk2, by simpa using ht⟩, rfl⟩
end
end Go.Proofs.YtiimjodbaogjbaaGreatDoor
