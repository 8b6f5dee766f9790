/-
Contracts of functions, each proved by a walk through its code.
-/
import Derived.Test.YtiimjodbaogjbaaGreatDoorLms1Etc
import Derived.Test.YtiimjodbaogjbaaGreatDoorEngWEtc
import Derived.Test.YtiimjodbaogjbaaGreatDoorRef11Etc
import Derived.Test.YtiimjodbaogjbaaGreatDoorOnce3Etc
set_option linter.unusedVariables false
set_option linter.unusedSimpArgs false
set_option linter.constructorNameAsVariable false
namespace Go.Proofs.YtiimjodbaogjbaaGreatDoor
open Go Go.Eng
structure SlV where
  a : Option Addr
  n : Nat
  c : Nat
abbrev SlV.v (x : SlV) : Value := .slice x.a x.n x.c
section
variable {G : World} {M : Mem} {L : Own}
theorem caughtTk1_ret {b c : Nat} {x : Int} {cs : List Value} : ConD Tryz.prog 130 #[.pointer (some ⟨b, 0, none⟩), .pointer (some ⟨c, 0, none⟩)] .returning G M ((c, .cells (List.toArray [.int .i64 x]) 38 (0, 0)) :: (b, .cells (List.toArray cs) 96 (0, 0)) :: L) (fun u' M' L' => u' = .returning ∧ M' = M ∧ L' = (c, .cells (List.toArray [.int .i64 x]) 38 (0, 0)) :: (b, .cells cs.toArray 96 (0, 0)) :: L) := by
  refine enterRec (args := [_, _]) (fn := Tryz.f130) ⟨Tryz.func130, rfl, by kernel_rfl, by kernel_rfl⟩ 15 rfl rfl ?_
  refine x_block ?_
  refine x_seq (x_region ?_)
  refine tl_y rfl (y_eqNilIface rfl rfl) ?_
  refine tl_nil (.then_normal ?_)
  refine x_true rfl (rfl) ?_
  refine x_region ?_
  refine tl_y rfl (y_assign rfl) ?_
  refine tl_nil (.block_normal (.rec_normal (Le.refl _) ⟨rfl, rfl, rfl⟩))
theorem caughtTk1_wrong {b c : Nat} {x e : Int} : ConD Tryz.prog 130 #[.pointer (some ⟨b, 0, none⟩), .pointer (some ⟨c, 0, none⟩)] (.panicking (lwrong e)) G M ((c, .cells (List.toArray [.int .i64 x]) 38 (0, 0)) :: (b, .cells (List.toArray [.slice none 0 0, .slice none 0 0]) 96 (0, 0)) :: L)
    (fun u' M' L' => u' = .panicking [{ v := lwrongv e, recovered := true }] ∧ M' = M ∧ L' = (c, .cells (List.toArray [.int .i64 e]) 38 (0, 0)) :: (b, .cells (List.toArray [.slice none 0 0, .slice none 0 0]) 96 (0, 0)) :: L) := by
  refine enterRec (args := [_, _]) (fn := Tryz.f130) ⟨Tryz.func130, rfl, by kernel_rfl, by kernel_rfl⟩ 15 rfl rfl ?_
  refine x_block ?_
  refine x_seq (x_region ?_)
  refine tl_y rfl (y_eqIfaceNil rfl rfl) ?_
  refine tl_nil (.then_normal ?_)
  refine x_false rfl (rfl) ?_
  refine x_seq (x_region ?_)
  refine tl_y rfl (y_assertOk rfl (by intro _ h; cases h)) ?_
  refine tl_y rfl (y_extract rfl) ?_
  refine tl_y rfl (y_extract rfl) ?_
  refine tl_nil (.then_normal ?_)
  refine x_true rfl (rfl) ?_
  refine x_seq (x_region ?_)
  refine tl_e rfl (e_alloc (fun b7 => ?_))
  refine tl_e rfl (e_store rfl rfl (by rfl) (by rfl) inferInstance inferInstance inferInstance ?_)
  refine tl_nil (.then_normal ?_)
  refine .sub (F' := [(0, _), (1, _), (3, _)]) (.cons rfl (.cons rfl (.cons rfl .nil))) ?_
  refine x_seq (x_region ?_)
  refine tl_e rfl (e_alloc (fun b8 => ?_))
  refine tl_nil (.then_normal ?_)
  refine x_draw0 4 ((b7, .cells (List.toArray [.int .i64 e]) 160 (0, 0)) :: (b8, .cells (List.toArray [.slice none 0 0, .slice none 0 0]) 96 (0, 0)) :: []) Keeps.mem hmix rfl ?_
  refine to_y 0 rfl (by kernel_rfl) rfl (y_loadAgg rfl rfl (.own inferInstance inferInstance)) ?_
  refine to_p 1 rfl (by kernel_rfl) rfl (y_fieldAddr rfl) ?_
  refine to_y 2 rfl (by kernel_rfl) rfl (y_load rfl rfl (.own inferInstance inferInstance)) ?_
  refine to_e 3 rfl (by kernel_rfl) rfl (e_store rfl rfl (by rfl) (by rfl) inferInstance inferInstance inferInstance ?_)
  refine ⟨⟨(by first | exact Le.refl _ | assumption), Keeps.mem⟩, ?_⟩
  refine to_t 4 rfl (by kernel_rfl) (by kernel_rfl) rfl (e_store rfl rfl (by rfl) (by rfl) inferInstance inferInstance inferInstance ?_)
  refine to_nil (by kernel_rfl) (.block_normal (.dropTo ((c, .cells (List.toArray [.int .i64 e]) 38 (0, 0)) :: (b, .cells (List.toArray [.slice none 0 0, .slice none 0 0]) 96 (0, 0)) :: L) inferInstance (.rec_normal (Le.refl _) ⟨rfl, rfl, rfl⟩)))
theorem caughtTk_spec {wf : FuncId} {first cap : List Value} {K : SlV → SlV → Mem → Prop} {Kp : Int → Prop}
    (hw : ∀ p q, Con Tryz.prog wf (first ++ [] ++ cap).toArray G M (p :: q :: L) (fun v M' L' => L' = p :: q :: L ∧ ∃ x y, v = .agg (List.toArray ([x.v, y.v])) ∧ K x y M') (fun ch M' L' => L' = p :: q :: L ∧ ∃ e, Kp e ∧ ch = lwrong e)) :
    Con Tryz.prog 66 #[.func (.func wf) first.toArray cap.toArray] G M L (fun v M' L' => L' = L ∧ ((∃ x y, v = .tuple #[.agg (List.toArray ([x.v, y.v])), .int .i64 0] ∧ K x y M') ∨ (∃ e, v = .tuple #[.agg (List.toArray [.slice none 0 0, .slice none 0 0]), .int .i64 e] ∧ Kp e))) noPanic := by
  refine enterD (args := [_]) (fn := Tryz.f66) ⟨Tryz.func66, rfl, by kernel_rfl, by kernel_rfl⟩ 7 rfl ?_
  refine x_seq (x_region ?_)
  refine tl_e rfl (e_alloc (fun b1 => ?_))
  refine tl_e rfl (e_alloc (fun b2 => ?_))
  refine tl_nil (.then_normal ?_)
  refine x_seq (x_region ?_)
  refine tl_y rfl (y_makeFunc rfl rfl) ?_
  refine tl_e rfl (e_defer rfl rfl rfl ?_)
  refine tl_nil (.then_normal ?_)
  refine x_seq (x_region ?_)
  refine tl_y rfl (y_move (v := .func _ _ _) rfl) ?_
  refine tl_e rfl (e_callv rfl rfl (hw _ _) (by
    rintro _ M1 _ hM1 ⟨rfl, e, hr, rfl⟩
    refine .retD (cap := [_, _]) (args := []) caughtTk1_wrong ?_
    rintro _ M2 _ hM2 ⟨rfl, rfl, rfl⟩
    exact .inl ⟨rfl, _, L, rv2 rfl (rc_cellAgg (by rfl) rfl (.own inferInstance inferInstance)) (rc_cell (by rfl) rfl (.own inferInstance inferInstance)), inferInstance, hM1, rfl, .inr ⟨e, rfl, hr⟩⟩) ?_)
  rintro _ M1 _ hM1 ⟨rfl, x, y, rfl, hk⟩
  refine tl_e rfl (e_store rfl rfl (by rfl) (by rfl) inferInstance inferInstance inferInstance ?_)
  refine tl_e rfl (e_store rfl rfl (by rfl) (by rfl) inferInstance inferInstance inferInstance ?_)
  refine tl_nil (.then_normal ?_)
  refine .sub (F' := [(2, _), (3, _)]) (.cons rfl (.cons rfl .nil)) ?_
  refine x_ret (.retD (cap := [_, _]) (args := []) (caughtTk1_ret (cs := [x.v, y.v])) ?_)
  rintro _ M2 _ hM2 ⟨rfl, rfl, rfl⟩
  exact .inl ⟨rfl, _, L, rv2 rfl (rc_cellAgg (by rfl) rfl (.own inferInstance inferInstance)) (rc_cell (by rfl) rfl (.own inferInstance inferInstance)), inferInstance, hM1, rfl, .inl ⟨x, y, rfl, hk⟩⟩
theorem Pair1_spec (hg : LmG M) {A : Option Addr} {m c : Nat} {bs : List UInt8} (h : Bytes M A m c bs) (hmb : m ≤ 1000000000000) {b : Nat} [hb : Has L b (.cells (List.toArray [.slice A m c]) 35 (0, 0))] :
    Con Tryz.prog 62 #[.pointer (some ⟨b, 0, none⟩)] G M L (fun v M' L' => L' = L ∧ ∃ x : PairV, v = .agg (List.toArray x.cells) ∧ pairE bs = 0 ∧ x = pairC bs) (fun ch M' L' => L' = L ∧ ∃ e, (pairE bs ≠ 0 ∧ e = pairE bs) ∧ ch = lwrong e) := by
  have hm := h.size
  have hc := h.le
  refine enter (args := [_]) (fn := Tryz.f62) ⟨Tryz.func62, rfl, by kernel_rfl, by kernel_rfl⟩ 40 rfl ?_
  refine x_seq (x_region ?_)
  refine tl_e rfl (e_alloc (fun b1 => ?_))
  refine tl_nil (.then_normal ?_)
  refine x_seq (x_region ?_)
  refine tl_y rfl (y_load rfl rfl (.own inferInstance inferInstance)) ?_
  refine tl_y rfl (y_len rfl) ?_
  refine tl_y rfl (y_geq rfl rfl) ?_
  refine tl_e rfl (e_call rfl (lmust_spec _ _) (by
    rintro _ _ _ _ ⟨rfl, rfl, ht, rfl⟩
    have e : pairE bs = 2 := by rw [pairE, if_pos (by simp at ht; omega)]
    exact TP.dropTo L inferInstance (.retA rfl (Le.refl _) ⟨rfl, _, ⟨by rw [e]; decide, rfl⟩, by rw [e]⟩)) ?_)
  rintro _ _ _ _ ⟨rfl, rfl, ht⟩
  have h8 : 8 ≤ m := by simp at ht; omega
  have hs4 : Bytes M (sl A 4 c 1) 4 (c - 4) ((bs.drop 4).take 4) := Bytes.sub h 4 8 (by omega) h8
  refine tl_nil (.then_normal ?_)
  refine .sub (F' := [(0, _), (1, _)]) (.cons rfl (.cons rfl .nil)) ?_
  refine x_seq (x_region ?_)
  refine tl_y rfl (y_load rfl rfl (.own inferInstance inferInstance)) ?_
  refine tl_y rfl (y_sliceH rfl rfl (by omega) (by omega)) ?_
  refine tl_e rfl (e_call' rfl (Get8_spec (Bytes.take h 4 (by omega)) (by omega)) ?_)
  rintro _ _ _ _ ⟨rfl, rfl, x, hx, rfl⟩
  have hgl := getB_lt (bs.take 4)
  rw [List.length_take, Nat.min_eq_left (by omega)] at hgl
  have hcv : ((pairC bs).t.toNat : Int) = (x.toNat : Int) := by rw [pairC, UInt32.toNat_ofNat', hx, Nat.mod_eq_of_lt (by omega)]
  refine tl_y rfl (y_move (v := .tuple _) rfl) ?_
  refine tl_y rfl (y_extract rfl) ?_
  refine tl_y rfl (y_extract rfl) ?_
  refine tl_y rfl (y_assign (v := .int _ _) rfl) ?_
  refine tl_y rfl (y_assign (v := .bool _) rfl) ?_
  refine tl_nil (.then_normal ?_)
  refine .sub (F' := [(0, _), (1, _), (2, _)]) (.cons rfl (.cons rfl (.cons rfl .nil))) ?_
  refine x_seq (x_region ?_)
  refine tl_y rfl (y_load rfl rfl (.own inferInstance inferInstance)) ?_
  refine tl_y rfl (y_sliceLH rfl rfl rfl (by omega) (by omega)) ?_
  refine tl_e rfl (e_call' rfl (Get8_spec hs4 (by omega)) ?_)
  rintro _ _ _ _ ⟨rfl, rfl, y, hy, rfl⟩
  have hgl2 := getB_lt ((bs.drop 4).take 4)
  rw [List.length_take, List.length_drop, Nat.min_eq_left (by omega)] at hgl2
  have hcv2 : ((pairC bs).o.toNat : Int) = (y.toNat : Int) := by rw [pairC, UInt32.toNat_ofNat', hy, Nat.mod_eq_of_lt (by omega)]
  refine tl_y rfl (y_move (v := .tuple _) rfl) ?_
  refine tl_y rfl (y_extract rfl) ?_
  refine tl_y rfl (y_extract rfl) ?_
  refine tl_y rfl (y_assign (v := .int _ _) rfl) ?_
  refine tl_y rfl (y_assign (v := .bool _) rfl) ?_
  refine tl_nil (.then_normal ?_)
  refine .sub (F' := [(0, _), (1, _), (2, _), (4, _)]) (.cons rfl (.cons rfl (.cons rfl (.cons rfl .nil)))) ?_
  refine x_seq (x_region ?_)
  refine tl_y rfl (y_move (v := .int _ _) rfl) ?_
  refine tl_y rfl (y_convE (b := ((pairC bs).o.toNat : Int)) rfl (by rw [wrapU32, hcv2]; omega)) ?_
  refine tl_y rfl (y_move (v := .int _ _) rfl) ?_
  refine tl_y rfl (y_convE (b := ((pairC bs).t.toNat : Int)) rfl (by rw [wrapU32, hcv]; omega)) ?_
  refine tl_y rfl (y_build rfl) ?_
  refine tl_e rfl (e_alloc (fun b2 => ?_))
  refine tl_e rfl (e_store rfl rfl (by rfl) (by rfl) inferInstance inferInstance inferInstance ?_)
  refine tl_nil (.then_normal ?_)
  refine .sub (F' := [(0, _), (1, _), (6, _)]) (.cons rfl (.cons rfl (.cons rfl .nil))) ?_
  refine x_seq (x_region ?_)
  refine tl_y rfl (y_loadAgg rfl rfl (.own inferInstance inferInstance)) ?_
  refine tl_e rfl (e_call rfl (of_spec hg.hs (pairC bs)) (by
    rintro _ M1 _ hM1 ⟨rfl, hno, rfl⟩
    have e : pairE bs = 4 := by rw [pairE, if_neg (by omega), if_pos hno]
    exact TP.dropTo L inferInstance (.retA rfl hM1 ⟨rfl, _, ⟨by rw [e]; decide, rfl⟩, by rw [e]⟩)) ?_)
  rintro _ M1 _ hM1 ⟨rfl, hok, rfl⟩
  obtain ⟨n, w, p, H, hx⟩ := okP_facts hok
  obtain ⟨z1, z2, z3, z4, z5⟩ := hx.sizes
  have hn32 := hx.o.n32
  refine tl_e rfl (e_alloc (fun b3 => ?_))
  refine tl_e rfl (e_store rfl rfl (by rfl) (by rfl) inferInstance inferInstance inferInstance ?_)
  refine tl_nil (.then_normal ?_)
  refine x_seq (x_region ?_)
  refine tl_y rfl (y_load rfl rfl (.own inferInstance inferInstance)) ?_
  refine tl_y rfl (y_len rfl) ?_
  refine tl_y rfl (y_fieldAddr rfl) ?_
  refine tl_y rfl (y_fieldAddr rfl) ?_
  refine tl_y rfl (y_load (v := .int .i64 (n : Int)) rfl rfl (by rw [← hx.tn]; exact .own inferInstance inferInstance)) ?_
  refine tl_y rfl (y_addI rfl rfl (by omega)) ?_
  refine tl_y rfl (y_eql rfl rfl) ?_
  refine tl_e rfl (e_call rfl (lmust_spec _ _) (by
    rintro _ _ _ _ ⟨rfl, rfl, ht, rfl⟩
    have e : pairE bs = 5 := by rw [pairE, if_neg (by omega), if_neg (fun h => h hok), if_pos (by simp at ht; omega)]
    exact TP.dropTo L inferInstance (.retA rfl hM1 ⟨rfl, _, ⟨by rw [e]; decide, rfl⟩, by rw [e]⟩)) ?_)
  rintro _ _ _ _ ⟨rfl, rfl, ht⟩
  have h0 : pairE bs = 0 := by rw [pairE, if_neg (by omega), if_neg (fun h => h hok), if_neg (by simp at ht; omega)]
  refine tl_nil (.then_normal ?_)
  refine .sub (F' := [(1, _), (6, _)]) (.cons rfl (.cons rfl .nil)) ?_
  refine x_seq (x_region ?_)
  refine tl_y rfl (y_loadAgg rfl rfl (.own inferInstance inferInstance)) ?_
  refine tl_e rfl (e_store rfl rfl (by rfl) (by rfl) inferInstance inferInstance inferInstance ?_)
  refine tl_nil (.then_normal ?_)
  refine x_ret (retRV (L' := L) (rv1 rfl (rc_cellAgg (by rfl) rfl (.own inferInstance inferInstance))) inferInstance hM1 ⟨rfl, _, rfl, h0, rfl⟩)
theorem Pair_spec (hg : LmG M) {A : Option Addr} {m c : Nat} {bs : List UInt8} (h : Bytes M A m c bs) (hmb : m ≤ 1000000000000) :
    Con Tryz.prog 20 #[.slice A m c] G M L (fun v M' L' => L' = L ∧ v = .tuple #[.agg (List.toArray (pairX bs).cells), .int .i64 (pairE bs)]) noPanic := by
  refine enter (args := [_]) (fn := Tryz.f20) ⟨Tryz.func20, rfl, by kernel_rfl, by kernel_rfl⟩ 8 rfl ?_
  refine x_seq (x_region ?_)
  refine tl_e rfl (e_box rfl (fun b1 => ?_))
  refine tl_e rfl (e_alloc (fun b2 => ?_))
  refine tl_y rfl (y_assign rfl) ?_
  refine tl_nil (.then_normal ?_)
  refine x_seq (x_region ?_)
  refine tl_y rfl (y_makeFunc rfl rfl) ?_
  refine tl_e rfl (e_call' rfl (caughtX_spec (K := fun x _ => pairE bs = 0 ∧ x = pairC bs) (Kp := fun e => pairE bs ≠ 0 ∧ e = pairE bs) (first := []) (cap := [.pointer (some ⟨b1, 0, none⟩)]) (fun p' q' => Pair1_spec hg h hmb)) ?_)
  rintro v M1 _ hM1 ⟨rfl, hv⟩
  obtain rfl : v = .tuple #[.agg (List.toArray (pairX bs).cells), .int .i64 (pairE bs)] := by
    rcases hv with ⟨x, rfl, h0, rfl⟩ | ⟨e, rfl, hno, rfl⟩
    · rw [pairX, if_pos h0, h0]
    · rw [pairX, if_neg hno]; rfl
  refine tl_y rfl (y_extract rfl) ?_
  refine tl_y rfl (y_extract rfl) ?_
  refine tl_e rfl (e_store rfl rfl (by rfl) (by rfl) inferInstance inferInstance inferInstance ?_)
  refine tl_y rfl (y_assign (v := .int _ _) rfl) ?_
  refine tl_nil (.then_normal ?_)
  refine .sub (F' := [(2, _), (3, _)]) (.cons rfl (.cons rfl .nil)) ?_
  refine x_ret (retRV (L' := L) (rv2 rfl (rc_cellAgg (by rfl) rfl (.own inferInstance inferInstance)) (rc_tmp (by rfl))) inferInstance hM1 ⟨rfl, rfl⟩)
theorem Take1_spec (hg : LmG M) (x : PairV) {A : Option Addr} {m c : Nat} {bs : List UInt8} (h : Bytes M A m c bs) (hmb : m ≤ 1000000000000) {bp b : Nat} [hp : Has L bp (.cells (List.toArray x.cells) 24 (0, 0))] [hb : Has L b (.cells (List.toArray [.slice A m c]) 35 (0, 0))] :
    Con Tryz.prog 67 #[.pointer (some ⟨bp, 0, none⟩), .pointer (some ⟨b, 0, none⟩)] G M L (fun v M' L' => L' = L ∧ ∃ y z : SlV, v = .agg (List.toArray [y.v, z.v]) ∧ takeE x m = 0 ∧ Le M M' ∧ y = ⟨sl A 0 (sigN x) 1, sigN x, sigN x⟩ ∧ z = ⟨sl A (sigN x) c 1, m - sigN x, c - sigN x⟩) (fun ch M' L' => L' = L ∧ ∃ e, (takeE x m ≠ 0 ∧ e = takeE x m) ∧ ch = lwrong e) := by
  have hm := h.size
  have hc := h.le
  refine enter (args := [_, _]) (fn := Tryz.f67) ⟨Tryz.func67, rfl, by kernel_rfl, by kernel_rfl⟩ 20 rfl ?_
  refine x_seq (x_region ?_)
  refine tl_e rfl (e_alloc (fun b1 => ?_))
  refine tl_nil (.then_normal ?_)
  refine x_seq (x_region ?_)
  refine tl_y rfl (y_loadAgg rfl rfl (.own inferInstance inferInstance)) ?_
  refine tl_e rfl (e_call rfl (of_spec hg.hs x) (by
    rintro _ M1 _ hM1 ⟨rfl, hno, rfl⟩
    have e : takeE x m = 4 := by rw [takeE, if_pos hno]
    exact TP.dropTo L inferInstance (.retA rfl hM1 ⟨rfl, _, ⟨by rw [e]; decide, rfl⟩, by rw [e]⟩)) ?_)
  rintro _ M1 _ hM1 ⟨rfl, hok, rfl⟩
  obtain ⟨n, w, p, H, hx⟩ := okP_facts hok
  obtain ⟨z1, z2, z3, z4, z5⟩ := hx.sizes
  refine tl_e rfl (e_call' rfl (lsize_spec hx) ?_)
  rintro _ _ _ _ ⟨rfl, rfl, rfl⟩
  refine tl_y rfl (y_assign (v := .int _ _) rfl) ?_
  refine tl_nil (.then_normal ?_)
  refine .sub (F' := [(1, _), (2, _), (3, _)]) (.cons rfl (.cons rfl (.cons rfl .nil))) ?_
  refine x_seq (x_region ?_)
  refine tl_y rfl (y_load rfl rfl (.own inferInstance inferInstance)) ?_
  refine tl_y rfl (y_len rfl) ?_
  refine tl_y rfl (y_move (v := .int _ _) rfl) ?_
  refine tl_y rfl (y_geq rfl rfl) ?_
  refine tl_e rfl (e_call rfl (lmust_spec _ _) (by
    rintro _ _ _ _ ⟨rfl, rfl, ht, rfl⟩
    have e : takeE x m = 2 := by rw [takeE, if_neg (fun h => h hok), if_pos (by simp at ht; omega)]
    exact TP.dropTo L inferInstance (.retA rfl hM1 ⟨rfl, _, ⟨by rw [e]; decide, rfl⟩, by rw [e]⟩)) ?_)
  rintro _ _ _ _ ⟨rfl, rfl, ht⟩
  have hN : sigN x ≤ m := by simp at ht; omega
  have h0 : takeE x m = 0 := by rw [takeE, if_neg (fun h => h hok), if_neg (by omega)]
  refine tl_nil (.then_normal ?_)
  refine .sub (F' := [(1, _), (2, _), (3, _)]) (.cons rfl (.cons rfl (.cons rfl .nil))) ?_
  refine x_seq ?_
  refine x_draw 8 hmix rfl ?_
  refine to_y 0 rfl (by kernel_rfl) rfl (y_load rfl rfl (.own inferInstance inferInstance)) ?_
  refine to_p 1 rfl (by kernel_rfl) rfl (y_move (v := .int _ _) rfl) ?_
  refine to_p 2 rfl (by kernel_rfl) rfl (y_move (v := .int _ _) rfl) ?_
  refine to_p 3 rfl (by kernel_rfl) rfl (y_slice3 rfl rfl rfl (by omega) (by omega)) ?_
  refine to_y 4 rfl (by kernel_rfl) rfl (y_load rfl rfl (.own inferInstance inferInstance)) ?_
  refine to_p 5 rfl (by kernel_rfl) rfl (y_move (v := .int _ _) rfl) ?_
  refine to_p 6 rfl (by kernel_rfl) rfl (y_sliceL rfl rfl (by omega)) ?_
  refine to_p 7 rfl (by kernel_rfl) rfl (y_buildArr rfl) ?_
  refine to_t 8 rfl (by kernel_rfl) (by kernel_rfl) rfl (e_store rfl rfl (by rfl) (by rfl) inferInstance inferInstance inferInstance ?_)
  refine to_nil (by kernel_rfl) (.then_normal ?_)
  refine .sub (F' := [(2, _)]) (.cons rfl .nil) ?_
  refine x_ret (retRV (L' := L) (rv1 rfl (rc_cellAgg (by rfl) rfl (.own inferInstance inferInstance))) inferInstance hM1 ⟨rfl, ⟨_, _, _⟩, ⟨_, _, _⟩, rfl, h0, hM1, rfl, rfl⟩)
theorem Take_spec (hg : LmG M) (x : PairV) {A : Option Addr} {m c : Nat} {bs : List UInt8} (h : Bytes M A m c bs) (hmb : m ≤ 1000000000000) :
    Con Tryz.prog 22 #[.agg (List.toArray x.cells), .slice A m c] G M L (fun v M' L' => L' = L ∧ ∃ A1 n1 c1 A2 n2 c2, v = .tuple #[.slice A1 n1 c1, .slice A2 n2 c2, .int .i64 (takeE x m)] ∧ Bytes M' A1 n1 c1 (if takeE x m = 0 then bs.take (sigN x) else []) ∧ Bytes M' A2 n2 c2 (if takeE x m = 0 then bs.drop (sigN x) else [])) noPanic := by
  have hm := h.size
  have hc := h.le
  refine enter (args := [_, _]) (fn := Tryz.f22) ⟨Tryz.func22, rfl, by kernel_rfl, by kernel_rfl⟩ 19 rfl ?_
  refine x_seq (x_region ?_)
  refine tl_e rfl (e_box rfl (fun b1 => ?_))
  refine tl_e rfl (e_box rfl (fun b2 => ?_))
  refine tl_y rfl (y_assign rfl) ?_
  refine tl_y rfl (y_assign rfl) ?_
  refine tl_y rfl (y_assign rfl) ?_
  refine tl_nil (.then_normal ?_)
  refine .sub (F' := [(2, _), (3, _)]) (.cons rfl (.cons rfl .nil)) ?_
  refine x_seq (x_region ?_)
  refine tl_y rfl (y_makeFunc rfl rfl) ?_
  refine tl_e rfl (e_call' rfl (caughtTk_spec (K := fun y z M' => takeE x m = 0 ∧ Le M M' ∧ y = ⟨sl A 0 (sigN x) 1, sigN x, sigN x⟩ ∧ z = ⟨sl A (sigN x) c 1, m - sigN x, c - sigN x⟩) (Kp := fun e => takeE x m ≠ 0 ∧ e = takeE x m) (first := []) (cap := [.pointer (some ⟨b1, 0, none⟩), .pointer (some ⟨b2, 0, none⟩)]) (fun p' q' => Take1_spec hg x h hmb)) ?_)
  rintro v M1 _ hM1 ⟨rfl, hv⟩
  obtain ⟨⟨A1, n1, c1⟩, ⟨A2, n2, c2⟩, rfl, hb1, hb2⟩ : ∃ y z : SlV, v = .tuple #[.agg (List.toArray [y.v, z.v]), .int .i64 (takeE x m)] ∧ Bytes M1 y.a y.n y.c (if takeE x m = 0 then bs.take (sigN x) else []) ∧ Bytes M1 z.a z.n z.c (if takeE x m = 0 then bs.drop (sigN x) else []) := by
    rcases hv with ⟨y, z, rfl, h0, hle, rfl, rfl⟩ | ⟨e, rfl, hno, rfl⟩
    · have hN : sigN x ≤ m := by
        unfold takeE at h0
        split at h0
        · cases h0
        · split at h0
          · cases h0
          · omega
      exact ⟨_, _, by rw [h0], by rw [if_pos h0]; exact Bytes.take3 (h.mono hM1) _ _ hN (Nat.le_refl _) (by omega), by rw [if_pos h0]; exact Bytes.drop (h.mono hM1) _ hN⟩
    · exact ⟨⟨none, 0, 0⟩, ⟨none, 0, 0⟩, rfl, by rw [if_neg hno]; exact Row.nil _ _, by rw [if_neg hno]; exact Row.nil _ _⟩
  refine tl_y rfl (y_move (v := .tuple _) rfl) ?_
  refine tl_y rfl (y_extract rfl) ?_
  refine tl_y rfl (y_extract rfl) ?_
  refine tl_e rfl (e_alloc (fun b3 => ?_))
  refine tl_e rfl (e_store rfl rfl (by rfl) (by rfl) inferInstance inferInstance inferInstance ?_)
  refine tl_y rfl (y_assign (v := .int _ _) rfl) ?_
  refine tl_nil (.then_normal ?_)
  refine .sub (F' := [(7, _), (8, _)]) (.cons rfl (.cons rfl .nil)) ?_
  refine x_seq ?_
  refine x_draw 8 hmix rfl ?_
  refine to_p 0 rfl (by kernel_rfl) rfl (y_indexArrK 0 rfl rfl (by omega)) ?_
  refine to_y 1 rfl (by kernel_rfl) rfl (y_load rfl rfl (.own inferInstance inferInstance)) ?_
  refine to_p 2 rfl (by kernel_rfl) rfl (y_indexArrK 1 rfl rfl (by omega)) ?_
  refine to_y 3 rfl (by kernel_rfl) rfl (y_load rfl rfl (.own inferInstance inferInstance)) ?_
  refine to_p 4 rfl (by kernel_rfl) rfl (y_move (v := .int _ _) rfl) ?_
  refine to_p 5 rfl (by kernel_rfl) rfl (y_assign (v := .slice _ _ _) rfl) ?_
  refine to_p 6 rfl (by kernel_rfl) rfl (y_assign (v := .slice _ _ _) rfl) ?_
  refine to_p 7 rfl (by kernel_rfl) rfl (y_assign (v := .int _ _) rfl) ?_
  refine to_nil (by kernel_rfl) (.then_normal ?_)
  refine .sub (F' := [(4, _), (5, _), (6, _)]) (.cons rfl (.cons rfl (.cons rfl .nil))) ?_
  refine x_ret (.dropTo L inferInstance (ret3 rfl rfl rfl rfl hM1 ⟨rfl, _, _, _, _, _, _, rfl, hb1, hb2⟩))
end
end Go.Proofs.YtiimjodbaogjbaaGreatDoor
set_option linter.unusedVariables false
set_option linter.unusedSimpArgs false
set_option linter.constructorNameAsVariable false
namespace Go.Proofs.YtiimjodbaogjbaaGreatDoor
open Go Go.Eng
def p0 : PairV := ⟨0, 0⟩
def tv (p : PairV) : TreeV := treeV p.t
def hN (t : TreeV) : Nat := t.h.toNat
def hsum (l : List TreeV) : Nat := (l.map hN).sum
def good (l : List PairV) (p : PairV) : Prop := okP p ∧ (tv p).kind = (tv (l.getD 0 p0)).kind ∧ (tv p).n = (tv (l.getD 0 p0)).n
instance {l : List PairV} {p : PairV} : Decidable (good l p) := inferInstanceAs (Decidable (_ ∧ _))
def okL (l : List PairV) : Prop := (1 ≤ l.length ∧ l.length ≤ 8) ∧ (∀ p ∈ l, good l p) ∧ hsum (l.map tv) ≤ 60
instance {l : List PairV} : Decidable (okL l) := inferInstanceAs (Decidable (_ ∧ _))
section
variable {G : World} {M : Mem} {L : Own}
end
end Go.Proofs.YtiimjodbaogjbaaGreatDoor
set_option linter.unusedVariables false
set_option linter.unusedSimpArgs false
set_option linter.constructorNameAsVariable false
namespace Go.Proofs.YtiimjodbaogjbaaGreatDoor
open Go Go.Eng
section
variable {G : World} {M : Mem} {L : Own}
theorem RSets12_spec (p : PairV) :
    Con Tryz.prog 16 #[.agg (List.toArray p.cells)] G M L (fun v M' L' => M = M' ∧ L = L' ∧ v = .tuple #[.agg (List.toArray (otsV p.o).cells), .agg (List.toArray (treeV p.t).cells), .bool (decide (okP p))]) noPanic := by
  refine enter (args := [_]) (fn := Tryz.f16) ⟨Tryz.func16, rfl, by kernel_rfl, by kernel_rfl⟩ 43 rfl ?_
  refine x_seq (x_region ?_)
  refine tl_e rfl (e_box rfl (fun b1 => ?_))
  refine tl_e rfl (e_alloc (fun b2 => ?_))
  refine tl_e rfl (e_alloc (fun b3 => ?_))
  refine tl_y rfl (y_assign rfl) ?_
  refine tl_nil (.then_normal ?_)
  refine x_seq (x_region ?_)
  refine tl_y rfl (y_fieldAddr rfl) ?_
  refine tl_y rfl (y_load rfl rfl (.own inferInstance inferInstance)) ?_
  refine tl_e rfl (e_call' rfl (ROts_spec p.o) ?_)
  rintro _ _ _ _ ⟨rfl, rfl, rfl⟩
  refine tl_y rfl (y_move (v := .tuple _) rfl) ?_
  refine tl_y rfl (y_extract rfl) ?_
  refine tl_y rfl (y_extract rfl) ?_
  refine tl_e rfl (e_alloc (fun b4 => ?_))
  refine tl_e rfl (e_store rfl rfl (by rfl) (by rfl) inferInstance inferInstance inferInstance ?_)
  refine tl_y rfl (y_assign (v := .int _ _) rfl) ?_
  refine tl_nil (.then_normal ?_)
  refine .sub (F' := [(1, _), (2, _), (3, _), (5, _), (6, _)]) (.cons rfl (.cons rfl (.cons rfl (.cons rfl (.cons rfl .nil))))) ?_
  refine x_seq (x_region ?_)
  refine tl_y rfl (y_fieldAddr rfl) ?_
  refine tl_y rfl (y_load rfl rfl (.own inferInstance inferInstance)) ?_
  refine tl_e rfl (e_call' rfl (RTree_spec p.t) ?_)
  rintro _ _ _ _ ⟨rfl, rfl, rfl⟩
  refine tl_y rfl (y_move (v := .tuple _) rfl) ?_
  refine tl_y rfl (y_extract rfl) ?_
  refine tl_y rfl (y_extract rfl) ?_
  refine tl_e rfl (e_alloc (fun b5 => ?_))
  refine tl_e rfl (e_store rfl rfl (by rfl) (by rfl) inferInstance inferInstance inferInstance ?_)
  refine tl_y rfl (y_assign (v := .int _ _) rfl) ?_
  refine tl_nil (.then_normal ?_)
  refine .sub (F' := [(2, _), (3, _), (5, _), (6, _), (7, _), (8, _)]) (.cons rfl (.cons rfl (.cons rfl (.cons rfl (.cons rfl (.cons rfl .nil)))))) ?_
  refine x_seq ?_
  refine x_draw0 24 ([(b5, .cells (List.toArray (treeV p.t).cells) 29 (0, 0)), (b4, .cells (List.toArray (otsV p.o).cells) 27 (0, 0))]) Keeps.mem hmix rfl ?_
  refine to_y 0 rfl (by kernel_rfl) rfl (y_loadAgg rfl rfl (.own inferInstance inferInstance)) ?_
  refine to_y 1 rfl (by kernel_rfl) rfl (y_loadAgg rfl rfl (.own inferInstance inferInstance)) ?_
  refine to_p 2 rfl (by kernel_rfl) rfl (y_move (v := .int _ _) rfl) ?_
  refine to_p 3 rfl (by kernel_rfl) rfl (y_eql rfl rfl) ?_
  refine to_p 4 rfl (by kernel_rfl) rfl (y_move (v := .bool _) rfl) ?_
  refine to_cases (s := 25) rfl (fun hk1 => ?_) (fun hk1 => ?_)
  ·
    refine to_p 5 rfl (by kernel_rfl) rfl (y_move (v := .int _ _) rfl) ?_
    refine to_p 6 rfl (by kernel_rfl) rfl (y_eql rfl rfl) ?_
    refine to_p 7 rfl (by kernel_rfl) rfl (y_pickT rfl rfl) ?_
    refine to_p 8 rfl (by kernel_rfl) rfl (y_move (v := .bool _) rfl) ?_
    refine to_cases (s := 29) rfl (fun hk2 => ?_) (fun hk2 => ?_)
    ·
      refine to_p 9 rfl (by kernel_rfl) rfl (y_fieldAddr rfl) ?_
      refine to_y 10 rfl (by kernel_rfl) rfl (y_load rfl rfl (.own inferInstance inferInstance)) ?_
      refine to_p 11 rfl (by kernel_rfl) rfl (y_fieldAddr rfl) ?_
      refine to_y 12 rfl (by kernel_rfl) rfl (y_load rfl rfl (.own inferInstance inferInstance)) ?_
      refine to_p 13 rfl (by kernel_rfl) rfl (y_eql rfl rfl) ?_
      refine to_p 14 rfl (by kernel_rfl) rfl (y_pickT rfl rfl) ?_
      refine to_p 15 rfl (by kernel_rfl) rfl (y_move (v := .bool _) rfl) ?_
      refine to_cases (s := 36) rfl (fun hk3 => ?_) (fun hk3 => ?_)
      ·
        refine to_p 16 rfl (by kernel_rfl) rfl (y_fieldAddr rfl) ?_
        refine to_y 17 rfl (by kernel_rfl) rfl (y_load rfl rfl (.own inferInstance inferInstance)) ?_
        refine to_p 18 rfl (by kernel_rfl) rfl (y_fieldAddr rfl) ?_
        refine to_y 19 rfl (by kernel_rfl) rfl (y_load rfl rfl (.own inferInstance inferInstance)) ?_
        refine to_p 20 rfl (by kernel_rfl) rfl (y_eql rfl rfl) ?_
        refine to_p 21 rfl (by kernel_rfl) rfl (y_pickT rfl rfl) ?_
        refine to_e 22 rfl (by kernel_rfl) rfl (e_store rfl rfl (by rfl) (by rfl) inferInstance inferInstance inferInstance ?_)
        refine ⟨⟨(by first | exact Le.refl _ | assumption), Keeps.mem⟩, ?_⟩
        refine to_e 23 rfl (by kernel_rfl) rfl (e_store rfl rfl (by rfl) (by rfl) inferInstance inferInstance inferInstance ?_)
        refine ⟨⟨(by first | exact Le.refl _ | assumption), Keeps.mem⟩, ?_⟩
        refine to_y1 24 rfl (by kernel_rfl) rfl (y_assign (v := .bool _) rfl) ?_
        refine to_nil (by kernel_rfl) (.then_normal ?_)
        refine .sub (F' := [(2, _), (3, _), (4, _)]) (.cons rfl (.cons rfl (.cons rfl .nil))) ?_
        refine x_ret (retRV (L' := L) (rv3 rfl (rc_cellAgg (by rfl) rfl (.own inferInstance inferInstance)) (rc_cellAgg (by rfl) rfl (.own inferInstance inferInstance)) (rc_tmp (by rfl))) inferInstance (Le.refl _) ⟨rfl, rfl, by simp_all [okP]⟩)
      ·
        refine to_skip 16 rfl (by kernel_rfl) rfl ?_
        refine to_skip 17 rfl (by kernel_rfl) rfl ?_
        refine to_skip 18 rfl (by kernel_rfl) rfl ?_
        refine to_skip 19 rfl (by kernel_rfl) rfl ?_
        refine to_skip 20 rfl (by kernel_rfl) rfl ?_
        refine to_p 21 rfl (by kernel_rfl) rfl (y_pickF rfl rfl) ?_
        refine to_e 22 rfl (by kernel_rfl) rfl (e_store rfl rfl (by rfl) (by rfl) inferInstance inferInstance inferInstance ?_)
        refine ⟨⟨(by first | exact Le.refl _ | assumption), Keeps.mem⟩, ?_⟩
        refine to_e 23 rfl (by kernel_rfl) rfl (e_store rfl rfl (by rfl) (by rfl) inferInstance inferInstance inferInstance ?_)
        refine ⟨⟨(by first | exact Le.refl _ | assumption), Keeps.mem⟩, ?_⟩
        refine to_y1 24 rfl (by kernel_rfl) rfl (y_assign (v := .bool _) rfl) ?_
        refine to_nil (by kernel_rfl) (.then_normal ?_)
        refine .sub (F' := [(2, _), (3, _), (4, _)]) (.cons rfl (.cons rfl (.cons rfl .nil))) ?_
        refine x_ret (retRV (L' := L) (rv3 rfl (rc_cellAgg (by rfl) rfl (.own inferInstance inferInstance)) (rc_cellAgg (by rfl) rfl (.own inferInstance inferInstance)) (rc_tmp (by rfl))) inferInstance (Le.refl _) ⟨rfl, rfl, by simp_all [okP]⟩)
    ·
      refine to_skip 9 rfl (by kernel_rfl) rfl ?_
      refine to_skip 10 rfl (by kernel_rfl) rfl ?_
      refine to_skip 11 rfl (by kernel_rfl) rfl ?_
      refine to_skip 12 rfl (by kernel_rfl) rfl ?_
      refine to_skip 13 rfl (by kernel_rfl) rfl ?_
      refine to_p 14 rfl (by kernel_rfl) rfl (y_pickF rfl rfl) ?_
      refine to_p 15 rfl (by kernel_rfl) rfl (y_move (v := .bool _) rfl) ?_
      refine to_skip 16 rfl (by kernel_rfl) rfl ?_
      refine to_skip 17 rfl (by kernel_rfl) rfl ?_
      refine to_skip 18 rfl (by kernel_rfl) rfl ?_
      refine to_skip 19 rfl (by kernel_rfl) rfl ?_
      refine to_skip 20 rfl (by kernel_rfl) rfl ?_
      refine to_p 21 rfl (by kernel_rfl) rfl (y_pickF rfl rfl) ?_
      refine to_e 22 rfl (by kernel_rfl) rfl (e_store rfl rfl (by rfl) (by rfl) inferInstance inferInstance inferInstance ?_)
      refine ⟨⟨(by first | exact Le.refl _ | assumption), Keeps.mem⟩, ?_⟩
      refine to_e 23 rfl (by kernel_rfl) rfl (e_store rfl rfl (by rfl) (by rfl) inferInstance inferInstance inferInstance ?_)
      refine ⟨⟨(by first | exact Le.refl _ | assumption), Keeps.mem⟩, ?_⟩
      refine to_y1 24 rfl (by kernel_rfl) rfl (y_assign (v := .bool _) rfl) ?_
      refine to_nil (by kernel_rfl) (.then_normal ?_)
      refine .sub (F' := [(2, _), (3, _), (4, _)]) (.cons rfl (.cons rfl (.cons rfl .nil))) ?_
      refine x_ret (retRV (L' := L) (rv3 rfl (rc_cellAgg (by rfl) rfl (.own inferInstance inferInstance)) (rc_cellAgg (by rfl) rfl (.own inferInstance inferInstance)) (rc_tmp (by rfl))) inferInstance (Le.refl _) ⟨rfl, rfl, by simp_all [okP]⟩)
  ·
    refine to_skip 5 rfl (by kernel_rfl) rfl ?_
    refine to_skip 6 rfl (by kernel_rfl) rfl ?_
    refine to_p 7 rfl (by kernel_rfl) rfl (y_pickF rfl rfl) ?_
    refine to_p 8 rfl (by kernel_rfl) rfl (y_move (v := .bool _) rfl) ?_
    refine to_skip 9 rfl (by kernel_rfl) rfl ?_
    refine to_skip 10 rfl (by kernel_rfl) rfl ?_
    refine to_skip 11 rfl (by kernel_rfl) rfl ?_
    refine to_skip 12 rfl (by kernel_rfl) rfl ?_
    refine to_skip 13 rfl (by kernel_rfl) rfl ?_
    refine to_p 14 rfl (by kernel_rfl) rfl (y_pickF rfl rfl) ?_
    refine to_p 15 rfl (by kernel_rfl) rfl (y_move (v := .bool _) rfl) ?_
    refine to_skip 16 rfl (by kernel_rfl) rfl ?_
    refine to_skip 17 rfl (by kernel_rfl) rfl ?_
    refine to_skip 18 rfl (by kernel_rfl) rfl ?_
    refine to_skip 19 rfl (by kernel_rfl) rfl ?_
    refine to_skip 20 rfl (by kernel_rfl) rfl ?_
    refine to_p 21 rfl (by kernel_rfl) rfl (y_pickF rfl rfl) ?_
    refine to_e 22 rfl (by kernel_rfl) rfl (e_store rfl rfl (by rfl) (by rfl) inferInstance inferInstance inferInstance ?_)
    refine ⟨⟨(by first | exact Le.refl _ | assumption), Keeps.mem⟩, ?_⟩
    refine to_e 23 rfl (by kernel_rfl) rfl (e_store rfl rfl (by rfl) (by rfl) inferInstance inferInstance inferInstance ?_)
    refine ⟨⟨(by first | exact Le.refl _ | assumption), Keeps.mem⟩, ?_⟩
    refine to_y1 24 rfl (by kernel_rfl) rfl (y_assign (v := .bool _) rfl) ?_
    refine to_nil (by kernel_rfl) (.then_normal ?_)
    refine .sub (F' := [(2, _), (3, _), (4, _)]) (.cons rfl (.cons rfl (.cons rfl .nil))) ?_
    refine x_ret (retRV (L' := L) (rv3 rfl (rc_cellAgg (by rfl) rfl (.own inferInstance inferInstance)) (rc_cellAgg (by rfl) rfl (.own inferInstance inferInstance)) (rc_tmp (by rfl))) inferInstance (Le.refl _) ⟨rfl, rfl, by simp_all [okP]⟩)
end
end Go.Proofs.YtiimjodbaogjbaaGreatDoor
set_option linter.unusedVariables false
set_option linter.unusedSimpArgs false
set_option linter.constructorNameAsVariable false
namespace Go.Proofs.YtiimjodbaogjbaaGreatDoor
open Go Go.Eng
section
variable {G : World} {M : Mem} {L : Own} {NA SA : Option Addr} {nl nc sl sc : Nat} {name sec : List UInt8}
theorem RoMay_spec (o : OtsV) :
    Con Tryz.prog 43 #[.agg (List.toArray o.cells), .agg (List.toArray (seedC NA nl nc SA sl sc))] G M L (fun v M' L' => M = M' ∧ L = L' ∧ v = .bool (decide (okY o nl sl))) noPanic := by
  refine enter (args := [_, _]) (fn := Tryz.f43) ⟨Tryz.func43, rfl, by kernel_rfl, by kernel_rfl⟩ 34 rfl ?_
  refine x_seq (x_region ?_)
  refine tl_e rfl (e_box rfl (fun b1 => ?_))
  refine tl_e rfl (e_box rfl (fun b2 => ?_))
  refine tl_y rfl (y_assign rfl) ?_
  refine tl_nil (.then_normal ?_)
  refine x_seq (x_region ?_)
  refine tl_y rfl (y_fieldAddr rfl) ?_
  refine tl_y rfl (y_load rfl rfl (.own inferInstance inferInstance)) ?_
  refine tl_e rfl (e_call' rfl (ROts_spec o.code) ?_)
  rintro _ _ _ _ ⟨rfl, rfl, rfl⟩
  refine tl_y rfl (y_move (v := .tuple _) rfl) ?_
  refine tl_y rfl (y_extract rfl) ?_
  refine tl_y rfl (y_extract rfl) ?_
  refine tl_e rfl (e_alloc (fun b3 => ?_))
  refine tl_e rfl (e_store rfl rfl (by rfl) (by rfl) inferInstance inferInstance inferInstance ?_)
  refine tl_y rfl (y_assign (v := .int _ _) rfl) ?_
  refine tl_nil (.then_normal ?_)
  refine .sub (F' := [(2, _), (3, _), (5, _), (6, _)]) (.cons rfl (.cons rfl (.cons rfl (.cons rfl .nil)))) ?_
  refine x_join (I := fun F D M2 L2 => ∃ b : Bool, (b = true ↔ okY o nl sl) ∧ D = [] ∧ M = M2 ∧ DropTo L2 L ∧ F = [(4, .bool b)]) ?_ (fun Jq2 => ?_)
  ·
    rintro _ _ _ L2 ⟨b, hb, rfl, rfl, hdr, rfl⟩  -- slots [4]
    refine x_ret (.dropTo L hdr (ret1 rfl rfl (Le.refl _) ⟨rfl, rfl, by rw [bool_iff hb]⟩))
  ·
    refine x_region ?_
    refine tl_y rfl (y_move (v := .int _ _) rfl) ?_
    refine tl_y rfl (y_eql rfl rfl) ?_
    refine tl_y rfl (y_move (v := .bool _) rfl) ?_
    refine tl_cases (s := 15) rfl (fun hk1 => ?_) (fun hk1 => ?_)
    ·
      refine tl_y rfl (y_loadAgg rfl rfl (.own inferInstance inferInstance)) ?_
      refine tl_y rfl (y_loadAgg rfl rfl (.own inferInstance inferInstance)) ?_
      refine tl_y rfl (y_eqlS rfl rfl eqs27) ?_
      refine tl_y rfl (y_pickT rfl rfl) ?_
      refine tl_y rfl (y_move (v := .bool _) rfl) ?_
      refine tl_cases (s := 20) rfl (fun hk2 => ?_) (fun hk2 => ?_)
      ·
        refine tl_y rfl (y_fieldAddr rfl) ?_
        refine tl_y rfl (y_load rfl rfl (.own inferInstance inferInstance)) ?_
        refine tl_y rfl (y_len rfl) ?_
        refine tl_y rfl (y_eql rfl rfl) ?_
        refine tl_y rfl (y_pickT rfl rfl) ?_
        refine tl_y rfl (y_move (v := .bool _) rfl) ?_
        refine tl_cases (s := 26) rfl (fun hk3 => ?_) (fun hk3 => ?_)
        ·
          refine tl_y rfl (y_fieldAddr rfl) ?_
          refine tl_y rfl (y_load rfl rfl (.own inferInstance inferInstance)) ?_
          refine tl_y rfl (y_len rfl) ?_
          refine tl_y rfl (y_fieldAddr rfl) ?_
          refine tl_y rfl (y_load rfl rfl (.own inferInstance inferInstance)) ?_
          refine tl_y rfl (y_eql rfl rfl) ?_
          refine tl_y rfl (y_pickT rfl rfl) ?_
          refine tl_y rfl (y_assign (v := .bool _) rfl) ?_
          refine tl_nil (.then_normal (.sub (F' := [(4, _)]) (.cons rfl .nil) (Jq2 _ _ _ _ ?_)))
          exact ⟨_, by
            constructor
            · intro ht
              first | (cases ht; done) | (simp at ht; exact ⟨⟨hk1, ots_eq hk2⟩, by omega, by omega⟩)
            · rintro ⟨⟨a1, a2⟩, a3, a4⟩
              first | exact absurd a1 hk1 | exact absurd (eq_ots a2) hk2 | (simp; omega) | omega, rfl, rfl, inferInstance, rfl⟩
        ·
          refine tl_skip rfl ?_
          refine tl_skip rfl ?_
          refine tl_skip rfl ?_
          refine tl_skip rfl ?_
          refine tl_skip rfl ?_
          refine tl_skip rfl ?_
          refine tl_y rfl (y_pickF rfl rfl) ?_
          refine tl_y rfl (y_assign (v := .bool _) rfl) ?_
          refine tl_nil (.then_normal (.sub (F' := [(4, _)]) (.cons rfl .nil) (Jq2 _ _ _ _ ?_)))
          exact ⟨_, by
            constructor
            · intro ht
              first | (cases ht; done) | (simp at ht; exact ⟨⟨hk1, ots_eq hk2⟩, by omega, by omega⟩)
            · rintro ⟨⟨a1, a2⟩, a3, a4⟩
              first | exact absurd a1 hk1 | exact absurd (eq_ots a2) hk2 | (simp; omega) | omega, rfl, rfl, inferInstance, rfl⟩
      ·
        refine tl_skip rfl ?_
        refine tl_skip rfl ?_
        refine tl_skip rfl ?_
        refine tl_skip rfl ?_
        refine tl_y rfl (y_pickF rfl rfl) ?_
        refine tl_y rfl (y_move (v := .bool _) rfl) ?_
        refine tl_skip rfl ?_
        refine tl_skip rfl ?_
        refine tl_skip rfl ?_
        refine tl_skip rfl ?_
        refine tl_skip rfl ?_
        refine tl_skip rfl ?_
        refine tl_y rfl (y_pickF rfl rfl) ?_
        refine tl_y rfl (y_assign (v := .bool _) rfl) ?_
        refine tl_nil (.then_normal (.sub (F' := [(4, _)]) (.cons rfl .nil) (Jq2 _ _ _ _ ?_)))
        exact ⟨_, by
          constructor
          · intro ht
            first | (cases ht; done) | (simp at ht; exact ⟨⟨hk1, ots_eq hk2⟩, by omega, by omega⟩)
          · rintro ⟨⟨a1, a2⟩, a3, a4⟩
            first | exact absurd a1 hk1 | exact absurd (eq_ots a2) hk2 | (simp; omega) | omega, rfl, rfl, inferInstance, rfl⟩
    ·
      refine tl_skip rfl ?_
      refine tl_skip rfl ?_
      refine tl_skip rfl ?_
      refine tl_y rfl (y_pickF rfl rfl) ?_
      refine tl_y rfl (y_move (v := .bool _) rfl) ?_
      refine tl_skip rfl ?_
      refine tl_skip rfl ?_
      refine tl_skip rfl ?_
      refine tl_skip rfl ?_
      refine tl_y rfl (y_pickF rfl rfl) ?_
      refine tl_y rfl (y_move (v := .bool _) rfl) ?_
      refine tl_skip rfl ?_
      refine tl_skip rfl ?_
      refine tl_skip rfl ?_
      refine tl_skip rfl ?_
      refine tl_skip rfl ?_
      refine tl_skip rfl ?_
      refine tl_y rfl (y_pickF rfl rfl) ?_
      refine tl_y rfl (y_assign (v := .bool _) rfl) ?_
      refine tl_nil (.then_normal (.sub (F' := [(4, _)]) (.cons rfl .nil) (Jq2 _ _ _ _ ?_)))
      exact ⟨_, by
        constructor
        · intro ht
          first | (cases ht; done) | (simp at ht; exact ⟨⟨hk1, ots_eq hk2⟩, by omega, by omega⟩)
        · rintro ⟨⟨a1, a2⟩, a3, a4⟩
          first | exact absurd a1 hk1 | exact absurd (eq_ots a2) hk2 | (simp; omega) | omega, rfl, rfl, inferInstance, rfl⟩
theorem RoLight_spec (o : OtsV) :
    Con Tryz.prog 40 #[.agg (List.toArray o.cells)] G M L (fun v M' L' => M = M' ∧ L = L' ∧ v = .bool (decide (o.w ≤ 4 ∧ o.p ≤ 140))) noPanic := by
  refine enter (args := [_]) (fn := Tryz.f40) ⟨Tryz.func40, rfl, by kernel_rfl, by kernel_rfl⟩ 11 rfl ?_
  refine x_seq (x_region ?_)
  refine tl_e rfl (e_box rfl (fun b1 => ?_))
  refine tl_y rfl (y_assign rfl) ?_
  refine tl_nil (.then_normal ?_)
  refine x_seq (x_region ?_)
  refine tl_y rfl (y_fieldAddr rfl) ?_
  refine tl_y rfl (y_load rfl rfl (.own inferInstance inferInstance)) ?_
  refine tl_y rfl (y_leq rfl rfl) ?_
  refine tl_y rfl (y_move (v := .bool _) rfl) ?_
  refine tl_cases (s := 6) rfl (fun hk1 => ?_) (fun hk1 => ?_)
  ·
    refine tl_y rfl (y_fieldAddr rfl) ?_
    refine tl_y rfl (y_load rfl rfl (.own inferInstance inferInstance)) ?_
    refine tl_y rfl (y_leq rfl rfl) ?_
    refine tl_y rfl (y_pickT rfl rfl) ?_
    refine tl_y rfl (y_assign (v := .bool _) rfl) ?_
    refine tl_nil (.then_normal ?_)
    refine .sub (F' := [(2, _)]) (.cons rfl .nil) ?_
    refine x_ret (.dropTo L inferInstance (ret1 rfl rfl (Le.refl _) ⟨rfl, rfl, by congr 1; rw [decide_eq_decide]; exact ⟨fun h => ⟨hk1, h⟩, fun h => h.2⟩⟩))
  ·
    refine tl_skip rfl ?_
    refine tl_skip rfl ?_
    refine tl_skip rfl ?_
    refine tl_y rfl (y_pickF rfl rfl) ?_
    refine tl_y rfl (y_assign (v := .bool _) rfl) ?_
    refine tl_nil (.then_normal ?_)
    refine .sub (F' := [(2, _)]) (.cons rfl .nil) ?_
    refine x_ret (.dropTo L inferInstance (ret1 rfl rfl (Le.refl _) ⟨rfl, rfl, by rw [decide_eq_false (fun h => hk1 h.1)]⟩))
theorem Rotop_spec (o : OtsV) {n w p : Nat} (ho : OF o n w p) :
    Con Tryz.prog 161 #[.agg (List.toArray o.cells)] G M L (fun v M' L' => M = M' ∧ L = L' ∧ v = .int .i64 (topN o)) noPanic := by
  have hw2 := ho.w2
  have hw8 : w ≤ 8 := by rcases ho.isw with rfl | rfl | rfl | rfl <;> omega
  refine enter (args := [_]) (fn := Tryz.f161) ⟨Tryz.func161, rfl, by kernel_rfl, by kernel_rfl⟩ 15 rfl ?_
  refine x_seq (x_region ?_)
  refine tl_e rfl (e_box rfl (fun b1 => ?_))
  refine tl_y rfl (y_assign rfl) ?_
  refine tl_nil (.then_normal ?_)
  refine x_seq (x_region ?_)
  refine tl_y rfl (y_assign rfl) ?_
  refine tl_nil (.then_normal ?_)
  refine x_seq (x_seq (x_region ?_))
  refine tl_y rfl (y_assign rfl) ?_
  refine tl_nil (.then_normal ?_)
  refine x_block ?_
  refine x_loop (I := fun m' F D M1 L1 => ∃ k : Nat, m' = w - k ∧ k ≤ w ∧ D = [] ∧ M = M1 ∧ (b1, .cells (List.toArray o.cells) 27 (0, 0)) :: L = L1 ∧ F = [(1, .pointer (some ⟨b1, 0, none⟩)), (3, .int .i64 ((pw2 k : Nat) : Int)), (4, .int .i64 (k : Int))]) (w) (F0 := [(1, _), (3, _), (4, _)]) ?_ (.cons rfl (.cons rfl (.cons rfl .nil))) ?_  -- slots [1, 3, 4], written [3, 4]
  · exact ⟨0, rfl, by omega, rfl, rfl, rfl, rfl⟩
  rintro m _ _ _ _ ⟨k, rfl, hk, rfl, rfl, rfl, rfl⟩
  refine x_seq (x_seq (x_region ?_))
  refine tl_y rfl (y_move (v := .int _ _) rfl) ?_
  refine tl_y rfl (y_fieldAddr rfl) ?_
  refine tl_y rfl (y_load (v := .int .i64 (w : Int)) rfl rfl (by rw [← ho.hw]; exact .own inferInstance inferInstance)) ?_
  refine tl_y rfl (y_lss rfl rfl) ?_
  refine tl_nil (.then_normal ?_)
  refine x_cond rfl (fun hc1 => ?_) (fun hc1 => ?_)
  ·
    have hkw : k < w := by omega
    have hp := pw2_le (j := k) (k := w) (by omega)
    refine x_skip (.then_normal ?_)
    refine .sub (F' := [(1, _), (3, _), (4, _)]) (.cons rfl (.cons rfl (.cons rfl .nil))) ?_
    refine x_seq ?_
    refine x_block ?_
    refine x_region ?_
    refine tl_y rfl (y_move (v := .int _ _) rfl) ?_
    refine tl_y rfl (y_mulI rfl rfl (by omega)) ?_
    rw [pw2_succ]
    refine tl_y rfl (y_assign (v := .int _ _) rfl) ?_
    refine tl_nil (.block_normal (.then_normal ?_))
    refine x_region ?_
    refine tl_y rfl (y_move (v := .int _ _) rfl) ?_
    refine tl_y rfl (y_addI rfl rfl (by omega)) ?_
    refine tl_y rfl (y_assign (v := .int _ _) rfl) ?_
    refine tl_nil (.loop_next (m' := w - (k + 1)) (by omega) (F' := [(1, _), (3, _), (4, _)]) (.cons rfl (.cons rfl (.cons rfl .nil))) ?_)
    exact ⟨k + 1, rfl, by omega, rfl, rfl, rfl, rfl⟩
  ·
    obtain rfl : k = w := by omega
    refine x_exit (.then_exit (.loop_exit (.block_exit (.then_normal ?_))))
    refine .sub (F' := [(3, _)]) (.cons rfl .nil) ?_
    refine x_seq (x_region ?_)
    refine tl_y rfl (y_move (v := .int _ _) rfl) ?_
    refine tl_y rfl (y_subI rfl rfl (by omega)) ?_
    refine tl_y rfl (y_assign (v := .int _ _) rfl) ?_
    refine tl_nil (.then_normal ?_)
    refine x_ret (.dropTo L inferInstance (ret1 rfl rfl (Le.refl _) ⟨rfl, rfl, by rw [topN, ho.hw, Int.toNat_natCast]⟩))
theorem RoSecret_spec (o : OtsV) (hname : Bytes M NA nl nc name) (hsec : Bytes M SA sl sc sec) (q : UInt32) (d : Nat) (hd : d ≤ 65535) :
    Con Tryz.prog 80 #[.agg (List.toArray o.cells), .agg (List.toArray (seedC NA nl nc SA sl sc)), .int .u32 (q.toNat : Int), .int .u16 (d : Int)] G M L (fun v M' L' => L = L' ∧ ∃ A m c, v = .slice A m c ∧ Bytes M' A m c (if okY o nl sl then hidB o name sec q.toNat d else [])) noPanic := by
  have hn1 := hname.size
  have hn2 := hsec.size
  have hq := q.toNat_lt
  refine enter (args := [_, _, _, _]) (fn := Tryz.f80) ⟨Tryz.func80, rfl, by kernel_rfl, by kernel_rfl⟩ 33 rfl ?_
  refine x_seq (x_region ?_)
  refine tl_e rfl (e_box rfl (fun b1 => ?_))
  refine tl_e rfl (e_box rfl (fun b2 => ?_))
  refine tl_y rfl (y_assign rfl) ?_
  refine tl_nil (.then_normal ?_)
  refine x_seq (x_seq (x_region ?_))
  refine tl_y rfl (y_loadAgg rfl rfl (.own inferInstance inferInstance)) ?_
  refine tl_y rfl (y_loadAgg rfl rfl (.own inferInstance inferInstance)) ?_
  refine tl_e rfl (e_call' rfl (RoMay_spec o) ?_)
  rintro _ _ _ _ ⟨rfl, rfl, rfl⟩
  refine tl_y rfl (y_notd rfl) ?_
  refine tl_nil (.then_normal ?_)
  refine .sub (F' := [(2, _), (3, _), (4, _), (5, _), (13, _)]) (.cons rfl (.cons rfl (.cons rfl (.cons rfl (.cons rfl .nil))))) ?_
  refine x_cond rfl (fun hc1 => ?_) (fun hc1 => ?_)
  ·
    refine x_seq (x_region ?_)
    refine tl_y rfl (y_assign rfl) ?_
    refine tl_nil (.then_normal ?_)
    refine .sub (F' := [(8, _)]) (.cons rfl .nil) ?_
    refine x_ret (.then_ret (.dropTo L inferInstance (ret1 rfl rfl (Le.refl _) ⟨rfl, _, _, _, rfl, by rw [if_neg hc1]; exact Row.nil _ _⟩)))
  ·
    have hok : okY o nl sl := Classical.not_not.1 hc1
    obtain ⟨n, w, p, ho⟩ := okO_facts hok.1
    have hn32 := ho.n32
    have hn := ho.hn
    have hsl := hok.2.2
    have hnl := hok.2.1
    refine x_skip (.then_normal ?_)
    refine x_seq ?_
    have he : Le M M := Le.refl _
    refine x_draw 14 hmix rfl ?_
    refine to_p 0 rfl (by kernel_rfl) rfl (y_fieldAddr rfl) ?_
    refine to_y 1 rfl (by kernel_rfl) rfl (y_load rfl rfl (.own inferInstance inferInstance)) ?_
    refine to_p 2 rfl (by kernel_rfl) rfl (y_move (v := .int _ _) rfl) ?_
    refine to_p 3 rfl (by kernel_rfl) rfl (y_convN64 rfl (by omega)) ?_
    refine to_p 5 rfl (by kernel_rfl) rfl (y_move (v := .int _ _) rfl) ?_
    refine to_p 6 rfl (by kernel_rfl) rfl (y_convN64 rfl (by omega)) ?_
    refine to_p 9 rfl (by kernel_rfl) rfl (y_fieldAddr rfl) ?_
    refine to_y 10 rfl (by kernel_rfl) rfl (y_load rfl rfl (.own inferInstance inferInstance)) ?_
    refine to_two 4 8 (by kernel_rfl) ?_ ?_
    ·
      refine two_e 4 rfl rfl (e_call' rfl (RPutV_spec q.toNat 4 (by omega) (by omega)) ?_)
      rintro _ M2 _ hM2 ⟨rfl, A2, c2, rfl, hA2⟩
      replace he := he.trans hM2
      refine ⟨⟨(by first | exact Le.refl _ | assumption), Keeps.mem⟩, ?_⟩
      refine to_two 7 8 (by kernel_rfl) ?_ ?_
      ·
        refine two_e 7 rfl rfl (e_call' rfl (RPutV_spec d 2 (by omega) (by omega)) ?_)
        rintro _ M3 _ hM3 ⟨rfl, A3, c3, rfl, hA3⟩
        replace he := he.trans hM3
        refine ⟨⟨(by first | exact Le.refl _ | assumption), Keeps.mem⟩, ?_⟩
        refine to_e 8 rfl (by kernel_rfl) rfl (e_buildSlice rfl (by decide) (fun b7 => ?_))
        refine ⟨⟨he, Keeps.mem⟩, ?_⟩
        refine .pub b7 inferInstance (fun M4 hM4 hb7 => ?_)
        replace he := he.trans hM4
        refine to_e 11 rfl (by kernel_rfl) rfl (e_buildSlice rfl (by decide) (fun b8 => ?_))
        refine ⟨⟨he, Keeps.mem⟩, ?_⟩
        refine .pub b8 inferInstance (fun M5 hM5 hb8 => ?_)
        replace he := he.trans hM5
        have hA4 : Bytes M4 (some ⟨b7, 0, none⟩) 1 1 [255] := Row.whole hb7 rfl (by omega)
        have hA2' : Bytes M5 A2 4 c2 (putB q.toNat 4) := hA2.mono (by first | exact hM3.trans (hM4.trans hM5) | exact hM4.trans (hM3.trans hM5) | exact hM3.trans hM5)
        have hA3' : Bytes M5 A3 2 c3 (putB d 2) := hA3.mono (by first | exact hM4.trans hM5 | exact hM5 | exact hM2.trans (hM4.trans hM5) | exact hM2.trans hM5)
        have hA4' : Bytes M5 (some ⟨b7, 0, none⟩) 1 1 [255] := hA4.mono (by first | exact hM5 | exact hM3.trans hM5 | exact hM2.trans (hM3.trans hM5))
        have hfl : [name, putB q.toNat 4, putB d 2, [255], sec].flatten = name ++ (putB q.toNat 4 ++ (putB d 2 ++ (255 :: sec))) := by simp
        have hfll : (name ++ (putB q.toNat 4 ++ (putB d 2 ++ (255 :: sec)))).length = nl + 7 + sl := by rw [List.length_append, List.length_append, List.length_append, putB_length, putB_length, List.length_cons]; omega
        refine to_e 12 rfl (by kernel_rfl) rfl (e_call' rfl (RCat_own (Row.whole hb8 rfl (by omega)) (.cons (hname.mono he) (.cons hA2' (.cons hA3' (.cons hA4' (.cons (hsec.mono he) .nil))))) (by rw [hfl, hfll]; omega)) ?_)
        rintro _ _ _ _ ⟨rfl, A6, c6, E6, rfl, hE6, rfl⟩
        rw [hfl, hfll] at hE6
        rw [hfl, hfll]
        refine ⟨⟨he, Keeps.mem⟩, ?_⟩
        refine .pubRow hE6 (fun M6 hM6 hA6 => ?_)
        replace he := he.trans hM6
        refine to_p 13 rfl (by kernel_rfl) rfl (y_assign (v := .slice _ _ _) rfl) ?_
        refine to_nil (by kernel_rfl) (.then_normal ?_)
        refine .sub (F' := [(4, _), (9, _)]) (.cons rfl (.cons rfl .nil)) ?_
        refine x_seq (x_region ?_)
        refine tl_y rfl (y_fieldAddr rfl) ?_
        refine tl_y rfl (y_load rfl rfl (.own inferInstance inferInstance)) ?_
        refine tl_y rfl (y_fieldAddr rfl) ?_
        refine tl_y rfl (y_load rfl rfl (.own inferInstance inferInstance)) ?_
        refine tl_y rfl (y_move (v := .slice _ _ _) rfl) ?_
        refine tl_e rfl (e_call' rfl (RSum_spec o.kind o.n (Row.in_ hA6) (by omega)) ?_)
        rintro _ M7 _ hM7 ⟨rfl, A7, m7, c7, rfl, hA7⟩
        replace he := he.trans hM7
        refine tl_y rfl (y_assign (v := .slice _ _ _) rfl) ?_
        refine tl_nil (.then_normal ?_)
        refine .sub (F' := [(8, _)]) (.cons rfl .nil) ?_
        refine x_ret (.dropTo L inferInstance (ret1 rfl rfl he ⟨rfl, _, _, _, rfl, by rw [if_pos hok]; exact hA7⟩))
      ·
        refine two_e 8 rfl rfl (e_buildSlice rfl (by decide) (fun b7 => ?_))
        refine ⟨⟨he, Keeps.mem⟩, ?_⟩
        refine .pub b7 inferInstance (fun M4 hM4 hb7 => ?_)
        replace he := he.trans hM4
        refine to_e 7 rfl (by kernel_rfl) rfl (e_call' rfl (RPutV_spec d 2 (by omega) (by omega)) ?_)
        rintro _ M3 _ hM3 ⟨rfl, A3, c3, rfl, hA3⟩
        replace he := he.trans hM3
        refine ⟨⟨(by first | exact Le.refl _ | assumption), Keeps.mem⟩, ?_⟩
        refine to_e 11 rfl (by kernel_rfl) rfl (e_buildSlice rfl (by decide) (fun b8 => ?_))
        refine ⟨⟨he, Keeps.mem⟩, ?_⟩
        refine .pub b8 inferInstance (fun M5 hM5 hb8 => ?_)
        replace he := he.trans hM5
        have hA4 : Bytes M4 (some ⟨b7, 0, none⟩) 1 1 [255] := Row.whole hb7 rfl (by omega)
        have hA2' : Bytes M5 A2 4 c2 (putB q.toNat 4) := hA2.mono (by first | exact hM3.trans (hM4.trans hM5) | exact hM4.trans (hM3.trans hM5) | exact hM3.trans hM5)
        have hA3' : Bytes M5 A3 2 c3 (putB d 2) := hA3.mono (by first | exact hM4.trans hM5 | exact hM5 | exact hM2.trans (hM4.trans hM5) | exact hM2.trans hM5)
        have hA4' : Bytes M5 (some ⟨b7, 0, none⟩) 1 1 [255] := hA4.mono (by first | exact hM5 | exact hM3.trans hM5 | exact hM2.trans (hM3.trans hM5))
        have hfl : [name, putB q.toNat 4, putB d 2, [255], sec].flatten = name ++ (putB q.toNat 4 ++ (putB d 2 ++ (255 :: sec))) := by simp
        have hfll : (name ++ (putB q.toNat 4 ++ (putB d 2 ++ (255 :: sec)))).length = nl + 7 + sl := by rw [List.length_append, List.length_append, List.length_append, putB_length, putB_length, List.length_cons]; omega
        refine to_e 12 rfl (by kernel_rfl) rfl (e_call' rfl (RCat_own (Row.whole hb8 rfl (by omega)) (.cons (hname.mono he) (.cons hA2' (.cons hA3' (.cons hA4' (.cons (hsec.mono he) .nil))))) (by rw [hfl, hfll]; omega)) ?_)
        rintro _ _ _ _ ⟨rfl, A6, c6, E6, rfl, hE6, rfl⟩
        rw [hfl, hfll] at hE6
        rw [hfl, hfll]
        refine ⟨⟨he, Keeps.mem⟩, ?_⟩
        refine .pubRow hE6 (fun M6 hM6 hA6 => ?_)
        replace he := he.trans hM6
        refine to_p 13 rfl (by kernel_rfl) rfl (y_assign (v := .slice _ _ _) rfl) ?_
        refine to_nil (by kernel_rfl) (.then_normal ?_)
        refine .sub (F' := [(4, _), (9, _)]) (.cons rfl (.cons rfl .nil)) ?_
        refine x_seq (x_region ?_)
        refine tl_y rfl (y_fieldAddr rfl) ?_
        refine tl_y rfl (y_load rfl rfl (.own inferInstance inferInstance)) ?_
        refine tl_y rfl (y_fieldAddr rfl) ?_
        refine tl_y rfl (y_load rfl rfl (.own inferInstance inferInstance)) ?_
        refine tl_y rfl (y_move (v := .slice _ _ _) rfl) ?_
        refine tl_e rfl (e_call' rfl (RSum_spec o.kind o.n (Row.in_ hA6) (by omega)) ?_)
        rintro _ M7 _ hM7 ⟨rfl, A7, m7, c7, rfl, hA7⟩
        replace he := he.trans hM7
        refine tl_y rfl (y_assign (v := .slice _ _ _) rfl) ?_
        refine tl_nil (.then_normal ?_)
        refine .sub (F' := [(8, _)]) (.cons rfl .nil) ?_
        refine x_ret (.dropTo L inferInstance (ret1 rfl rfl he ⟨rfl, _, _, _, rfl, by rw [if_pos hok]; exact hA7⟩))
    ·
      refine two_e 8 rfl rfl (e_buildSlice rfl (by decide) (fun b7 => ?_))
      refine ⟨⟨he, Keeps.mem⟩, ?_⟩
      refine .pub b7 inferInstance (fun M4 hM4 hb7 => ?_)
      replace he := he.trans hM4
      refine to_e 4 rfl (by kernel_rfl) rfl (e_call' rfl (RPutV_spec q.toNat 4 (by omega) (by omega)) ?_)
      rintro _ M2 _ hM2 ⟨rfl, A2, c2, rfl, hA2⟩
      replace he := he.trans hM2
      refine ⟨⟨(by first | exact Le.refl _ | assumption), Keeps.mem⟩, ?_⟩
      refine to_e 7 rfl (by kernel_rfl) rfl (e_call' rfl (RPutV_spec d 2 (by omega) (by omega)) ?_)
      rintro _ M3 _ hM3 ⟨rfl, A3, c3, rfl, hA3⟩
      replace he := he.trans hM3
      refine ⟨⟨(by first | exact Le.refl _ | assumption), Keeps.mem⟩, ?_⟩
      refine to_e 11 rfl (by kernel_rfl) rfl (e_buildSlice rfl (by decide) (fun b8 => ?_))
      refine ⟨⟨he, Keeps.mem⟩, ?_⟩
      refine .pub b8 inferInstance (fun M5 hM5 hb8 => ?_)
      replace he := he.trans hM5
      have hA4 : Bytes M4 (some ⟨b7, 0, none⟩) 1 1 [255] := Row.whole hb7 rfl (by omega)
      have hA2' : Bytes M5 A2 4 c2 (putB q.toNat 4) := hA2.mono (by first | exact hM3.trans (hM4.trans hM5) | exact hM4.trans (hM3.trans hM5) | exact hM3.trans hM5)
      have hA3' : Bytes M5 A3 2 c3 (putB d 2) := hA3.mono (by first | exact hM4.trans hM5 | exact hM5 | exact hM2.trans (hM4.trans hM5) | exact hM2.trans hM5)
      have hA4' : Bytes M5 (some ⟨b7, 0, none⟩) 1 1 [255] := hA4.mono (by first | exact hM5 | exact hM3.trans hM5 | exact hM2.trans (hM3.trans hM5))
      have hfl : [name, putB q.toNat 4, putB d 2, [255], sec].flatten = name ++ (putB q.toNat 4 ++ (putB d 2 ++ (255 :: sec))) := by simp
      have hfll : (name ++ (putB q.toNat 4 ++ (putB d 2 ++ (255 :: sec)))).length = nl + 7 + sl := by rw [List.length_append, List.length_append, List.length_append, putB_length, putB_length, List.length_cons]; omega
      refine to_e 12 rfl (by kernel_rfl) rfl (e_call' rfl (RCat_own (Row.whole hb8 rfl (by omega)) (.cons (hname.mono he) (.cons hA2' (.cons hA3' (.cons hA4' (.cons (hsec.mono he) .nil))))) (by rw [hfl, hfll]; omega)) ?_)
      rintro _ _ _ _ ⟨rfl, A6, c6, E6, rfl, hE6, rfl⟩
      rw [hfl, hfll] at hE6
      rw [hfl, hfll]
      refine ⟨⟨he, Keeps.mem⟩, ?_⟩
      refine .pubRow hE6 (fun M6 hM6 hA6 => ?_)
      replace he := he.trans hM6
      refine to_p 13 rfl (by kernel_rfl) rfl (y_assign (v := .slice _ _ _) rfl) ?_
      refine to_nil (by kernel_rfl) (.then_normal ?_)
      refine .sub (F' := [(4, _), (9, _)]) (.cons rfl (.cons rfl .nil)) ?_
      refine x_seq (x_region ?_)
      refine tl_y rfl (y_fieldAddr rfl) ?_
      refine tl_y rfl (y_load rfl rfl (.own inferInstance inferInstance)) ?_
      refine tl_y rfl (y_fieldAddr rfl) ?_
      refine tl_y rfl (y_load rfl rfl (.own inferInstance inferInstance)) ?_
      refine tl_y rfl (y_move (v := .slice _ _ _) rfl) ?_
      refine tl_e rfl (e_call' rfl (RSum_spec o.kind o.n (Row.in_ hA6) (by omega)) ?_)
      rintro _ M7 _ hM7 ⟨rfl, A7, m7, c7, rfl, hA7⟩
      replace he := he.trans hM7
      refine tl_y rfl (y_assign (v := .slice _ _ _) rfl) ?_
      refine tl_nil (.then_normal ?_)
      refine .sub (F' := [(8, _)]) (.cons rfl .nil) ?_
      refine x_ret (.dropTo L inferInstance (ret1 rfl rfl he ⟨rfl, _, _, _, rfl, by rw [if_pos hok]; exact hA7⟩))
theorem RoKey_spec (o : OtsV) (hname : Bytes M NA nl nc name) (hsec : Bytes M SA sl sc sec) (q : UInt32) :
    Con Tryz.prog 149 #[.agg (List.toArray o.cells), .agg (List.toArray (seedC NA nl nc SA sl sc)), .int .u32 (q.toNat : Int)] G M L (fun v M' L' => L = L' ∧ ∃ A m c, v = .slice A m c ∧ Bytes M' A m c (if okY o nl sl then keyB o name sec q.toNat else [])) noPanic := by
  refine enter (args := [_, _, _]) (fn := Tryz.f149) ⟨Tryz.func149, rfl, by kernel_rfl, by kernel_rfl⟩ 44 rfl ?_
  refine x_seq (x_region ?_)
  refine tl_e rfl (e_box rfl (fun b1 => ?_))
  refine tl_e rfl (e_box rfl (fun b2 => ?_))
  refine tl_y rfl (y_assign rfl) ?_
  refine tl_nil (.then_normal ?_)
  refine x_seq (x_seq (x_region ?_))
  refine tl_y rfl (y_loadAgg rfl rfl (.own inferInstance inferInstance)) ?_
  refine tl_y rfl (y_loadAgg rfl rfl (.own inferInstance inferInstance)) ?_
  refine tl_e rfl (e_call' rfl (RoMay_spec o) ?_)
  rintro _ _ _ _ ⟨rfl, rfl, rfl⟩
  refine tl_y rfl (y_notd rfl) ?_
  refine tl_nil (.then_normal ?_)
  refine .sub (F' := [(2, _), (3, _), (4, _), (12, _)]) (.cons rfl (.cons rfl (.cons rfl (.cons rfl .nil)))) ?_
  refine x_cond rfl (fun hc1 => ?_) (fun hc1 => ?_)
  ·
    refine x_seq (x_region ?_)
    refine tl_y rfl (y_assign rfl) ?_
    refine tl_nil (.then_normal ?_)
    refine .sub (F' := [(6, _)]) (.cons rfl .nil) ?_
    refine x_ret (.then_ret (.dropTo L inferInstance (ret1 rfl rfl (Le.refl _) ⟨rfl, _, _, _, rfl, by rw [if_neg hc1]; exact Row.nil _ _⟩)))
  ·
    have hok : okY o nl sl := Classical.not_not.1 hc1
    obtain ⟨n, w, p, ho⟩ := okO_facts hok.1
    have hn32 := ho.n32
    have hn := ho.hn
    have hsl := hok.2.2
    have hnl := hok.2.1
    have hp2 := ho.p2
    refine x_skip (.then_normal ?_)
    refine x_seq (x_region ?_)
    refine tl_y rfl (y_assign rfl) ?_
    refine tl_nil (.then_normal ?_)
    refine x_seq (x_seq (x_region ?_))
    refine tl_y rfl (y_assign rfl) ?_
    refine tl_nil (.then_normal ?_)
    refine x_block ?_
    refine x_loop (I := fun m' F D M1 L1 => ∃ (i : Nat) (A : Option Addr) (m c : Nat) (E : Own), m' = p - i ∧ i ≤ p ∧ Le M M1 ∧ m = (catR (keyR o name sec q.toNat) i).length ∧ OwnRow 5 1 A m c ((catR (keyR o name sec q.toNat) i).map bv) E ∧ D = [] ∧ L1 = E ++ ((b2, .cells (List.toArray (seedC NA nl nc SA sl sc)) 49 (0, 0)) :: (b1, .cells (List.toArray o.cells) 27 (0, 0)) :: L) ∧ F = [(2, .int .u32 (q.toNat : Int)), (3, .pointer (some ⟨b1, 0, none⟩)), (4, .pointer (some ⟨b2, 0, none⟩)), (7, .slice A m c), (8, .int .i64 (i : Int))]) (p) (F0 := [(2, _), (3, _), (4, _), (7, _), (8, _)]) ?_ (.cons rfl (.cons rfl (.cons rfl (.cons rfl (.cons rfl .nil))))) ?_  -- slots [2, 3, 4, 7, 8], written [7, 8]
    · exact ⟨0, none, 0, 0, [], rfl, by omega, Le.refl _, rfl, .nil, rfl, rfl, rfl⟩
    rintro m _ _ M1 _ ⟨i, A, m, c, E, rfl, hi, hM1, hm, hE, rfl, rfl, rfl⟩
    have hle := catR_le (keyR_le o name sec q.toNat) i
    have hli := keyR_le o name sec q.toNat i
    refine x_seq (x_seq (x_region ?_))
    refine tl_y rfl (y_move (v := .int _ _) rfl) ?_
    refine tl_y rfl (y_fieldAddr rfl) ?_
    refine tl_y rfl (y_load (v := .int .i64 (p : Int)) rfl rfl (by rw [← ho.hp]; exact .own inferInstance inferInstance)) ?_
    refine tl_y rfl (y_lss rfl rfl) ?_
    refine tl_nil (.then_normal ?_)
    refine x_cond rfl (fun hc2 => ?_) (fun hc2 => ?_)
    ·
      refine x_skip (.then_normal ?_)
      refine .sub (F' := [(2, _), (3, _), (4, _), (7, _), (8, _)]) (.cons rfl (.cons rfl (.cons rfl (.cons rfl (.cons rfl .nil))))) ?_
      refine x_seq ?_
      refine x_block ?_
      have he : Le M1 M1 := Le.refl _
      have hip : i < p := by omega
      refine x_draw0 17 ([(b2, .cells (List.toArray (seedC NA nl nc SA sl sc)) 49 (0, 0)), (b1, .cells (List.toArray o.cells) 27 (0, 0))]) Keeps.mem hmix rfl ?_
      refine to_p 0 rfl (by kernel_rfl) rfl (y_move (v := .slice _ _ _) rfl) ?_
      refine to_y 1 rfl (by kernel_rfl) rfl (y_loadAgg rfl rfl (.own inferInstance inferInstance)) ?_
      refine to_p 2 rfl (by kernel_rfl) rfl (y_fieldAddr rfl) ?_
      refine to_y 3 rfl (by kernel_rfl) rfl (y_load rfl rfl (.own inferInstance inferInstance)) ?_
      refine to_p 4 rfl (by kernel_rfl) rfl (y_move (v := .int _ _) rfl) ?_
      refine to_p 5 rfl (by kernel_rfl) rfl (y_move (v := .int _ _) rfl) ?_
      refine to_y 6 rfl (by kernel_rfl) rfl (y_loadAgg rfl rfl (.own inferInstance inferInstance)) ?_
      refine to_y 8 rfl (by kernel_rfl) rfl (y_loadAgg rfl rfl (.own inferInstance inferInstance)) ?_
      refine to_y 9 rfl (by kernel_rfl) rfl (y_loadAgg rfl rfl (.own inferInstance inferInstance)) ?_
      refine to_p 10 rfl (by kernel_rfl) rfl (y_move (v := .int _ _) rfl) ?_
      refine to_p 11 rfl (by kernel_rfl) rfl (y_move (v := .int _ _) rfl) ?_
      refine to_p 12 rfl (by kernel_rfl) rfl (y_convE (b := (i : Int)) rfl (by rw [wrapU16]; omega)) ?_
      refine to_e 7 rfl (by kernel_rfl) rfl (e_call' rfl (Rotop_spec o ho) ?_)
      rintro _ _ _ _ ⟨rfl, rfl, rfl⟩
      refine ⟨⟨(by first | exact Le.refl _ | assumption), Keeps.mem⟩, ?_⟩
      refine to_e 13 rfl (by kernel_rfl) rfl (e_call' rfl (RoSecret_spec o (hname.mono hM1) (hsec.mono hM1) q i (by omega)) ?_)
      rintro _ M2 _ hM2 ⟨rfl, A2, m2, c2, rfl, hA2⟩
      rw [if_pos hok] at hA2
      replace he := he.trans hM2
      refine ⟨⟨(by first | exact Le.refl _ | assumption), Keeps.mem⟩, ?_⟩
      refine to_e 14 rfl (by kernel_rfl) rfl (e_call' rfl (RUp_spec9 sha_length o (hname.mono (hM1.trans he)) hA2 q i 0 (topN o)) ?_)
      rintro _ M3 _ hM3 ⟨rfl, A3, m3, c3, rfl, hA3⟩
      replace he := he.trans hM3
      have hm3 : (keyR o name sec q.toNat i).length = m3 := hA3.size
      refine ⟨⟨(by first | exact Le.refl _ | assumption), Keeps.mem⟩, ?_⟩
      refine to_e 15 rfl (by kernel_rfl) rfl (e_append (by decide) rfl rfl hE (.row hA3) (all_one_bv _) (by omega) (by omega) (fun A7 c7 E7 hE7 => ?_))
      rw [← List.map_append, show catR (keyR o name sec q.toNat) i ++ cUp o name q.toNat (i : Int) 0 (topN o) (hidB o name sec q.toNat i) = catR (keyR o name sec q.toNat) (i + 1) from (catR_succ _ _).symm] at hE7
      refine ⟨⟨(by first | exact Le.refl _ | assumption), Keeps.mem⟩, ?_⟩
      refine to_p 16 rfl (by kernel_rfl) rfl (y_assign (v := .slice _ _ _) rfl) ?_
      refine to_nil (by kernel_rfl) (.block_normal (.then_normal ?_))
      refine .sub (F' := [(2, _), (3, _), (4, _), (7, _), (8, _)]) (.cons rfl (.cons rfl (.cons rfl (.cons rfl (.cons rfl .nil))))) ?_
      refine x_region ?_
      refine tl_y rfl (y_move (v := .int _ _) rfl) ?_
      refine tl_y rfl (y_addI rfl rfl (by omega)) ?_
      refine tl_y rfl (y_assign (v := .int _ _) rfl) ?_
      refine tl_nil (.loop_next (m' := p - (i + 1)) (by omega) (F' := [(2, _), (3, _), (4, _), (7, _), (8, _)]) (.cons rfl (.cons rfl (.cons rfl (.cons rfl (.cons rfl .nil))))) ?_)
      exact ⟨i + 1, A7, m + m3, c7, E7, rfl, by omega, hM1.trans he, by rw [catR_succ, List.length_append]; omega, hE7, rfl, rfl, rfl⟩
    ·
      obtain rfl : i = p := by omega
      refine .pubRow hE (fun M4 hM4 hrow => ?_)
      have hd := hM1.trans hM4
      refine x_exit (.then_exit (.loop_exit (.block_exit (.then_normal ?_))))
      refine .sub (F' := [(2, _), (3, _), (4, _), (7, _)]) (.cons rfl (.cons rfl (.cons rfl (.cons rfl .nil)))) ?_
      refine x_seq (x_region ?_)
      refine tl_y rfl (y_fieldAddr rfl) ?_
      refine tl_y rfl (y_load rfl rfl (.own inferInstance inferInstance)) ?_
      refine tl_y rfl (y_fieldAddr rfl) ?_
      refine tl_y rfl (y_load rfl rfl (.own inferInstance inferInstance)) ?_
      refine tl_y rfl (y_fieldAddr rfl) ?_
      refine tl_y rfl (y_load rfl rfl (.own inferInstance inferInstance)) ?_
      refine tl_y rfl (y_move (v := .int _ _) rfl) ?_
      refine tl_y rfl (y_move (v := .slice _ _ _) rfl) ?_
      refine tl_e rfl (e_call' rfl (RPart_spec o.kind o.n (hname.mono hd) q 32896 (by omega) hrow (by omega)) ?_)
      rintro _ M5 _ hM5 ⟨rfl, A5, m5, c5, rfl, hA5⟩
      refine tl_y rfl (y_assign (v := .slice _ _ _) rfl) ?_
      refine tl_nil (.then_normal ?_)
      refine .sub (F' := [(6, _)]) (.cons rfl .nil) ?_
      refine x_ret (.dropTo L inferInstance (ret1 rfl rfl (hd.trans hM5) ⟨rfl, _, _, _, rfl, by rw [if_pos hok, keyB, ho.hp, Int.toNat_natCast]; exact hA5⟩))
end
end Go.Proofs.YtiimjodbaogjbaaGreatDoor
