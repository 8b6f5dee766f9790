/-
Contracts of functions, each proved by a walk through its code.
-/
import Derived.Test.YtiimjodbaogjbaaGreatDoorRef7Etc
import Derived.Test.YtiimjodbaogjbaaGreatDoorOctCutEtc
import Derived.Test.YtiimjodbaogjbaaGreatDoorRef8bEtc
set_option linter.unusedVariables false
set_option linter.unusedSimpArgs false
set_option linter.constructorNameAsVariable false
namespace Go.Proofs.YtiimjodbaogjbaaGreatDoor
open Go Go.Eng
section
variable {G : World} {M : Mem} {L : Own} {PA TA A : Option Addr} {pl pc tl tc m c : Nat} {pub text sig : List UInt8}
theorem RPair_spec {A : Option Addr} {m c : Nat} {bs : List UInt8} (h : Bytes M A m c bs) (hmb : m ≤ 1000000000000) :
    Con Tryz.prog 39 #[.slice A m c] G M L (fun v M' L' => M = M' ∧ L' = L ∧ v = .tuple #[.agg (List.toArray (pairX bs).cells), .int .i64 (pairE bs)]) noPanic := by
  have hm := h.size
  have hc := h.le
  refine enter (args := [_]) (fn := Tryz.f39) ⟨Tryz.func39, rfl, by kernel_rfl, by kernel_rfl⟩ 55 rfl ?_
  refine x_seq (x_region ?_)
  refine tl_e rfl (e_alloc (fun b1 => ?_))
  refine tl_y rfl (y_assign rfl) ?_
  refine tl_nil (.then_normal ?_)
  refine x_seq (x_seq (x_region ?_))
  refine tl_y rfl (y_move (v := .slice _ _ _) rfl) ?_
  refine tl_y rfl (y_len rfl) ?_
  refine tl_y rfl (y_lss rfl rfl) ?_
  refine tl_nil (.then_normal ?_)
  refine x_cond rfl (fun hc1 => ?_) (fun hc1 => ?_)
  ·
    refine x_seq (x_region ?_)
    refine tl_y rfl (y_build rfl) ?_
    refine tl_e rfl (e_store rfl rfl (by rfl) (by rfl) inferInstance inferInstance inferInstance ?_)
    refine tl_y rfl (y_assign rfl) ?_
    refine tl_nil (.then_normal ?_)
    refine .sub (F' := [(2, _), (3, _)]) (.cons rfl (.cons rfl .nil)) ?_
    refine x_ret (.then_ret (retRV (L' := L) (rv2 rfl (rc_cellAgg (by rfl) rfl (.own inferInstance inferInstance)) (rc_tmp (by rfl))) inferInstance (Le.refl _) (by
      have e : pairE bs = 2 := by rw [pairE, if_pos (by omega)]
      exact ⟨rfl, rfl, by rw [pairX, e]; rfl⟩)))
  ·
    have h8 : 8 ≤ m := by omega
    have hs4 : Bytes M (sl A 4 c 1) 4 (c - 4) ((bs.drop 4).take 4) := Bytes.sub h 4 8 (by omega) h8
    refine x_skip (.then_normal ?_)
    refine .sub (F' := [(0, _), (2, _)]) (.cons rfl (.cons rfl .nil)) ?_
    refine x_seq (x_region ?_)
    refine tl_y rfl (y_move (v := .slice _ _ _) rfl) ?_
    refine tl_y rfl (y_sliceH rfl rfl (by omega) (by omega)) ?_
    refine tl_e rfl (e_call' rfl (RGet_spec (Bytes.take h 4 (by omega)) (by omega)) ?_)
    rintro _ _ _ _ ⟨rfl, rfl, x, hx, rfl⟩
    have hgl := getB_lt (bs.take 4)
    rw [List.length_take, Nat.min_eq_left (by omega)] at hgl
    have hcv : ((pairC bs).t.toNat : Int) = (x.toNat : Int) := by rw [pairC, UInt32.toNat_ofNat', hx, Nat.mod_eq_of_lt (by omega)]
    refine tl_y rfl (y_move (v := .tuple _) rfl) ?_
    refine tl_y rfl (y_extract rfl) ?_
    refine tl_y rfl (y_extract rfl) ?_
    refine tl_y rfl (y_assign (v := .int _ _) rfl) ?_
    refine tl_y rfl (y_assign (v := .bool _) rfl) ?_
    refine tl_nil (.then_normal ?_)
    refine .sub (F' := [(0, _), (2, _), (4, _)]) (.cons rfl (.cons rfl (.cons rfl .nil))) ?_
    refine x_seq (x_region ?_)
    refine tl_y rfl (y_move (v := .slice _ _ _) rfl) ?_
    refine tl_y rfl (y_sliceLH rfl rfl rfl (by omega) (by omega)) ?_
    refine tl_e rfl (e_call' rfl (RGet_spec hs4 (by omega)) ?_)
    rintro _ _ _ _ ⟨rfl, rfl, y, hy, rfl⟩
    have hgl2 := getB_lt ((bs.drop 4).take 4)
    rw [List.length_take, List.length_drop, Nat.min_eq_left (by omega)] at hgl2
    have hcv2 : ((pairC bs).o.toNat : Int) = (y.toNat : Int) := by rw [pairC, UInt32.toNat_ofNat', hy, Nat.mod_eq_of_lt (by omega)]
    refine tl_y rfl (y_move (v := .tuple _) rfl) ?_
    refine tl_y rfl (y_extract rfl) ?_
    refine tl_y rfl (y_extract rfl) ?_
    refine tl_y rfl (y_assign (v := .int _ _) rfl) ?_
    refine tl_y rfl (y_assign (v := .bool _) rfl) ?_
    refine tl_nil (.then_normal ?_)
    refine .sub (F' := [(0, _), (2, _), (4, _), (6, _)]) (.cons rfl (.cons rfl (.cons rfl (.cons rfl .nil)))) ?_
    refine x_seq (x_region ?_)
    refine tl_y rfl (y_move (v := .int _ _) rfl) ?_
    refine tl_y rfl (y_convE (b := ((pairC bs).o.toNat : Int)) rfl (by rw [wrapU32, hcv2]; omega)) ?_
    refine tl_y rfl (y_move (v := .int _ _) rfl) ?_
    refine tl_y rfl (y_convE (b := ((pairC bs).t.toNat : Int)) rfl (by rw [wrapU32, hcv]; omega)) ?_
    refine tl_y rfl (y_build rfl) ?_
    refine tl_e rfl (e_alloc (fun b2 => ?_))
    refine tl_e rfl (e_store rfl rfl (by rfl) (by rfl) inferInstance inferInstance inferInstance ?_)
    refine tl_nil (.then_normal ?_)
    refine .sub (F' := [(0, _), (2, _), (8, _)]) (.cons rfl (.cons rfl (.cons rfl .nil))) ?_
    refine x_seq (x_region ?_)
    refine tl_y rfl (y_loadAgg rfl rfl (.own inferInstance inferInstance)) ?_
    refine tl_e rfl (e_call' rfl (RSets12_spec (pairC bs)) ?_)
    rintro _ _ _ _ ⟨rfl, rfl, rfl⟩
    refine tl_y rfl (y_move (v := .tuple _) rfl) ?_
    refine tl_y rfl (y_extract rfl) ?_
    refine tl_y rfl (y_extract rfl) ?_
    refine tl_y rfl (y_extract rfl) ?_
    refine tl_e rfl (e_alloc (fun b3 => ?_))
    refine tl_e rfl (e_alloc (fun b4 => ?_))
    refine tl_e rfl (e_store rfl rfl (by rfl) (by rfl) inferInstance inferInstance inferInstance ?_)
    refine tl_e rfl (e_store rfl rfl (by rfl) (by rfl) inferInstance inferInstance inferInstance ?_)
    refine tl_y rfl (y_assign (v := .bool _) rfl) ?_
    refine tl_nil (.then_normal ?_)
    refine .sub (F' := [(0, _), (2, _), (8, _), (11, _)]) (.cons rfl (.cons rfl (.cons rfl (.cons rfl .nil)))) ?_
    refine x_seq (x_seq (x_region ?_))
    refine tl_y rfl (y_move (v := .bool _) rfl) ?_
    refine tl_y rfl (y_notd rfl) ?_
    refine tl_nil (.then_normal ?_)
    refine x_cond rfl (fun hc2 => ?_) (fun hc2 => ?_)
    ·
      refine x_seq (x_region ?_)
      refine tl_y rfl (y_build rfl) ?_
      refine tl_e rfl (e_store rfl rfl (by rfl) (by rfl) inferInstance inferInstance inferInstance ?_)
      refine tl_y rfl (y_assign rfl) ?_
      refine tl_nil (.then_normal ?_)
      refine .sub (F' := [(2, _), (3, _)]) (.cons rfl (.cons rfl .nil)) ?_
      refine x_ret (.then_ret (retRV (L' := L) (rv2 rfl (rc_cellAgg (by rfl) rfl (.own inferInstance inferInstance)) (rc_tmp (by rfl))) inferInstance (Le.refl _) (by
        have e : pairE bs = 4 := by rw [pairE, if_neg (by omega), if_pos hc2]
        exact ⟨rfl, rfl, by rw [pairX, e]; rfl⟩)))
    ·
      have hok : okP (pairC bs) := Classical.not_not.1 hc2
      have hsz : szP (pairC bs) = pubN (pairC bs) := by rw [szP, if_pos hok]
      refine x_skip (.then_normal ?_)
      refine x_seq (x_region ?_)
      refine tl_y rfl (y_loadAgg rfl rfl (.own inferInstance inferInstance)) ?_
      refine tl_e rfl (e_call' rfl (RSizes_spec (pairC bs)) ?_)
      rintro _ _ _ _ ⟨rfl, rfl, rfl⟩
      rw [hsz]
      refine tl_y rfl (y_move (v := .tuple _) rfl) ?_
      refine tl_y rfl (y_extract rfl) ?_
      refine tl_y rfl (y_extract rfl) ?_
      refine tl_y rfl (y_assign (v := .int _ _) rfl) ?_
      refine tl_y rfl (y_assign (v := .int _ _) rfl) ?_
      refine tl_nil (.then_normal ?_)
      refine .sub (F' := [(0, _), (2, _), (8, _), (12, _)]) (.cons rfl (.cons rfl (.cons rfl (.cons rfl .nil)))) ?_
      refine x_seq (x_seq (x_region ?_))
      refine tl_y rfl (y_move (v := .slice _ _ _) rfl) ?_
      refine tl_y rfl (y_len rfl) ?_
      refine tl_y rfl (y_move (v := .int _ _) rfl) ?_
      refine tl_y rfl (y_neq rfl rfl) ?_
      refine tl_nil (.then_normal ?_)
      refine .sub (F' := [(2, _), (8, _), (52, _)]) (.cons rfl (.cons rfl (.cons rfl .nil))) ?_
      refine x_cond rfl (fun hc3 => ?_) (fun hc3 => ?_)
      ·
        refine x_seq (x_region ?_)
        refine tl_y rfl (y_build rfl) ?_
        refine tl_e rfl (e_store rfl rfl (by rfl) (by rfl) inferInstance inferInstance inferInstance ?_)
        refine tl_y rfl (y_assign rfl) ?_
        refine tl_nil (.then_normal ?_)
        refine x_ret (.then_ret (retRV (L' := L) (rv2 rfl (rc_cellAgg (by rfl) rfl (.own inferInstance inferInstance)) (rc_tmp (by rfl))) inferInstance (Le.refl _) (by
          have e : pairE bs = 5 := by rw [pairE, if_neg (by omega), if_neg hc2, if_pos (by omega)]
          exact ⟨rfl, rfl, by rw [pairX, e]; rfl⟩)))
      ·
        refine x_skip (.then_normal ?_)
        refine x_seq (x_region ?_)
        refine tl_y rfl (y_loadAgg rfl rfl (.own inferInstance inferInstance)) ?_
        refine tl_e rfl (e_store rfl rfl (by rfl) (by rfl) inferInstance inferInstance inferInstance ?_)
        refine tl_y rfl (y_assign rfl) ?_
        refine tl_nil (.then_normal ?_)
        refine x_ret (retRV (L' := L) (rv2 rfl (rc_cellAgg (by rfl) rfl (.own inferInstance inferInstance)) (rc_tmp (by rfl))) inferInstance (Le.refl _) (by
          have e : pairE bs = 0 := by rw [pairE, if_neg (by omega), if_neg hc2, if_neg (by omega)]
          exact ⟨rfl, rfl, by rw [pairX, e]; rfl⟩))
theorem RFits_lspec (hpub : Bytes M PA pl pc pub) (htext : Bytes M TA tl tc text) (hsig : Bytes M A m c sig) (hpb : pl ≤ 1000000000000) (hmb : m ≤ 1000000000000) :
    Con Tryz.prog 42 #[.slice PA pl pc, .slice TA tl tc, .slice A m c] G M L (fun v M' L' => L' = L ∧ v = .bool (decide (fitK pub tl text sig))) noPanic := by
  have hps := hpub.size
  have hpc := hpub.le
  have hms := hsig.size
  have hmc := hsig.le
  have hfalse : ¬ fitK pub tl text sig → (Value.bool false) = .bool (decide (fitK pub tl text sig)) := fun h => congrArg Value.bool (decide_eq_false h).symm
  refine enter (args := [_, _, _]) (fn := Tryz.f42) ⟨Tryz.func42, rfl, by kernel_rfl, by kernel_rfl⟩ 135 rfl ?_
  refine x_seq (x_region ?_)
  refine tl_y rfl (y_assign rfl) ?_
  refine tl_nil (.then_normal ?_)
  refine x_seq (x_region ?_)
  refine tl_y rfl (y_move (v := .slice _ _ _) rfl) ?_
  refine tl_e rfl (e_call' rfl (RPair_spec hpub hpb) ?_)
  rintro _ _ L _ ⟨rfl, rfl, rfl⟩
  refine tl_y rfl (y_move (v := .tuple _) rfl) ?_
  refine tl_y rfl (y_extract rfl) ?_
  refine tl_y rfl (y_extract rfl) ?_
  refine tl_e rfl (e_alloc (fun b1 => ?_))
  refine tl_e rfl (e_store rfl rfl (by rfl) (by rfl) inferInstance inferInstance inferInstance ?_)
  refine tl_y rfl (y_assign (v := .int _ _) rfl) ?_
  refine tl_nil (.then_normal ?_)
  refine .sub (F' := [(0, _), (1, _), (2, _), (7, _), (8, _)]) (.cons rfl (.cons rfl (.cons rfl (.cons rfl (.cons rfl .nil))))) ?_
  refine x_seq (x_seq (x_region ?_))
  refine tl_y rfl (y_move (v := .int _ _) rfl) ?_
  refine tl_y rfl (y_neq rfl rfl) ?_
  refine tl_y rfl (y_move (v := .bool _) rfl) ?_
  refine tl_cases (s := 30) rfl (fun hk1 => ?_) (fun hk1 => ?_)
  ·
    refine tl_skip rfl ?_
    refine tl_skip rfl ?_
    refine tl_skip rfl ?_
    refine tl_y rfl (y_pickT rfl rfl) ?_
    refine tl_nil (.then_normal ?_)
    refine .sub (F' := [(0, _), (1, _), (2, _), (7, _), (34, _)]) (.cons rfl (.cons rfl (.cons rfl (.cons rfl (.cons rfl .nil))))) ?_
    refine x_true rfl rfl ?_
    refine x_seq (x_region ?_)
    refine tl_y rfl (y_assign rfl) ?_
    refine tl_nil (.then_normal ?_)
    refine .sub (F' := [(6, _)]) (.cons rfl .nil) ?_
    refine x_ret (.then_ret (.dropTo L inferInstance (ret1 rfl rfl (Le.refl _) ⟨rfl, hfalse (fun h => hk1 h.1)⟩)))
  ·
    refine tl_y rfl (y_move (v := .slice _ _ _) rfl) ?_
    refine tl_y rfl (y_len rfl) ?_
    refine tl_y rfl (y_gtr rfl rfl) ?_
    refine tl_y rfl (y_pickF rfl rfl) ?_
    refine tl_nil (.then_normal ?_)
    refine .sub (F' := [(0, _), (1, _), (2, _), (7, _), (34, _)]) (.cons rfl (.cons rfl (.cons rfl (.cons rfl (.cons rfl .nil))))) ?_
    refine x_cond rfl (fun hc1 => ?_) (fun hc1 => ?_)
    ·
      refine x_seq (x_region ?_)
      refine tl_y rfl (y_assign rfl) ?_
      refine tl_nil (.then_normal ?_)
      refine .sub (F' := [(6, _)]) (.cons rfl .nil) ?_
      refine x_ret (.then_ret (.dropTo L inferInstance (ret1 rfl rfl (Le.refl _) ⟨rfl, hfalse (fun h => by
        have := h.2.1.2.2.2.1
        rw [staE, if_pos (.inr (by omega))] at this
        cases this)⟩)))
    ·
      have h0 : pairE pub = 0 := Classical.not_not.1 hk1
      have htl : tl ≤ 65536 := by omega
      obtain ⟨h8, hok, hlen⟩ := pairE_zero h0
      have hx0 : pairX pub = pairC pub := by rw [pairX, if_pos h0]
      rw [hx0]
      obtain ⟨x, hxe⟩ : ∃ x, x = pairC pub := ⟨_, rfl⟩
      rw [← hxe] at hok hlen ⊢
      obtain ⟨n, w, p, H, hx⟩ := okP_facts hok
      obtain ⟨z1, z2, z3, z4, z5⟩ := hx.sizes
      have hn32 := hx.o.n32
      have hnm : Bytes M (sl PA 8 pc 1) 16 (pc - 8) (nameP pub) := Bytes.sub hpub 8 24 (by omega) (by omega)
      have hsz : szS x = sigN x := by rw [szS, if_pos hok]
      have hp48 : Bytes M (sl PA 4 pc 1) 4 (pc - 4) ((pub.drop 4).take 4) := Bytes.sub hpub 4 8 (by omega) (by omega)
      have hp04 : Bytes M (sl PA 0 pc 1) 4 pc (pub.take 4) := Bytes.take hpub 4 (by omega)
      have ho4 : putB x.o.toNat 4 = (pub.drop 4).take 4 := by rw [hxe, pairC]; exact putB_get4 (by rw [List.length_take, List.length_drop]; omega)
      have ht4 : putB x.t.toNat 4 = pub.take 4 := by rw [hxe, pairC]; exact putB_get4 (by rw [List.length_take]; omega)
      have hfx : ∀ {tl' : Nat} {text' sig' : List UInt8}, fitK pub tl' text' sig' ↔ (fitL x tl' (nameP pub) text' sig' ∧ fitR x tl' (nameP pub) text' sig' = pub.drop 24) := by
        intro tl' text' sig'
        rw [fitK, ← hxe]
        exact ⟨fun h => h.2, fun h => ⟨h0, h⟩⟩
      refine x_skip (.then_normal ?_)
      refine x_seq (x_region ?_)
      refine tl_y rfl (y_loadAgg rfl rfl (.own inferInstance inferInstance)) ?_
      refine tl_e rfl (e_call' rfl (RSets12_spec x) ?_)
      rintro _ _ _ _ ⟨rfl, rfl, rfl⟩
      refine tl_y rfl (y_move (v := .tuple _) rfl) ?_
      refine tl_y rfl (y_extract rfl) ?_
      refine tl_y rfl (y_extract rfl) ?_
      refine tl_y rfl (y_extract rfl) ?_
      refine tl_e rfl (e_alloc (fun b2 => ?_))
      refine tl_e rfl (e_alloc (fun b3 => ?_))
      refine tl_e rfl (e_store rfl rfl (by rfl) (by rfl) inferInstance inferInstance inferInstance ?_)
      refine tl_e rfl (e_store rfl rfl (by rfl) (by rfl) inferInstance inferInstance inferInstance ?_)
      refine tl_y rfl (y_assign (v := .bool _) rfl) ?_
      refine tl_nil (.then_normal ?_)
      refine .sub (F' := [(0, _), (1, _), (2, _), (7, _), (9, _), (10, _)]) (.cons rfl (.cons rfl (.cons rfl (.cons rfl (.cons rfl (.cons rfl .nil)))))) ?_
      refine x_seq (x_region ?_)
      refine tl_y rfl (y_loadAgg rfl rfl (.own inferInstance inferInstance)) ?_
      refine tl_e rfl (e_call' rfl (RSizes_spec x) ?_)
      rintro _ _ _ _ ⟨rfl, rfl, rfl⟩
      rw [hsz]
      refine tl_y rfl (y_move (v := .tuple _) rfl) ?_
      refine tl_y rfl (y_extract rfl) ?_
      refine tl_y rfl (y_extract rfl) ?_
      refine tl_y rfl (y_assign (v := .int _ _) rfl) ?_
      refine tl_y rfl (y_assign (v := .int _ _) rfl) ?_
      refine tl_nil (.then_normal ?_)
      refine .sub (F' := [(0, _), (1, _), (2, _), (9, _), (10, _), (13, _)]) (.cons rfl (.cons rfl (.cons rfl (.cons rfl (.cons rfl (.cons rfl .nil)))))) ?_
      refine x_seq (x_seq (x_region ?_))
      refine tl_y rfl (y_move (v := .slice _ _ _) rfl) ?_
      refine tl_y rfl (y_len rfl) ?_
      refine tl_y rfl (y_move (v := .int _ _) rfl) ?_
      refine tl_y rfl (y_neq rfl rfl) ?_
      refine tl_nil (.then_normal ?_)
      refine .sub (F' := [(0, _), (1, _), (2, _), (9, _), (10, _), (49, _)]) (.cons rfl (.cons rfl (.cons rfl (.cons rfl (.cons rfl (.cons rfl .nil)))))) ?_
      refine x_cond rfl (fun hc2 => ?_) (fun hc2 => ?_)
      ·
        refine x_seq (x_region ?_)
        refine tl_y rfl (y_assign rfl) ?_
        refine tl_nil (.then_normal ?_)
        refine .sub (F' := [(6, _)]) (.cons rfl .nil) ?_
        refine x_ret (.then_ret (.dropTo L inferInstance (ret1 rfl rfl (Le.refl _) ⟨rfl, hfalse (fun h => by have := (hfx.1 h).1.1; omega)⟩)))
      ·
        have hml : m = sigN x := by omega
        obtain ⟨S, hS⟩ : ∃ S, S = sizeN (otsV x.o) := ⟨_, rfl⟩
        rw [← hS] at z2 z4 z5
        have h04 := Bytes.take hsig 4 (by omega)
        have h48 : Bytes M (sl A 4 c 1) 4 (c - 4) ((sig.drop 4).take 4) := Bytes.sub hsig 4 8 (by omega) (by omega)
        have ht48 : Bytes M (sl A (4 + S) c 1) 4 (c - (4 + S)) ((sig.drop (4 + S)).take 4) := by
          have := Bytes.sub hsig (4 + S) (4 + S + 4) (by omega) (by omega)
          rwa [show 4 + S + 4 - (4 + S) = 4 by omega] at this
        have hsg : Bytes M (sl A 4 c 1) S (c - 4) ((sig.drop 4).take S) := by
          have := Bytes.sub hsig 4 (4 + S) (by omega) (by omega)
          rwa [show 4 + S - 4 = S by omega] at this
        have hgl := getB_lt (sig.take 4)
        rw [List.length_take, Nat.min_eq_left (by omega)] at hgl
        obtain ⟨q, hq⟩ : ∃ q : UInt32, q.toNat = getB (sig.take 4) := ⟨UInt32.ofNat (getB (sig.take 4)), by rw [UInt32.toNat_ofNat', Nat.mod_eq_of_lt (by omega)]⟩
        have hfl : fitL x tl (nameP pub) text sig ↔ ((sig.drop 4).take 4 = (pub.drop 4).take 4 ∧ (sig.drop (4 + S)).take 4 = pub.take 4 ∧ staE 16 tl ((sig.drop 4).take S) = 0 ∧ climbE (treeV x.t) 16 q.toNat (fitWay x sig) = 0) := by
          rw [fitL, ho4, ht4, ← hS, hq]
          exact ⟨fun h => h.2, fun h => ⟨by omega, h⟩⟩
        refine x_skip (.then_normal ?_)
        refine x_seq (x_region ?_)
        refine tl_y rfl (y_loadAgg rfl rfl (.own inferInstance inferInstance)) ?_
        refine tl_e rfl (e_call' rfl (RoSizeW_spec (otsV x.o)) ?_)
        rintro _ _ _ _ ⟨rfl, rfl, rfl⟩
        rw [sizeW_of hx.o, ← hS]
        refine tl_y rfl (y_addI rfl rfl (by omega)) ?_
        refine tl_y rfl (y_assign (v := .int _ _) rfl) ?_
        refine tl_nil (.then_normal ?_)
        refine .sub (F' := [(0, _), (1, _), (2, _), (10, _), (14, _)]) (.cons rfl (.cons rfl (.cons rfl (.cons rfl (.cons rfl .nil))))) ?_
        refine x_seq (x_region ?_)
        refine tl_y rfl (y_move (v := .slice _ _ _) rfl) ?_
        refine tl_y rfl (y_sliceH rfl rfl (by omega) (by omega)) ?_
        refine tl_e rfl (e_call' rfl (RGet_spec h04 (by omega)) ?_)
        rintro _ _ _ _ ⟨rfl, rfl, y, hy, rfl⟩
        refine tl_y rfl (y_move (v := .tuple _) rfl) ?_
        refine tl_y rfl (y_extract rfl) ?_
        refine tl_y rfl (y_extract rfl) ?_
        refine tl_y rfl (y_assign (v := .int _ _) rfl) ?_
        refine tl_y rfl (y_assign (v := .bool _) rfl) ?_
        refine tl_nil (.then_normal ?_)
        refine .sub (F' := [(0, _), (1, _), (2, _), (10, _), (14, _), (15, _)]) (.cons rfl (.cons rfl (.cons rfl (.cons rfl (.cons rfl (.cons rfl .nil)))))) ?_
        refine x_seq (x_seq ?_)
        refine x_draw 17 hmix rfl ?_
        refine to_p 0 rfl (by kernel_rfl) rfl (y_move (v := .slice _ _ _) rfl) ?_
        refine to_p 1 rfl (by kernel_rfl) rfl (y_sliceLH rfl rfl rfl (by omega) (by omega)) ?_
        refine to_p 2 rfl (by kernel_rfl) rfl (y_move (v := .slice _ _ _) rfl) ?_
        refine to_p 3 rfl (by kernel_rfl) rfl (y_sliceLH rfl rfl rfl (by omega) (by omega)) ?_
        refine to_e 4 rfl (by kernel_rfl) rfl (e_call' rfl (same_spec h48 hp48) ?_)
        rintro _ _ _ _ ⟨rfl, rfl, rfl⟩
        refine ⟨⟨(by first | exact Le.refl _ | assumption), Keeps.mem⟩, ?_⟩
        refine to_p 5 rfl (by kernel_rfl) rfl (y_notd rfl) ?_
        refine to_p 6 rfl (by kernel_rfl) rfl (y_move (v := .bool _) rfl) ?_
        refine to_cases (s := 65) rfl (fun hk2 => ?_) (fun hk2 => ?_)
        ·
          refine to_skip 7 rfl (by kernel_rfl) rfl ?_
          refine to_skip 8 rfl (by kernel_rfl) rfl ?_
          refine to_skip 9 rfl (by kernel_rfl) rfl ?_
          refine to_skip 10 rfl (by kernel_rfl) rfl ?_
          refine to_skip 11 rfl (by kernel_rfl) rfl ?_
          refine to_skip 12 rfl (by kernel_rfl) rfl ?_
          refine to_skip 13 rfl (by kernel_rfl) rfl ?_
          refine to_skip 14 rfl (by kernel_rfl) rfl ?_
          refine to_skip 15 rfl (by kernel_rfl) rfl ?_
          refine to_p 16 rfl (by kernel_rfl) rfl (y_pickT rfl rfl) ?_
          refine to_nil (by kernel_rfl) (.then_normal ?_)
          refine .sub (F' := [(0, _), (1, _), (2, _), (10, _), (14, _), (15, _), (75, _)]) (.cons rfl (.cons rfl (.cons rfl (.cons rfl (.cons rfl (.cons rfl (.cons rfl .nil))))))) ?_
          refine x_true rfl rfl ?_
          refine x_seq (x_region ?_)
          refine tl_y rfl (y_assign rfl) ?_
          refine tl_nil (.then_normal ?_)
          refine .sub (F' := [(6, _)]) (.cons rfl .nil) ?_
          refine x_ret (.then_ret (.dropTo L inferInstance (ret1 rfl rfl (Le.refl _) ⟨rfl, hfalse (fun h => hk2 (hfl.1 (hfx.1 h).1).1)⟩)))
        ·
          refine to_p 7 rfl (by kernel_rfl) rfl (y_move (v := .slice _ _ _) rfl) ?_
          refine to_p 8 rfl (by kernel_rfl) rfl (y_move (v := .int _ _) rfl) ?_
          refine to_p 9 rfl (by kernel_rfl) rfl (y_move (v := .int _ _) rfl) ?_
          refine to_p 10 rfl (by kernel_rfl) rfl (y_addI rfl rfl (by omega)) ?_
          refine to_p 11 rfl (by kernel_rfl) rfl (y_sliceLH rfl rfl rfl (by omega) (by omega)) ?_
          rw [show ((4 : Int) + (S : Int)).toNat = 4 + S by omega, show ((4 : Int) + (S : Int) + 4).toNat - (4 + S) = 4 by omega]
          refine to_p 12 rfl (by kernel_rfl) rfl (y_move (v := .slice _ _ _) rfl) ?_
          refine to_p 13 rfl (by kernel_rfl) rfl (y_sliceH rfl rfl (by omega) (by omega)) ?_
          refine to_e 14 rfl (by kernel_rfl) rfl (e_call' rfl (same_spec ht48 hp04) ?_)
          rintro _ _ _ _ ⟨rfl, rfl, rfl⟩
          refine ⟨⟨(by first | exact Le.refl _ | assumption), Keeps.mem⟩, ?_⟩
          refine to_p 15 rfl (by kernel_rfl) rfl (y_notd rfl) ?_
          refine to_p 16 rfl (by kernel_rfl) rfl (y_pickF rfl rfl) ?_
          refine to_nil (by kernel_rfl) (.then_normal ?_)
          refine .sub (F' := [(0, _), (1, _), (2, _), (10, _), (14, _), (15, _), (75, _)]) (.cons rfl (.cons rfl (.cons rfl (.cons rfl (.cons rfl (.cons rfl (.cons rfl .nil))))))) ?_
          refine x_cond rfl (fun hc3 => ?_) (fun hc3 => ?_)
          ·
            refine x_seq (x_region ?_)
            refine tl_y rfl (y_assign rfl) ?_
            refine tl_nil (.then_normal ?_)
            refine .sub (F' := [(6, _)]) (.cons rfl .nil) ?_
            refine x_ret (.then_ret (.dropTo L inferInstance (ret1 rfl rfl (Le.refl _) ⟨rfl, hfalse (fun h => hc3 (hfl.1 (hfx.1 h).1).2.1)⟩)))
          ·
            refine x_skip (.then_normal ?_)
            refine x_seq ?_
            refine x_draw 14 hmix rfl ?_
            refine to_p 0 rfl (by kernel_rfl) rfl (y_move (v := .slice _ _ _) rfl) ?_
            refine to_p 1 rfl (by kernel_rfl) rfl (y_sliceLH rfl rfl rfl (by omega) (by omega)) ?_
            refine to_p 2 rfl (by kernel_rfl) rfl (y_move (v := .int _ _) rfl) ?_
            refine to_p 3 rfl (by kernel_rfl) rfl (y_convE (b := (q.toNat : Int)) rfl (by rw [wrapU32, hq]; omega)) ?_
            refine to_p 4 rfl (by kernel_rfl) rfl (y_move (v := .slice _ _ _) rfl) ?_
            refine to_p 5 rfl (by kernel_rfl) rfl (y_move (v := .slice _ _ _) rfl) ?_
            refine to_p 6 rfl (by kernel_rfl) rfl (y_move (v := .int _ _) rfl) ?_
            refine to_p 7 rfl (by kernel_rfl) rfl (y_sliceLH rfl rfl rfl (by omega) (by omega)) ?_
            rw [show ((4 : Int) + (S : Int)).toNat - (4 : Int).toNat = S by omega]
            refine to_e 8 rfl (by kernel_rfl) rfl (e_call' rfl (RoStands_spec hnm q htext hsg) ?_)
            rintro _ M4 _ hM4 ⟨rfl, A4, m4, c4, rfl, hA4⟩
            have hm4 := hA4.size
            have hm4' := staV_le (nl := 16) (tl := tl) (name := nameP pub) (q := q.toNat) (text := text) (sig := (sig.drop 4).take S)
            refine ⟨⟨(by first | exact Le.refl _ | assumption), Keeps.mem⟩, ?_⟩
            refine to_p 9 rfl (by kernel_rfl) rfl (y_move (v := .tuple _) rfl) ?_
            refine to_p 10 rfl (by kernel_rfl) rfl (y_extract rfl) ?_
            refine to_p 11 rfl (by kernel_rfl) rfl (y_extract rfl) ?_
            refine to_p 12 rfl (by kernel_rfl) rfl (y_assign (v := .slice _ _ _) rfl) ?_
            refine to_p 13 rfl (by kernel_rfl) rfl (y_assign (v := .int _ _) rfl) ?_
            refine to_nil (by kernel_rfl) (.then_normal ?_)
            refine .sub (F' := [(0, _), (2, _), (10, _), (14, _), (15, _), (17, _), (18, _)]) (.cons rfl (.cons rfl (.cons rfl (.cons rfl (.cons rfl (.cons rfl (.cons rfl .nil))))))) ?_
            refine x_seq (x_seq (x_region ?_))
            refine tl_y rfl (y_move (v := .int _ _) rfl) ?_
            refine tl_y rfl (y_neq rfl rfl) ?_
            refine tl_nil (.then_normal ?_)
            refine x_cond rfl (fun hc4 => ?_) (fun hc4 => ?_)
            ·
              refine x_seq (x_region ?_)
              refine tl_y rfl (y_assign rfl) ?_
              refine tl_nil (.then_normal ?_)
              refine .sub (F' := [(6, _)]) (.cons rfl .nil) ?_
              refine x_ret (.then_ret (.dropTo L inferInstance (ret1 rfl rfl hM4 ⟨rfl, hfalse (fun h => hc4 (hfl.1 (hfx.1 h).1).2.2.1)⟩)))
            ·
              have hst : staE 16 tl ((sig.drop 4).take S) = 0 := Classical.not_not.1 hc4
              refine x_skip (.then_normal ?_)
              refine x_seq (x_region ?_)
              refine tl_y rfl (y_assign rfl) ?_
              refine tl_nil (.then_normal ?_)
              refine x_seq (x_seq (x_region ?_))
              refine tl_y rfl (y_assign rfl) ?_
              refine tl_nil (.then_normal ?_)
              refine x_block ?_
              refine x_loop (I := fun m' F D M5 L5 => ∃ (i : Nat) (AW : Option Addr) (cW : Nat) (E : Own) (ws : List Value), m' = H - i ∧ i ≤ H ∧ Le M4 M5 ∧ OwnRow 35 1 AW i cW ws E ∧ BRows M5 ws (wayS sig (8 + S) n i) ∧ D = [] ∧ L5 = E ++ ((b3, .cells (List.toArray (treeV x.t).cells) 29 (0, 0)) :: (b2, .cells (List.toArray (otsV x.o).cells) 27 (0, 0)) :: (b1, .cells (List.toArray x.cells) 24 (0, 0)) :: L) ∧ F = [(0, .slice PA pl pc), (2, .slice A m c), (10, .pointer (some ⟨b3, 0, none⟩)), (14, .int .i64 (4 + (S : Int))), (15, .int .u64 (y.toNat : Int)), (17, .slice A4 m4 c4), (19, .slice AW i cW), (20, .int .i64 i)]) (H) (F0 := [(0, _), (2, _), (10, _), (14, _), (15, _), (17, _), (19, _), (20, _)]) ?_ (.cons rfl (.cons rfl (.cons rfl (.cons rfl (.cons rfl (.cons rfl (.cons rfl (.cons rfl .nil)))))))) ?_  -- slots [0, 2, 10, 14, 15, 17, 19, 20], written [19, 20]
              · exact ⟨0, none, 0, [], [], rfl, by omega, Le.refl _, .nil, .nil, rfl, rfl, rfl⟩
              rintro m _ _ M5 _ ⟨i, AW, cW, E, ws, rfl, hi, hM5, hE, hW, rfl, rfl, rfl⟩
              have hHb := hx.h2
              refine x_seq (x_seq (x_region ?_))
              refine tl_y rfl (y_move (v := .int _ _) rfl) ?_
              refine tl_y rfl (y_fieldAddr rfl) ?_
              refine tl_y rfl (y_load (v := .int .i64 (H : Int)) rfl rfl (by rw [← hx.th]; exact .own inferInstance inferInstance)) ?_
              refine tl_y rfl (y_lss rfl rfl) ?_
              refine tl_nil (.then_normal ?_)
              refine x_cond rfl (fun hc5 => ?_) (fun hc5 => ?_)
              ·
                have hiH : i < H := by omega
                have hin : i * n + n ≤ n * H := by
                  have := Nat.mul_le_mul_left n (show i + 1 ≤ H from hiH)
                  rw [Nat.mul_succ, Nat.mul_comm n i] at this
                  omega
                have hm1 : (i : Int) * (n : Int) = ((i * n : Nat) : Int) := by push_cast; rfl
                have hm2 : ((i : Int) + 1) * (n : Int) = ((i * n + n : Nat) : Int) := by rw [Int.add_mul, Int.one_mul, hm1]; push_cast; rfl
                have hsub := Bytes.sub (hsig.mono (hM4.trans hM5)) (8 + S + i * n) (8 + S + i * n + n) (by omega) (by omega)
                rw [show 8 + S + i * n + n - (8 + S + i * n) = n by omega] at hsub
                refine x_skip (.then_normal ?_)
                refine .sub (F' := [(0, _), (2, _), (10, _), (14, _), (15, _), (17, _), (19, _), (20, _)]) (.cons rfl (.cons rfl (.cons rfl (.cons rfl (.cons rfl (.cons rfl (.cons rfl (.cons rfl .nil)))))))) ?_
                refine x_seq ?_
                refine x_block ?_
                refine x_region ?_
                refine tl_y rfl (y_move (v := .slice _ _ _) rfl) ?_
                refine tl_y rfl (y_move (v := .slice _ _ _) rfl) ?_
                refine tl_y rfl (y_move (v := .int _ _) rfl) ?_
                refine tl_y rfl (y_addI rfl rfl (by omega)) ?_
                refine tl_y rfl (y_move (v := .int _ _) rfl) ?_
                refine tl_y rfl (y_fieldAddr rfl) ?_
                refine tl_y rfl (y_load (v := .int .i64 (n : Int)) rfl rfl (by rw [← hx.tn]; exact .own inferInstance inferInstance)) ?_
                refine tl_y rfl (y_mulI rfl rfl (by rw [hm1]; omega)) ?_
                rw [hm1]
                refine tl_y rfl (y_addI rfl rfl (by omega)) ?_
                refine tl_y rfl (y_move (v := .int _ _) rfl) ?_
                refine tl_y rfl (y_addI rfl rfl (by omega)) ?_
                refine tl_y rfl (y_move (v := .int _ _) rfl) ?_
                refine tl_y rfl (y_addI rfl rfl (by omega)) ?_
                refine tl_y rfl (y_fieldAddr rfl) ?_
                refine tl_y rfl (y_load (v := .int .i64 (n : Int)) rfl rfl (by rw [← hx.tn]; exact .own inferInstance inferInstance)) ?_
                refine tl_y rfl (y_mulI rfl rfl (by rw [hm2]; omega)) ?_
                rw [hm2]
                refine tl_y rfl (y_addI rfl rfl (by omega)) ?_
                refine tl_y rfl (y_sliceLH rfl rfl rfl (by omega) (by omega)) ?_
                rw [show ((4 : Int) + (S : Int) + 4 + ((i * n : Nat) : Int)).toNat = 8 + S + i * n by omega, show ((4 : Int) + (S : Int) + 4 + ((i * n + n : Nat) : Int)).toNat - (8 + S + i * n) = n by omega]
                refine tl_e rfl (e_buildSlice rfl (by decide) (fun b4 => ?_))
                refine .pub b4 inferInstance (fun M6 hM6 hb6 => ?_)
                refine tl_e rfl (e_append (by decide) rfl rfl hE (.row (Row.whole (s := 1) hb6 rfl (by omega))) rfl (by omega) (by omega) (fun A7 c7 E7 hE7 => ?_))
                refine tl_y rfl (y_assign (v := .slice _ _ _) rfl) ?_
                refine tl_nil (.block_normal (.then_normal ?_))
                refine .sub (F' := [(0, _), (2, _), (10, _), (14, _), (15, _), (17, _), (19, _), (20, _)]) (.cons rfl (.cons rfl (.cons rfl (.cons rfl (.cons rfl (.cons rfl (.cons rfl (.cons rfl .nil)))))))) ?_
                refine x_region ?_
                refine tl_y rfl (y_move (v := .int _ _) rfl) ?_
                refine tl_y rfl (y_addI rfl rfl (by omega)) ?_
                refine tl_y rfl (y_assign (v := .int _ _) rfl) ?_
                refine tl_nil (.loop_next (m' := H - (i + 1)) (by omega) (F' := [(0, _), (2, _), (10, _), (14, _), (15, _), (17, _), (19, _), (20, _)]) (.cons rfl (.cons rfl (.cons rfl (.cons rfl (.cons rfl (.cons rfl (.cons rfl (.cons rfl .nil)))))))) ?_)
                exact ⟨i + 1, A7, c7, E7, _, rfl, by omega, hM5.trans hM6, hE7, by rw [wayS_succ]; exact (hW.mono hM6).snoc (hsub.mono hM6), rfl, rfl, rfl⟩
              ·
                obtain rfl : i = H := by omega
                refine .pubRow hE (fun M6 hM6 hrow6 => ?_)
                have hd6 := hM4.trans (hM5.trans hM6)
                have hway : fitWay x sig = wayS sig (8 + S) n i := by rw [fitWay, hx.tn, hx.th, hS]; rfl
                have hkey : staV 16 tl (nameP pub) q.toNat text ((sig.drop 4).take S) = fitKey x tl (nameP pub) text sig := by rw [fitKey, hq, hS]
                refine x_exit (.then_exit (.loop_exit (.block_exit (.then_normal ?_))))
                refine .sub (F' := [(0, _), (10, _), (15, _), (17, _), (19, _)]) (.cons rfl (.cons rfl (.cons rfl (.cons rfl (.cons rfl .nil))))) ?_
                refine x_seq ?_
                refine x_draw 13 hmix rfl ?_
                refine to_y 0 rfl (by kernel_rfl) rfl (y_loadAgg rfl rfl (.own inferInstance inferInstance)) ?_
                refine to_p 1 rfl (by kernel_rfl) rfl (y_move (v := .slice _ _ _) rfl) ?_
                refine to_p 2 rfl (by kernel_rfl) rfl (y_sliceLH rfl rfl rfl (by omega) (by omega)) ?_
                refine to_p 3 rfl (by kernel_rfl) rfl (y_move (v := .int _ _) rfl) ?_
                refine to_p 4 rfl (by kernel_rfl) rfl (y_convE (b := (q.toNat : Int)) rfl (by rw [wrapU32, hq]; omega)) ?_
                refine to_p 5 rfl (by kernel_rfl) rfl (y_move (v := .slice _ _ _) rfl) ?_
                refine to_p 6 rfl (by kernel_rfl) rfl (y_move (v := .slice _ _ _) rfl) ?_
                refine to_e 7 rfl (by kernel_rfl) rfl (e_call' rfl (RClimb_spec (treeV x.t) (hnm.mono hd6) q (hA4.mono (hM5.trans hM6)) (by omega) hrow6 (hW.mono hM6)) ?_)
                rintro _ M7 _ hM7 ⟨rfl, A7, m7, c7, rfl, hA7⟩
                have hd7 := hd6.trans hM7
                rw [hkey, ← hway] at hA7
                rw [← hway]
                have hR : climbB (treeV x.t) (nameP pub) q.toNat (fitKey x tl (nameP pub) text sig) (fitWay x sig) = fitR x tl (nameP pub) text sig := by rw [fitR, hq]
                rw [hR] at hA7
                refine ⟨⟨(by first | exact Le.refl _ | assumption), Keeps.mem⟩, ?_⟩
                refine to_p 8 rfl (by kernel_rfl) rfl (y_move (v := .tuple _) rfl) ?_
                refine to_p 9 rfl (by kernel_rfl) rfl (y_extract rfl) ?_
                refine to_p 10 rfl (by kernel_rfl) rfl (y_extract rfl) ?_
                refine to_p 11 rfl (by kernel_rfl) rfl (y_assign (v := .slice _ _ _) rfl) ?_
                refine to_p 12 rfl (by kernel_rfl) rfl (y_assign (v := .int _ _) rfl) ?_
                refine to_nil (by kernel_rfl) (.then_normal ?_)
                refine .sub (F' := [(0, _), (21, _), (22, _)]) (.cons rfl (.cons rfl (.cons rfl .nil))) ?_
                refine x_seq (x_region ?_)
                refine tl_y rfl (y_move (v := .int _ _) rfl) ?_
                refine tl_y rfl (y_eql rfl rfl) ?_
                refine tl_y rfl (y_move (v := .bool _) rfl) ?_
                refine tl_cases (s := 129) rfl (fun hk3 => ?_) (fun hk3 => ?_)
                ·
                  refine tl_y rfl (y_move (v := .slice _ _ _) rfl) ?_
                  refine tl_y rfl (y_move (v := .slice _ _ _) rfl) ?_
                  refine tl_y rfl (y_sliceL rfl rfl (by omega)) ?_
                  refine tl_e rfl (e_call' rfl (same_spec hA7 (Bytes.drop (hpub.mono hd7) 24 (by omega))) ?_)
                  rintro _ _ _ _ ⟨rfl, rfl, rfl⟩
                  refine tl_y rfl (y_pickT rfl rfl) ?_
                  refine tl_y rfl (y_assign (v := .bool _) rfl) ?_
                  refine tl_nil (.then_normal ?_)
                  refine .sub (F' := [(6, _)]) (.cons rfl .nil) ?_
                  refine x_ret (.dropTo L inferInstance (ret1 rfl rfl hd7 ⟨rfl, by
                    congr 1
                    rw [decide_eq_decide, hfx, hfl]
                    exact ⟨fun h => ⟨⟨Classical.not_not.1 hk2, Classical.not_not.1 hc3, hst, hk3⟩, h⟩, fun h => h.2⟩⟩))
                ·
                  refine tl_skip rfl ?_
                  refine tl_skip rfl ?_
                  refine tl_skip rfl ?_
                  refine tl_skip rfl ?_
                  refine tl_y rfl (y_pickF rfl rfl) ?_
                  refine tl_y rfl (y_assign (v := .bool _) rfl) ?_
                  refine tl_nil (.then_normal ?_)
                  refine .sub (F' := [(6, _)]) (.cons rfl .nil) ?_
                  refine x_ret (.dropTo L inferInstance (ret1 rfl rfl hd7 ⟨rfl, hfalse (fun h => hk3 (hfl.1 (hfx.1 h).1).2.2.2)⟩))
end
end Go.Proofs.YtiimjodbaogjbaaGreatDoor
set_option linter.unusedVariables false
set_option linter.unusedSimpArgs false
set_option linter.constructorNameAsVariable false
namespace Go.Proofs.YtiimjodbaogjbaaGreatDoor
open Go Go.Eng
def p12 : PairV := ⟨7, 4026531846⟩
theorem f12 : okP p12 ∧ (treeV p12.t).h = 2 ∧ (otsV p12.o).n = 24 ∧ szP p12 = 48 ∧ szS p12 = 1308 ∧ takeE p12 1310 = 0 ∧ sigN p12 = 1308 := by decide +kernel
theorem f12b : ¬ okP ⟨3, 4026531846⟩ ∧ pairE [0, 0, 0, 5, 0, 0, 0, 3] = 5 ∧ mayC ⟨0, 0⟩ 0 0 = 4 ∧ ¬ okP ⟨3, 25⟩ ∧ okP ⟨3, 9⟩ := by decide +kernel
section
variable {G : World} {M : Mem} {L : Own}
theorem awake12_spec (hg : LmG M) : Con Tryz.prog 15 #[] G M L (fun v M' L' => L' = L ∧ v = .bool true) noPanic := by
  obtain ⟨fok, fh, fn, fz, fs, ft, fsn⟩ := f12
  obtain ⟨g1, g2, g3, g4, g5⟩ := f12b
  refine enter (args := []) (fn := Tryz.f15) ⟨Tryz.func15, rfl, by kernel_rfl, by kernel_rfl⟩ 88 rfl ?_
  refine x_seq (x_region ?_)
  refine tl_y rfl (y_assign rfl) ?_
  refine tl_nil (.then_normal ?_)
  refine x_seq (x_region ?_)
  refine tl_y rfl (y_build rfl) ?_
  refine tl_e rfl (e_call' rfl (Sizes_spec hg p12) ?_)
  rintro _ M1 L hM1 ⟨rfl, rfl⟩
  have hd := hM1
  rw [fz, fs]
  refine tl_y rfl (y_move (v := .tuple _) rfl) ?_
  refine tl_y rfl (y_extract rfl) ?_
  refine tl_y rfl (y_extract rfl) ?_
  refine tl_y rfl (y_assign (v := .int _ _) rfl) ?_
  refine tl_y rfl (y_assign (v := .int _ _) rfl) ?_
  refine tl_nil (.then_normal ?_)
  refine .sub (F' := [(1, _), (2, _)]) (.cons rfl (.cons rfl .nil)) ?_
  refine x_seq (x_region ?_)
  refine tl_y rfl (y_build rfl) ?_
  refine tl_e rfl (e_call' rfl (Sizes_spec (hg.mono hd) ⟨3, 4026531846⟩) ?_)
  rintro _ M2 L hM2 ⟨rfl, rfl⟩
  replace hd := hd.trans hM2
  rw [show szP ⟨3, 4026531846⟩ = 0 by rw [szP, if_neg g1], show szS ⟨3, 4026531846⟩ = 0 by rw [szS, if_neg g1]]
  refine tl_y rfl (y_move (v := .tuple _) rfl) ?_
  refine tl_y rfl (y_extract rfl) ?_
  refine tl_y rfl (y_extract rfl) ?_
  refine tl_y rfl (y_assign (v := .int _ _) rfl) ?_
  refine tl_y rfl (y_assign (v := .int _ _) rfl) ?_
  refine tl_nil (.then_normal ?_)
  refine .sub (F' := [(1, _), (2, _), (3, _), (4, _)]) (.cons rfl (.cons rfl (.cons rfl (.cons rfl .nil)))) ?_
  refine x_seq (x_region ?_)
  refine tl_e rfl (e_buildSlice rfl (by decide) (fun b1 => ?_))
  refine .pub b1 inferInstance (fun M3 hM3 hb1 => ?_)
  replace hd := hd.trans hM3
  refine tl_e rfl (e_call' rfl (Pair_spec (bs := [0, 0, 0, 5, 0, 0, 0, 3]) (hg.mono hd) (Row.whole hb1 rfl (by omega)) (by omega)) ?_)
  rintro _ M4 L hM4 ⟨rfl, rfl⟩
  replace hd := hd.trans hM4
  rw [g2]
  refine tl_y rfl (y_move (v := .tuple _) rfl) ?_
  refine tl_y rfl (y_extract rfl) ?_
  refine tl_y rfl (y_extract rfl) ?_
  refine tl_e rfl (e_alloc (fun b1 => ?_))
  refine tl_e rfl (e_store rfl rfl (by rfl) (by rfl) inferInstance inferInstance inferInstance ?_)
  refine tl_y rfl (y_assign (v := .int _ _) rfl) ?_
  refine tl_nil (.then_normal ?_)
  refine .sub (F' := [(1, _), (2, _), (3, _), (4, _), (6, _)]) (.cons rfl (.cons rfl (.cons rfl (.cons rfl (.cons rfl .nil))))) ?_
  refine x_seq (x_region ?_)
  refine tl_y rfl (y_build rfl) ?_
  refine tl_y rfl (y_build rfl) ?_
  refine tl_e rfl (e_call' rfl (Public_lspec (hg.mono hd) ⟨0, 0⟩ (name := []) (sec := []) (NA := none) (nl := 0) (nc := 0) (SA := none) (sl := 0) (sc := 0) (Row.nil _ _) (Row.nil _ _)) ?_)
  rintro _ M5 _ hM5 ⟨rfl, A5, m5, c5, rfl, hA5⟩
  replace hd := hd.trans hM5
  rw [g3]
  refine tl_y rfl (y_move (v := .tuple _) rfl) ?_
  refine tl_y rfl (y_extract rfl) ?_
  refine tl_y rfl (y_extract rfl) ?_
  refine tl_y rfl (y_assign (v := .slice _ _ _) rfl) ?_
  refine tl_y rfl (y_assign (v := .int _ _) rfl) ?_
  refine tl_nil (.then_normal ?_)
  refine .sub (F' := [(1, _), (2, _), (3, _), (4, _), (6, _), (8, _)]) (.cons rfl (.cons rfl (.cons rfl (.cons rfl (.cons rfl (.cons rfl .nil)))))) ?_
  refine x_seq (x_region ?_)
  refine tl_y rfl (y_build rfl) ?_
  refine tl_y rfl (y_move (v := .int _ _) rfl) ?_
  refine tl_y rfl (y_addI rfl rfl (by omega)) ?_
  refine tl_e rfl (e_make1 rfl rfl (by omega) (by omega) (by omega) (by omega) (fun b3 => ?_))
  rw [show (((1308 : Nat) : Int) + 2).toNat = 1310 from rfl]
  refine .pub b3 inferInstance (fun M6 hM6 hb3 => ?_)
  replace hd := hd.trans hM6
  have hz : Bytes M6 (some ⟨b3, 0, none⟩) 1310 1310 (List.replicate 1310 0) := Bytes.zeros hb3 (by omega)
  refine tl_e rfl (e_call' rfl (Take_spec (hg.mono hd) p12 hz (by omega)) ?_)
  rintro _ M7 _ hM7 ⟨rfl, A7, n7, c7, A8, n8, c8, rfl, hA7, hA8⟩
  replace hd := hd.trans hM7
  rw [if_pos ft, fsn] at hA7 hA8
  have hs7 := hA7.size
  have hs8 := hA8.size
  rw [List.length_take, List.length_replicate] at hs7
  rw [List.length_drop, List.length_replicate] at hs8
  obtain rfl : n7 = 1308 := by omega
  obtain rfl : n8 = 2 := by omega
  rw [ft]
  refine tl_y rfl (y_move (v := .tuple _) rfl) ?_
  refine tl_y rfl (y_extract rfl) ?_
  refine tl_y rfl (y_extract rfl) ?_
  refine tl_y rfl (y_extract rfl) ?_
  refine tl_y rfl (y_assign (v := .slice _ _ _) rfl) ?_
  refine tl_y rfl (y_assign (v := .slice _ _ _) rfl) ?_
  refine tl_y rfl (y_assign (v := .int _ _) rfl) ?_
  refine tl_nil (.then_normal ?_)
  refine .sub (F' := [(1, _), (2, _), (3, _), (4, _), (6, _), (8, _), (9, _), (10, _), (11, _)]) (.cons rfl (.cons rfl (.cons rfl (.cons rfl (.cons rfl (.cons rfl (.cons rfl (.cons rfl (.cons rfl .nil))))))))) ?_
  refine x_seq (x_region ?_)
  refine tl_y rfl (y_move (v := .int _ _) rfl) ?_
  refine tl_y rfl (y_eql rfl rfl) ?_
  refine tl_y rfl (y_move (v := .bool _) rfl) ?_
  refine tl_set (s := 44) (u := .bool true) rfl (rfl) ?_
  refine tl_y rfl (y_move (v := .int _ _) rfl) ?_
  refine tl_y rfl (y_eql rfl rfl) ?_
  refine tl_y rfl (y_pickT rfl rfl) ?_
  refine tl_y rfl (y_move (v := .bool _) rfl) ?_
  refine tl_set (s := 48) (u := .bool true) rfl (rfl) ?_
  refine tl_y rfl (y_move (v := .int _ _) rfl) ?_
  refine tl_y rfl (y_eql rfl rfl) ?_
  refine tl_y rfl (y_pickT rfl rfl) ?_
  refine tl_y rfl (y_move (v := .bool _) rfl) ?_
  refine tl_set (s := 52) (u := .bool true) rfl (rfl) ?_
  refine tl_y rfl (y_move (v := .int _ _) rfl) ?_
  refine tl_y rfl (y_eql rfl rfl) ?_
  refine tl_y rfl (y_pickT rfl rfl) ?_
  refine tl_y rfl (y_move (v := .bool _) rfl) ?_
  refine tl_set (s := 56) (u := .bool true) rfl (rfl) ?_
  refine tl_y rfl (y_move (v := .int _ _) rfl) ?_
  refine tl_y rfl (y_eql rfl rfl) ?_
  refine tl_y rfl (y_pickT rfl rfl) ?_
  refine tl_y rfl (y_move (v := .bool _) rfl) ?_
  refine tl_set (s := 60) (u := .bool true) rfl (rfl) ?_
  refine tl_y rfl (y_move (v := .int _ _) rfl) ?_
  refine tl_y rfl (y_eql rfl rfl) ?_
  refine tl_y rfl (y_pickT rfl rfl) ?_
  refine tl_y rfl (y_move (v := .bool _) rfl) ?_
  refine tl_set (s := 64) (u := .bool true) rfl (rfl) ?_
  refine tl_y rfl (y_move (v := .int _ _) rfl) ?_
  refine tl_y rfl (y_eql rfl rfl) ?_
  refine tl_y rfl (y_pickT rfl rfl) ?_
  refine tl_y rfl (y_move (v := .bool _) rfl) ?_
  refine tl_set (s := 68) (u := .bool true) rfl (rfl) ?_
  refine tl_y rfl (y_move (v := .slice _ _ _) rfl) ?_
  refine tl_y rfl (y_len rfl) ?_
  refine tl_y rfl (y_move (v := .int _ _) rfl) ?_
  refine tl_y rfl (y_eql rfl rfl) ?_
  refine tl_y rfl (y_pickT rfl rfl) ?_
  refine tl_y rfl (y_move (v := .bool _) rfl) ?_
  refine tl_set (s := 74) (u := .bool true) rfl (rfl) ?_
  refine tl_y rfl (y_move (v := .slice _ _ _) rfl) ?_
  refine tl_y rfl (y_len rfl) ?_
  refine tl_y rfl (y_eql rfl rfl) ?_
  refine tl_y rfl (y_pickT rfl rfl) ?_
  refine tl_y rfl (y_move (v := .bool _) rfl) ?_
  refine tl_set (s := 79) (u := .bool true) rfl (rfl) ?_
  refine tl_y rfl (y_build rfl) ?_
  refine tl_e rfl (e_call' rfl (lMay_spec (hg.mono hd).hs ⟨3, 25⟩) ?_)
  rintro _ M8 _ hM8 ⟨rfl, rfl⟩
  replace hd := hd.trans hM8
  rw [decide_eq_false g4]
  refine tl_y rfl (y_eqlBool rfl rfl) ?_
  refine tl_y rfl (y_pickT rfl rfl) ?_
  refine tl_y rfl (y_move (v := .bool _) rfl) ?_
  refine tl_set (s := 84) (u := .bool true) rfl (rfl) ?_
  refine tl_y rfl (y_build rfl) ?_
  refine tl_e rfl (e_call' rfl (lMay_spec (hg.mono hd).hs ⟨3, 9⟩) ?_)
  rintro _ M9 _ hM9 ⟨rfl, rfl⟩
  replace hd := hd.trans hM9
  rw [decide_eq_true g5]
  refine tl_y rfl (y_pickT rfl rfl) ?_
  refine tl_y rfl (y_assign (v := .bool _) rfl) ?_
  refine tl_nil (.then_normal ?_)
  refine .sub (F' := [(0, _)]) (.cons rfl .nil) ?_
  refine x_ret (.dropTo L inferInstance (ret1 rfl rfl hd ⟨rfl, rfl⟩))
end
end Go.Proofs.YtiimjodbaogjbaaGreatDoor
set_option linter.unusedVariables false
set_option linter.unusedSimpArgs false
set_option linter.constructorNameAsVariable false
namespace Go.Proofs.YtiimjodbaogjbaaGreatDoor
open Go Go.Eng
section
variable {G : World} {M : Mem} {L : Own} {PA TA A : Option Addr} {pl pc tl tc m c : Nat} {pub text sig : List UInt8}
theorem takeE_zero {x : PairV} {bl : Nat} (h : takeE x bl = 0) : okP x ∧ sigN x ≤ bl := by
  unfold takeE at h
  split at h
  · cases h
  · rename_i h1
    split at h
    · cases h
    · exact ⟨Classical.not_not.1 h1, by omega⟩
theorem LmsFits_spec (hg : LmG M) (hpub : Bytes M PA pl pc pub) (htext : Bytes M TA tl tc text) (hsig : Bytes M A m c sig) :
    Con Tryz.prog 7 #[.slice PA pl pc, .slice TA tl tc, .slice A m c] G M L (fun v M' L' => v = .bool true) noPanic := by
  have hms := hsig.size
  have hmc := hsig.le
  refine enter (args := [_, _, _]) (fn := Tryz.f7) ⟨Tryz.func7, rfl, by kernel_rfl, by kernel_rfl⟩ 129 rfl ?_
  refine x_seq (x_region ?_)
  refine tl_y rfl (y_assign rfl) ?_
  refine tl_nil (.then_normal ?_)
  refine x_seq (x_seq (x_region ?_))
  refine tl_e rfl (e_call' rfl (awake12_spec hg) ?_)
  rintro _ M1 L hM1 ⟨rfl, rfl⟩
  have hd := hM1
  refine tl_y rfl (y_not rfl) ?_
  refine tl_nil (.then_normal ?_)
  refine x_false rfl (rfl) ?_
  refine x_skip (.then_normal ?_)
  refine x_seq (x_seq (x_region ?_))
  refine tl_y rfl (y_move (v := .slice _ _ _) rfl) ?_
  refine tl_y rfl (y_len rfl) ?_
  refine tl_y rfl (y_gtr rfl rfl) ?_
  refine tl_y rfl (y_move (v := .bool _) rfl) ?_
  refine tl_cases (s := 25) rfl (fun hk1 => ?_) (fun hk1 => ?_)
  ·
    refine tl_skip rfl ?_
    refine tl_skip rfl ?_
    refine tl_skip rfl ?_
    refine tl_y rfl (y_pickT rfl rfl) ?_
    refine tl_y rfl (y_move (v := .bool _) rfl) ?_
    refine tl_skip rfl ?_
    refine tl_skip rfl ?_
    refine tl_skip rfl ?_
    refine tl_y rfl (y_pickT rfl rfl) ?_
    refine tl_nil (.then_normal ?_)
    refine .sub (F' := [(0, _), (1, _), (2, _), (34, _)]) (.cons rfl (.cons rfl (.cons rfl (.cons rfl .nil)))) ?_
    refine x_true rfl rfl ?_
    refine x_seq (x_region ?_)
    refine tl_y rfl (y_assign rfl) ?_
    refine tl_nil (.then_normal ?_)
    refine .sub (F' := [(6, _)]) (.cons rfl .nil) ?_
    refine x_ret (.then_ret (ret1 rfl rfl hd rfl))
  ·
    refine tl_y rfl (y_move (v := .slice _ _ _) rfl) ?_
    refine tl_y rfl (y_len rfl) ?_
    refine tl_y rfl (y_gtr rfl rfl) ?_
    refine tl_y rfl (y_pickF rfl rfl) ?_
    refine tl_y rfl (y_move (v := .bool _) rfl) ?_
    refine tl_cases (s := 30) rfl (fun hk2 => ?_) (fun hk2 => ?_)
    ·
      refine tl_skip rfl ?_
      refine tl_skip rfl ?_
      refine tl_skip rfl ?_
      refine tl_y rfl (y_pickT rfl rfl) ?_
      refine tl_nil (.then_normal ?_)
      refine .sub (F' := [(0, _), (1, _), (2, _), (34, _)]) (.cons rfl (.cons rfl (.cons rfl (.cons rfl .nil)))) ?_
      refine x_true rfl rfl ?_
      refine x_seq (x_region ?_)
      refine tl_y rfl (y_assign rfl) ?_
      refine tl_nil (.then_normal ?_)
      refine .sub (F' := [(6, _)]) (.cons rfl .nil) ?_
      refine x_ret (.then_ret (ret1 rfl rfl hd rfl))
    ·
      refine tl_y rfl (y_move (v := .slice _ _ _) rfl) ?_
      refine tl_y rfl (y_len rfl) ?_
      refine tl_y rfl (y_gtr rfl rfl) ?_
      refine tl_y rfl (y_pickF rfl rfl) ?_
      refine tl_nil (.then_normal ?_)
      refine .sub (F' := [(0, _), (1, _), (2, _), (34, _)]) (.cons rfl (.cons rfl (.cons rfl (.cons rfl .nil)))) ?_
      refine x_cond rfl (fun hc2 => ?_) (fun hc2 => ?_)
      ·
        refine x_seq (x_region ?_)
        refine tl_y rfl (y_assign rfl) ?_
        refine tl_nil (.then_normal ?_)
        refine .sub (F' := [(6, _)]) (.cons rfl .nil) ?_
        refine x_ret (.then_ret (ret1 rfl rfl hd rfl))
      ·
        refine x_skip (.then_normal ?_)
        refine x_seq (x_region ?_)
        refine tl_y rfl (y_move (v := .slice _ _ _) rfl) ?_
        refine tl_e rfl (e_call' rfl (Pair_spec (hg.mono hd) (hpub.mono hd) (by omega)) ?_)
        rintro _ M2 L hM2 ⟨rfl, rfl⟩
        replace hd := hd.trans hM2
        refine tl_y rfl (y_move (v := .tuple _) rfl) ?_
        refine tl_y rfl (y_extract rfl) ?_
        refine tl_y rfl (y_extract rfl) ?_
        refine tl_e rfl (e_alloc (fun b1 => ?_))
        refine tl_e rfl (e_store rfl rfl (by rfl) (by rfl) inferInstance inferInstance inferInstance ?_)
        refine tl_y rfl (y_assign (v := .int _ _) rfl) ?_
        refine tl_nil (.then_normal ?_)
        refine .sub (F' := [(0, _), (1, _), (2, _), (7, _), (8, _)]) (.cons rfl (.cons rfl (.cons rfl (.cons rfl (.cons rfl .nil))))) ?_
        refine x_seq (x_region ?_)
        refine tl_y rfl (y_move (v := .slice _ _ _) rfl) ?_
        refine tl_e rfl (e_call' rfl (RPair_spec (hpub.mono hd) (by omega)) ?_)
        rintro _ _ _ _ ⟨rfl, rfl, rfl⟩
        obtain ⟨x, hx⟩ : ∃ x, x = pairX pub := ⟨_, rfl⟩
        rw [← hx]
        refine tl_y rfl (y_move (v := .tuple _) rfl) ?_
        refine tl_y rfl (y_extract rfl) ?_
        refine tl_y rfl (y_extract rfl) ?_
        refine tl_e rfl (e_alloc (fun b2 => ?_))
        refine tl_e rfl (e_store rfl rfl (by rfl) (by rfl) inferInstance inferInstance inferInstance ?_)
        refine tl_y rfl (y_assign (v := .int _ _) rfl) ?_
        refine tl_nil (.then_normal ?_)
        refine .sub (F' := [(0, _), (1, _), (2, _), (7, _), (8, _), (9, _), (10, _)]) (.cons rfl (.cons rfl (.cons rfl (.cons rfl (.cons rfl (.cons rfl (.cons rfl .nil))))))) ?_
        refine x_seq (x_seq (x_region ?_))
        refine tl_y rfl (y_loadAgg rfl rfl (.own inferInstance inferInstance)) ?_
        refine tl_y rfl (y_loadAgg rfl rfl (.own inferInstance inferInstance)) ?_
        refine tl_y rfl (y_neqS rfl rfl eqs24) ?_
        refine tl_y rfl (y_move (v := .bool _) rfl) ?_
        refine tl_set (s := 48) (u := .bool false) rfl (by simp) ?_
        refine tl_y rfl (y_move (v := .int _ _) rfl) ?_
        refine tl_y rfl (y_move (v := .int _ _) rfl) ?_
        refine tl_y rfl (y_neq rfl rfl) ?_
        refine tl_y rfl (y_pickF rfl rfl) ?_
        refine tl_nil (.then_normal ?_)
        refine .sub (F' := [(0, _), (1, _), (2, _), (7, _), (9, _), (52, _)]) (.cons rfl (.cons rfl (.cons rfl (.cons rfl (.cons rfl (.cons rfl .nil)))))) ?_
        refine x_false rfl (decide_eq_false (fun h => h rfl)) ?_
        refine x_skip (.then_normal ?_)
        refine x_seq (x_region ?_)
        refine tl_y rfl (y_loadAgg rfl rfl (.own inferInstance inferInstance)) ?_
        refine tl_e rfl (e_call' rfl (RSets12_spec x) ?_)
        rintro _ _ _ _ ⟨rfl, rfl, rfl⟩
        refine tl_y rfl (y_move (v := .tuple _) rfl) ?_
        refine tl_y rfl (y_extract rfl) ?_
        refine tl_y rfl (y_extract rfl) ?_
        refine tl_y rfl (y_extract rfl) ?_
        refine tl_e rfl (e_alloc (fun b3 => ?_))
        refine tl_e rfl (e_alloc (fun b4 => ?_))
        refine tl_e rfl (e_store rfl rfl (by rfl) (by rfl) inferInstance inferInstance inferInstance ?_)
        refine tl_e rfl (e_store rfl rfl (by rfl) (by rfl) inferInstance inferInstance inferInstance ?_)
        refine tl_y rfl (y_assign (v := .bool _) rfl) ?_
        refine tl_nil (.then_normal ?_)
        refine .sub (F' := [(0, _), (1, _), (2, _), (7, _), (9, _), (11, _), (13, _)]) (.cons rfl (.cons rfl (.cons rfl (.cons rfl (.cons rfl (.cons rfl (.cons rfl .nil))))))) ?_
        refine x_seq ?_
        refine x_join (I := fun F D M3 L3 => ∃ bb : Bool, D = [] ∧ M2 = M3 ∧ DropTo L3 ((b2, .cells (List.toArray x.cells) 24 (0, 0)) :: (b1, .cells (List.toArray x.cells) 24 (0, 0)) :: L) ∧ F = [(0, .slice PA pl pc), (1, .slice TA tl tc), (2, .slice A m c), (7, .pointer (some ⟨b1, 0, none⟩)), (9, .pointer (some ⟨b2, 0, none⟩)), (13, .bool (decide (okP x))), (64, .bool bb)]) ?_ (fun Jq10 => ?_)
        ·
          rintro _ _ _ L3 ⟨bb, rfl, rfl, hdr, rfl⟩  -- slots [0, 1, 2, 7, 9, 13, 64]
          refine x_condb rfl (fun hc4 => ?_) (fun hc4 => ?_)
          ·
            refine x_seq (x_region ?_)
            refine tl_y rfl (y_assign rfl) ?_
            refine tl_nil (.then_normal ?_)
            refine .sub (F' := [(6, _)]) (.cons rfl .nil) ?_
            refine x_ret (.then_ret (ret1 rfl rfl hd rfl))
          ·
            refine x_skip (.then_normal ?_)
            refine x_seq (x_region ?_)
            refine .dropTo _ hdr ?_
            refine tl_y rfl (y_loadAgg rfl rfl (.own inferInstance inferInstance)) ?_
            refine tl_e rfl (e_call' rfl (RSizes_spec x) ?_)
            rintro _ _ _ _ ⟨rfl, rfl, rfl⟩
            refine tl_y rfl (y_move (v := .tuple _) rfl) ?_
            refine tl_y rfl (y_extract rfl) ?_
            refine tl_y rfl (y_extract rfl) ?_
            refine tl_y rfl (y_assign (v := .int _ _) rfl) ?_
            refine tl_y rfl (y_assign (v := .int _ _) rfl) ?_
            refine tl_nil (.then_normal ?_)
            refine .sub (F' := [(0, _), (1, _), (2, _), (7, _), (13, _), (15, _)]) (.cons rfl (.cons rfl (.cons rfl (.cons rfl (.cons rfl (.cons rfl .nil)))))) ?_
            refine x_seq (x_region ?_)
            refine tl_y rfl (y_loadAgg rfl rfl (.own inferInstance inferInstance)) ?_
            refine tl_y rfl (y_move (v := .slice _ _ _) rfl) ?_
            refine tl_e rfl (e_call' rfl (Take_spec (hg.mono hd) x (hsig.mono hd) (by omega)) ?_)
            rintro _ M4 _ hM4 ⟨rfl, A4, n4, c4, A5, n5, c5, rfl, hA4, hA5⟩
            replace hd := hd.trans hM4
            have hs4 := hA4.size
            have hs5 := hA5.size
            refine tl_y rfl (y_move (v := .tuple _) rfl) ?_
            refine tl_y rfl (y_extract rfl) ?_
            refine tl_y rfl (y_extract rfl) ?_
            refine tl_y rfl (y_extract rfl) ?_
            refine tl_y rfl (y_assign (v := .slice _ _ _) rfl) ?_
            refine tl_y rfl (y_assign (v := .slice _ _ _) rfl) ?_
            refine tl_y rfl (y_assign (v := .int _ _) rfl) ?_
            refine tl_nil (.then_normal ?_)
            refine .sub (F' := [(0, _), (1, _), (2, _), (13, _), (15, _), (16, _), (17, _), (18, _)]) (.cons rfl (.cons rfl (.cons rfl (.cons rfl (.cons rfl (.cons rfl (.cons rfl (.cons rfl .nil)))))))) ?_
            refine x_seq (x_region ?_)
            refine tl_y rfl (y_assign rfl) ?_
            refine tl_nil (.then_normal ?_)
            refine x_join (I := fun F D M5 L5 => D = [] ∧ M4 = M5 ∧ DropTo L5 L ∧ F = [(0, .slice PA pl pc), (1, .slice TA tl tc), (2, .slice A m c), (15, .int .i64 ((szS x : Nat) : Int)), (16, .slice A4 n4 c4), (17, .slice A5 n5 c5), (18, .int .i64 (takeE x m)), (19, .int .i64 (takeE x m))]) ?_ (fun Jj1 => ?_)
            ·
              rintro _ _ _ L5 ⟨rfl, rfl, hdr5, rfl⟩  -- slots [0, 1, 2, 15, 16, 17, 18, 19]
              refine x_seq (x_seq (x_region ?_))
              refine tl_y rfl (y_move (v := .int _ _) rfl) ?_
              refine tl_y rfl (y_move (v := .int _ _) rfl) ?_
              refine tl_y rfl (y_neq rfl rfl) ?_
              refine tl_y rfl (y_move (v := .bool _) rfl) ?_
              refine tl_set (s := 86) (u := .bool false) rfl (congrArg Value.bool (decide_eq_false (fun h => h rfl))) ?_
              refine tl_y rfl (y_move (v := .int _ _) rfl) ?_
              refine tl_y rfl (y_neq rfl rfl) ?_
              refine tl_y rfl (y_move (v := .bool _) rfl) ?_
              refine tl_cases (s := 89) rfl (fun hk5 => ?_) (fun hk5 => ?_)
              ·
                refine tl_y rfl (y_move (v := .slice _ _ _) rfl) ?_
                rw [if_neg hk5, List.length_nil] at hs4 hs5
                subst hs4
                subst hs5
                refine tl_y rfl (y_len rfl) ?_
                refine tl_y rfl (y_neq rfl rfl) ?_
                refine tl_y rfl (y_move (v := .bool _) rfl) ?_
                refine tl_set (s := 93) (u := .bool false) rfl (rfl) ?_
                refine tl_y rfl (y_move (v := .slice _ _ _) rfl) ?_
                refine tl_y rfl (y_len rfl) ?_
                refine tl_y rfl (y_neq rfl rfl) ?_
                refine tl_y rfl (y_pickF rfl rfl) ?_
                refine tl_y rfl (y_pickT rfl rfl) ?_
                refine tl_y rfl (y_pickF rfl rfl) ?_
                refine tl_y rfl (y_move (v := .bool _) rfl) ?_
                refine tl_set (s := 100) (u := .bool false) rfl (rfl) ?_
                refine tl_y rfl (y_move (v := .int _ _) rfl) ?_
                refine tl_y rfl (y_eql rfl rfl) ?_
                refine tl_y rfl (y_move (v := .bool _) rfl) ?_
                refine tl_set (s := 103) (u := .bool false) rfl (congrArg Value.bool (decide_eq_false hk5)) ?_
                refine tl_skip rfl ?_
                refine tl_skip rfl ?_
                refine tl_skip rfl ?_
                refine tl_skip rfl ?_
                refine tl_skip rfl ?_
                refine tl_skip rfl ?_
                refine tl_skip rfl ?_
                refine tl_skip rfl ?_
                refine tl_skip rfl ?_
                refine tl_skip rfl ?_
                refine tl_skip rfl ?_
                refine tl_skip rfl ?_
                refine tl_skip rfl ?_
                refine tl_skip rfl ?_
                refine tl_y rfl (y_pickF rfl rfl) ?_
                refine tl_y rfl (y_pickF rfl rfl) ?_
                refine tl_nil (.then_normal ?_)
                refine .sub (F' := [(0, _), (1, _), (2, _), (119, _)]) (.cons rfl (.cons rfl (.cons rfl (.cons rfl .nil)))) ?_
                refine x_false rfl rfl ?_
                refine x_skip (.then_normal ?_)
                refine x_seq (x_region ?_)
                refine tl_y rfl (y_move (v := .slice _ _ _) rfl) ?_
                refine tl_y rfl (y_move (v := .slice _ _ _) rfl) ?_
                refine tl_y rfl (y_move (v := .slice _ _ _) rfl) ?_
                refine .dropTo L hdr5 ?_
                refine tl_e rfl (e_call' rfl (Fits_lspec (hg.mono hd) (hpub.mono hd) (htext.mono hd) (hsig.mono hd) (by omega) (by omega)) ?_)
                rintro _ M6 L hM6 ⟨rfl, rfl⟩
                have hd6 := hd.trans hM6
                refine tl_y rfl (y_move (v := .slice _ _ _) rfl) ?_
                refine tl_y rfl (y_move (v := .slice _ _ _) rfl) ?_
                refine tl_y rfl (y_move (v := .slice _ _ _) rfl) ?_
                refine tl_e rfl (e_call' rfl (RFits_lspec (hpub.mono hd6) (htext.mono hd6) (hsig.mono hd6) (by omega) (by omega)) ?_)
                rintro _ M7 L hM7 ⟨rfl, rfl⟩
                have hd7 := hd6.trans hM7
                refine tl_y rfl (y_eqlBool rfl rfl) ?_
                refine tl_y rfl (y_assign (v := .bool _) rfl) ?_
                refine tl_nil (.then_normal ?_)
                refine .sub (F' := [(6, _)]) (.cons rfl .nil) ?_
                refine x_ret (ret1 rfl rfl hd7 (by simp))
              ·
                refine tl_skip rfl ?_
                refine tl_skip rfl ?_
                refine tl_skip rfl ?_
                refine tl_skip rfl ?_
                refine tl_skip rfl ?_
                refine tl_skip rfl ?_
                refine tl_skip rfl ?_
                refine tl_skip rfl ?_
                refine tl_y rfl (y_pickF rfl rfl) ?_
                refine tl_y rfl (y_pickF rfl rfl) ?_
                refine tl_y rfl (y_move (v := .bool _) rfl) ?_
                refine tl_y rfl (y_move (v := .int _ _) rfl) ?_
                refine tl_y rfl (y_eql rfl rfl) ?_
                refine tl_y rfl (y_move (v := .bool _) rfl) ?_
                refine tl_set (s := 103) (u := .bool true) rfl (congrArg Value.bool (decide_eq_true (Classical.not_not.1 hk5))) ?_
                refine tl_y rfl (y_move (v := .slice _ _ _) rfl) ?_
                refine tl_y rfl (y_move (v := .slice _ _ _) rfl) ?_
                refine tl_y rfl (y_move (v := .int _ _) rfl) ?_
                have h0 : takeE x m = 0 := Classical.not_not.1 hk5
                obtain ⟨hok, hle⟩ := takeE_zero h0
                rw [if_pos h0] at hA4 hA5
                have hsz : szS x = sigN x := by rw [szS, if_pos hok]
                rw [hsz]
                refine tl_y rfl (y_sliceH rfl rfl (by omega) (by omega)) ?_
                rw [Int.toNat_natCast]
                refine tl_e rfl (e_call' rfl (same_spec hA4 (Bytes.take (hsig.mono hd) (sigN x) hle)) ?_)
                rintro _ _ _ _ ⟨rfl, rfl, rfl⟩
                refine tl_y rfl (y_notd rfl) ?_
                refine tl_y rfl (y_move (v := .bool _) rfl) ?_
                refine tl_set (s := 110) (u := .bool false) rfl (congrArg Value.bool (decide_eq_false (fun h => h rfl))) ?_
                refine tl_y rfl (y_move (v := .slice _ _ _) rfl) ?_
                refine tl_y rfl (y_move (v := .slice _ _ _) rfl) ?_
                refine tl_y rfl (y_move (v := .int _ _) rfl) ?_
                refine tl_y rfl (y_sliceL rfl rfl (by omega)) ?_
                rw [Int.toNat_natCast]
                refine tl_e rfl (e_call' rfl (same_spec hA5 (Bytes.drop (hsig.mono hd) (sigN x) hle)) ?_)
                rintro _ _ _ _ ⟨rfl, rfl, rfl⟩
                refine tl_y rfl (y_notd rfl) ?_
                refine tl_y rfl (y_pickF rfl rfl) ?_
                refine tl_y rfl (y_pickT rfl rfl) ?_
                refine tl_y rfl (y_pickF rfl rfl) ?_
                refine tl_nil (.then_normal ?_)
                refine .sub (F' := [(0, _), (1, _), (2, _), (119, _)]) (.cons rfl (.cons rfl (.cons rfl (.cons rfl .nil)))) ?_
                refine x_false rfl (decide_eq_false (fun h => h rfl)) ?_
                refine x_skip (.then_normal ?_)
                refine x_seq (x_region ?_)
                refine tl_y rfl (y_move (v := .slice _ _ _) rfl) ?_
                refine tl_y rfl (y_move (v := .slice _ _ _) rfl) ?_
                refine tl_y rfl (y_move (v := .slice _ _ _) rfl) ?_
                refine .dropTo L hdr5 ?_
                refine tl_e rfl (e_call' rfl (Fits_lspec (hg.mono hd) (hpub.mono hd) (htext.mono hd) (hsig.mono hd) (by omega) (by omega)) ?_)
                rintro _ M6 L hM6 ⟨rfl, rfl⟩
                have hd6 := hd.trans hM6
                refine tl_y rfl (y_move (v := .slice _ _ _) rfl) ?_
                refine tl_y rfl (y_move (v := .slice _ _ _) rfl) ?_
                refine tl_y rfl (y_move (v := .slice _ _ _) rfl) ?_
                refine tl_e rfl (e_call' rfl (RFits_lspec (hpub.mono hd6) (htext.mono hd6) (hsig.mono hd6) (by omega) (by omega)) ?_)
                rintro _ M7 L hM7 ⟨rfl, rfl⟩
                have hd7 := hd6.trans hM7
                refine tl_y rfl (y_eqlBool rfl rfl) ?_
                refine tl_y rfl (y_assign (v := .bool _) rfl) ?_
                refine tl_nil (.then_normal ?_)
                refine .sub (F' := [(6, _)]) (.cons rfl .nil) ?_
                refine x_ret (ret1 rfl rfl hd7 (by simp))
            ·
              refine x_seq (x_region ?_)
              refine tl_y rfl (y_move (v := .bool _) rfl) ?_
              refine tl_y rfl (y_notd rfl) ?_
              refine tl_nil (.then_normal ?_)
              refine x_cond rfl (fun hc6 => ?_) (fun hc6 => ?_)
              ·
                refine x_region ?_
                refine tl_y rfl (y_assign rfl) ?_
                refine tl_nil (.then_normal (.sub (F' := [(0, _), (1, _), (2, _), (15, _), (16, _), (17, _), (18, _), (19, _)]) (.cons rfl (.cons rfl (.cons rfl (.cons rfl (.cons rfl (.cons rfl (.cons rfl (.cons rfl .nil)))))))) (Jj1 _ _ _ _ ?_)))
                exact ⟨rfl, rfl, inferInstance, by rw [show takeE x m = 4 by rw [takeE, if_pos hc6]]⟩
              ·
                refine x_seq (x_region ?_)
                refine tl_y rfl (y_move (v := .slice _ _ _) rfl) ?_
                have hok6 : okP x := Classical.not_not.1 hc6
                have hsz6 : szS x = sigN x := by rw [szS, if_pos hok6]
                refine tl_y rfl (y_len rfl) ?_
                refine tl_y rfl (y_move (v := .int _ _) rfl) ?_
                refine tl_y rfl (y_lss rfl rfl) ?_
                refine tl_nil (.then_normal ?_)
                refine .sub (F' := [(0, _), (1, _), (2, _), (15, _), (16, _), (17, _), (18, _), (19, _), (82, _)]) (.cons rfl (.cons rfl (.cons rfl (.cons rfl (.cons rfl (.cons rfl (.cons rfl (.cons rfl (.cons rfl .nil))))))))) ?_
                refine x_cond rfl (fun hc7 => ?_) (fun hc7 => ?_)
                ·
                  refine x_region ?_
                  refine tl_y rfl (y_assign rfl) ?_
                  refine tl_nil (.then_normal (.sub (F' := [(0, _), (1, _), (2, _), (15, _), (16, _), (17, _), (18, _), (19, _)]) (.cons rfl (.cons rfl (.cons rfl (.cons rfl (.cons rfl (.cons rfl (.cons rfl (.cons rfl .nil)))))))) (Jj1 _ _ _ _ ?_)))
                  exact ⟨rfl, rfl, inferInstance, by rw [show takeE x m = 2 by rw [takeE, if_neg hc6, if_pos (by omega)]]⟩
                ·
                  refine x_skip (.then_normal (.sub (F' := [(0, _), (1, _), (2, _), (15, _), (16, _), (17, _), (18, _), (19, _)]) (.cons rfl (.cons rfl (.cons rfl (.cons rfl (.cons rfl (.cons rfl (.cons rfl (.cons rfl .nil)))))))) (Jj1 _ _ _ _ ?_)))
                  exact ⟨rfl, rfl, inferInstance, by rw [show takeE x m = 0 by rw [takeE, if_neg hc6, if_neg (by omega)]]⟩
        ·
          refine x_region ?_
          refine tl_y rfl (y_move (v := .bool _) rfl) ?_
          refine tl_y rfl (y_move (v := .bool _) rfl) ?_
          refine tl_cases (s := 60) rfl (fun hk11 => ?_) (fun hk11 => ?_)
          ·
            refine tl_y rfl (y_loadAgg rfl rfl (.own inferInstance inferInstance)) ?_
            refine tl_e rfl (e_call' rfl (RoLight_spec (otsV x.o)) ?_)
            rintro _ _ _ _ ⟨rfl, rfl, rfl⟩
            refine tl_y rfl (y_notd rfl) ?_
            refine tl_y rfl (y_pickT rfl rfl) ?_
            refine tl_nil (.then_normal (.sub (F' := [(0, _), (1, _), (2, _), (7, _), (9, _), (13, _), (64, _)]) (.cons rfl (.cons rfl (.cons rfl (.cons rfl (.cons rfl (.cons rfl (.cons rfl .nil))))))) (Jq10 _ _ _ _ ?_)))
            exact ⟨_, rfl, rfl, inferInstance, rfl⟩
          ·
            refine tl_skip rfl ?_
            refine tl_skip rfl ?_
            refine tl_skip rfl ?_
            refine tl_y rfl (y_pickF rfl rfl) ?_
            refine tl_nil (.then_normal (.sub (F' := [(0, _), (1, _), (2, _), (7, _), (9, _), (13, _), (64, _)]) (.cons rfl (.cons rfl (.cons rfl (.cons rfl (.cons rfl (.cons rfl (.cons rfl .nil))))))) (Jq10 _ _ _ _ ?_)))
            exact ⟨_, rfl, rfl, inferInstance, rfl⟩
end
end Go.Proofs.YtiimjodbaogjbaaGreatDoor
