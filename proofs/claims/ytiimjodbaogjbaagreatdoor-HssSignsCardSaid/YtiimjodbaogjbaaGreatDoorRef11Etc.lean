/-
Contracts of functions, each proved by a walk through its code.
-/
import Derived.Test.YtiimjodbaogjbaaGreatDoorMerkleEtc
import Derived.Test.YtiimjodbaogjbaaGreatDoorOncePureEtc
import Derived.Test.YtiimjodbaogjbaaGreatDoorEngWEtc
set_option linter.unusedVariables false
set_option linter.unusedSimpArgs false
set_option linter.constructorNameAsVariable false
namespace Go.Proofs.YtiimjodbaogjbaaGreatDoor
open Go Go.Eng
section
variable {G : World} {M : Mem} {L : Own}
theorem RSet_spec (t : TreeV) {NA : Option Addr} {nl nc : Nat} :
    Con Tryz.prog 163 #[.agg (List.toArray t.cells), .slice NA nl nc] G M L (fun v M' L' => M = M' ∧ L = L' ∧ v = .bool (decide (okS t nl))) noPanic := by
  refine enter (args := [_, _]) (fn := Tryz.f163) ⟨Tryz.func163, rfl, by kernel_rfl, by kernel_rfl⟩ 25 rfl <| zr <| tl_e rfl <| e_box rfl <| fun b1 => as0 rfl rfl <| zq <| zr <| tl_y rfl (y_fieldAddr rfl) <| tl_y rfl (y_ld rfl rfl) <| tl_e rfl <| e_call' rfl (RTree_spec t.code) ?_
  rintro _ _ _ _ ⟨rfl, rfl, rfl⟩
  refine mvU rfl rfl <| zx rfl rfl <| zx rfl rfl <| tl_e rfl <| e_alloc <| fun b2 => tl_e rfl <| e_st rfl rfl (by rfl) (by rfl) <| asI rfl rfl <| zq <| .s4 1 2 5 6 rfl rfl rfl rfl <| x_join (I := fun F D M2 L2 => ∃ b : Bool, (b = true ↔ okS t nl) ∧ D = [] ∧ M = M2 ∧ DropTo L2 L ∧ F = [(4, .bool b)]) ?_ (fun Jq2 => ?_)
  ·
    rintro _ _ _ L2 ⟨b, hb, rfl, rfl, hdr, rfl⟩  -- slots [4]
    refine x_ret (.dropTo L hdr (ret1 rfl rfl (Le.refl _) ⟨rfl, rfl, by rw [bool_iff hb]⟩))
  ·
    refine x_region <| mvI rfl rfl <| tl_y rfl (y_eql rfl rfl) <| mvB rfl rfl <| tl_cases (s := 15) rfl (fun hk1 => ?_) (fun hk1 => ?_)
    ·
      refine tl_y rfl (y_lg rfl rfl) <| tl_y rfl (y_lg rfl rfl) <| tl_y rfl (y_eqlS rfl rfl eqs29) <| tl_y rfl (y_pickT rfl rfl) <| mvB rfl rfl <| tl_cases (s := 20) rfl (fun hk2 => ?_) (fun hk2 => ?_)
      ·
        refine mvS rfl rfl <| tl_y rfl (y_len rfl) <| tl_y rfl (y_eql rfl rfl) <| tl_y rfl (y_pickT rfl rfl) <| asB rfl rfl <| zq <| .sub (F' := [(4, _)]) (.cons rfl .nil) <| Jq2 _ _ _ _ ?_
        exact ⟨_, by
          constructor
          · intro ht
            first | (cases ht; done) | (simp at ht; exact ⟨hk1, tree_eq hk2, by omega⟩)
          · rintro ⟨a1, a2, a3⟩
            first | exact absurd a1 hk1 | exact absurd (eq_tree a2) hk2 | (simp; omega) | omega, rfl, rfl, inferInstance, rfl⟩
      ·
        refine tl_skip rfl <| tl_skip rfl <| tl_skip rfl <| tl_y rfl (y_pickF rfl rfl) <| asB rfl rfl <| zq <| .sub (F' := [(4, _)]) (.cons rfl .nil) <| Jq2 _ _ _ _ ?_
        exact ⟨_, by
          constructor
          · intro ht
            first | (cases ht; done) | (simp at ht; exact ⟨hk1, tree_eq hk2, by omega⟩)
          · rintro ⟨a1, a2, a3⟩
            first | exact absurd a1 hk1 | exact absurd (eq_tree a2) hk2 | (simp; omega) | omega, rfl, rfl, inferInstance, rfl⟩
    ·
      refine tl_skip rfl <| tl_skip rfl <| tl_skip rfl <| tl_y rfl (y_pickF rfl rfl) <| mvB rfl rfl <| tl_skip rfl <| tl_skip rfl <| tl_skip rfl <| tl_y rfl (y_pickF rfl rfl) <| asB rfl rfl ?_
      refine zq <| .sub (F' := [(4, _)]) (.cons rfl .nil) <| Jq2 _ _ _ _ ?_
      exact ⟨_, by
        constructor
        · intro ht
          first | (cases ht; done) | (simp at ht; exact ⟨hk1, tree_eq hk2, by omega⟩)
        · rintro ⟨a1, a2, a3⟩
          first | exact absurd a1 hk1 | exact absurd (eq_tree a2) hk2 | (simp; omega) | omega, rfl, rfl, inferInstance, rfl⟩
theorem RMay_spec (t : TreeV) {NA KA : Option Addr} {nl nc kl kc : Nat} (hk : kl ≤ 9223372036854775807) :
    Con Tryz.prog 147 #[.agg (List.toArray t.cells), .slice NA nl nc, .slice KA kl kc] G M L (fun v M' L' => M = M' ∧ L = L' ∧ v = .bool (decide (okM t nl kl))) noPanic := by
  refine enter (args := [_, _, _]) (fn := Tryz.f147) ⟨Tryz.func147, rfl, by kernel_rfl, by kernel_rfl⟩ 23 rfl <| zr <| tl_e rfl <| e_box rfl <| fun b1 => as0 rfl rfl <| zq <| x_join (I := fun F D M2 L2 => ∃ b : Bool, (b = true ↔ okM t nl kl) ∧ D = [] ∧ M = M2 ∧ DropTo L2 L ∧ F = [(6, .bool b)]) ?_ (fun Jq1 => ?_)
  ·
    rintro _ _ _ L2 ⟨b, hb, rfl, rfl, hdr, rfl⟩  -- slots [6]
    refine x_ret (.dropTo L hdr (ret1 rfl rfl (Le.refl _) ⟨rfl, rfl, by rw [bool_iff hb]⟩))
  ·
    refine x_region <| tl_y rfl (y_lg rfl rfl) <| mvS rfl rfl <| tl_e rfl <| e_call' rfl (RSet_spec t) ?_
    rintro _ _ _ _ ⟨rfl, rfl, rfl⟩
    refine mvB rfl rfl <| tl_casesb (s := 10) rfl (fun hk1 => ?_) (fun hk1 => ?_)
    ·
      refine tl_y rfl (y_fieldAddr rfl) <| tl_y rfl (y_ld rfl rfl) <| tl_y rfl (y_leq rfl rfl) <| tl_y rfl (y_pickT rfl rfl) <| mvB rfl rfl <| tl_cases (s := 15) rfl (fun hk2 => ?_) (fun hk2 => ?_)
      ·
        refine mvS rfl rfl <| tl_y rfl (y_len rfl) <| tl_y rfl (y_convN64 rfl (by omega)) <| tl_y rfl (y_lg rfl rfl) <| tl_e rfl <| e_call' rfl (RLeaves_spec t) ?_
        rintro _ _ _ _ ⟨rfl, rfl, rfl⟩
        refine tl_y rfl (y_eql rfl rfl) <| tl_y rfl (y_pickT rfl rfl) <| asB rfl rfl <| zq <| .sub (F' := [(6, _)]) (.cons rfl .nil) <| Jq1 _ _ _ _ ?_
        exact ⟨_, by
          constructor
          · intro ht
            first | (cases ht; done) | (simp at ht; exact ⟨by simpa using hk1, by omega, by omega⟩)
          · rintro ⟨a1, a2, a3⟩
            first | exact absurd (by simpa using a1) hk1 | exact absurd (decide_eq_true a1) hk1 | (simp [a1] at hk1; done) | (simp; omega) | omega, rfl, rfl, inferInstance, rfl⟩
      ·
        refine tl_skip rfl <| tl_skip rfl <| tl_skip rfl <| tl_skip rfl <| tl_skip rfl <| tl_skip rfl <| tl_y rfl (y_pickF rfl rfl) <| asB rfl rfl <| zq <| .sub (F' := [(6, _)]) (.cons rfl .nil) <| Jq1 _ _ _ _ ?_
        exact ⟨_, by
          constructor
          · intro ht
            first | (cases ht; done) | (simp at ht; exact ⟨by simpa using hk1, by omega, by omega⟩)
          · rintro ⟨a1, a2, a3⟩
            first | exact absurd (by simpa using a1) hk1 | exact absurd (decide_eq_true a1) hk1 | (simp [a1] at hk1; done) | (simp; omega) | omega, rfl, rfl, inferInstance, rfl⟩
    ·
      refine tl_skip rfl <| tl_skip rfl <| tl_skip rfl <| tl_y rfl (y_pickF rfl rfl) <| mvB rfl rfl <| tl_skip rfl <| tl_skip rfl <| tl_skip rfl <| tl_skip rfl <| tl_skip rfl ?_
      refine tl_skip rfl <| tl_y rfl (y_pickF rfl rfl) <| asB rfl rfl <| zq <| .sub (F' := [(6, _)]) (.cons rfl .nil) <| Jq1 _ _ _ _ ?_
      exact ⟨_, by
        constructor
        · intro ht
          first | (cases ht; done) | (simp at ht; exact ⟨by simpa using hk1, by omega, by omega⟩)
        · rintro ⟨a1, a2, a3⟩
          first | exact absurd (by simpa using a1) hk1 | exact absurd (decide_eq_true a1) hk1 | (simp [a1] at hk1; done) | (simp; omega) | omega, rfl, rfl, inferInstance, rfl⟩
theorem RAt0_spec (t : TreeV) {H : Nat} (hH : t.h = (H : Int)) (hH5 : H ≤ 20) {NA : Option Addr} {nl nc : Nat} {name : List UInt8} (hname : Bytes M NA nl nc name) {KA : Option Addr} {kl kc : Nat} {kvs : List Value} {keys : List (List UInt8)} (hk : Row M 1 KA kl kc kvs) (hkb : BRows M kvs keys) (hkl : kl = pw2 H) (hks : ∀ b ∈ keys, b.length ≤ 1000000000000) (i : Nat) (hi : i < pw2 H) (place : UInt32) (hp : place.toNat = pw2 H + i) :
  Con Tryz.prog 148 #[.agg (List.toArray t.cells), .slice NA nl nc, .slice KA kl kc, .int .u32 (place.toNat : Int)] G M L (fun v M' L' => L = L' ∧ ∃ A' m' c', v = .slice A' m' c' ∧ Bytes M' A' m' c' ((lvl t name keys 0).getD i [])) noPanic := by
 have hpw := pw2_25 (h := H) (by omega)
 have hle := hk.le
 have hvl := hkb.len
 have hkn : kvs.length = kl := by have := hk.len; omega
 obtain ⟨g, o, rfl, hcell⟩ := hk.addr (by omega)
 obtain ⟨A2, n2, c2, hv2, hb2⟩ := hkb.get i (by omega)
 have hn2 := hb2.size
 have hn2' := hks _ (getD_mem keys i [] (by omega))
 refine enter (args := [_, _, _, _]) (fn := Tryz.f148) ⟨Tryz.func148, rfl, by kernel_rfl, by kernel_rfl⟩ 56 rfl <| zr <| tl_e rfl <| e_box rfl <| fun b1 => as0 rfl rfl <| zq <| zr <| mvS rfl rfl <| tl_y rfl (y_len rfl) <| tl_y rfl (y_convN32 rfl (by omega)) <| asI rfl rfl ?_
 refine zq <| .s5 1 2 3 4 9 rfl rfl rfl rfl rfl <| zr2 <| mvI rfl rfl <| mvI rfl rfl <| tl_y rfl (y_geq rfl rfl) <| zq <| x_true rfl (by rw [decide_eq_true_iff]; omega) <| x_seq <| x_draw 14 hmix rfl ?_
 refine zp 0 rfl rfl (y_fieldAddr rfl) <| zy 1 rfl rfl (y_ld rfl rfl) <| zp 2 rfl rfl (y_fieldAddr rfl) <| zy 3 rfl rfl (y_ld rfl rfl) <| zp 4 rfl rfl (y_move (v := .slice _ _ _) rfl) <| zp 5 rfl rfl (y_move (v := .int _ _) rfl) <| zp 6 rfl rfl (y_move (v := .slice _ _ _) rfl) <| zp 7 rfl rfl (y_move (v := .int _ _) rfl) <| zp 8 rfl rfl (y_move (v := .int _ _) rfl) <| zp 9 rfl rfl (y_subN32 rfl rfl (by omega)) ?_
 rw [show (place.toNat : Int) - (kl : Int) = (i : Int) by omega]
 refine zp 10 rfl rfl (y_indexAddr rfl rfl (by omega)) <| zy 11 rfl rfl (y_load rfl rfl (.at_ (hcell _ i _ hv2) (by omega))) <| ze 12 rfl rfl <| e_call' rfl (RPart_spec t.kind t.n hname place 33410 (by omega) hb2 (by omega)) ?_
 rintro _ M2 _ hM2 ⟨rfl, A3, m3, c3, rfl, hA3⟩
 refine ⟨⟨(by first | exact Le.refl _ | assumption), Keeps.mem⟩, ?_⟩
 refine zp 13 rfl rfl (y_assign (v := .slice _ _ _) rfl) <| zz <| .then_normal <| .s1 8 rfl <| x_ret (.then_ret (.dropTo L inferInstance (ret1 rfl rfl hM2 ⟨rfl, _, _, _, rfl, by
  rw [lvl, leavesB_get _ _ _ (by omega), leafB, hH, Int.toNat_natCast, ← hp]
  exact hA3⟩)))
theorem RAtS_spec (t : TreeV) {H : Nat} (hH : t.h = (H : Int)) (hH5 : H ≤ 20) {NA : Option Addr} {nl nc : Nat} {name : List UInt8} (hname : Bytes M NA nl nc name) {KA : Option Addr} {kl kc : Nat} {kvs : List Value} {keys : List (List UInt8)} (hk : Row M 1 KA kl kc kvs) (hkb : BRows M kvs keys) (hkl : kl = pw2 H) (h : Nat) (hh : h < H)
  (ih : ∀ (M' : Mem) (L' : Own) (i : Nat) (place : UInt32), Le M M' → i < pw2 (H - h) → place.toNat = pw2 (H - h) + i → Con Tryz.prog 148 #[.agg (List.toArray t.cells), .slice NA nl nc, .slice KA kl kc, .int .u32 (place.toNat : Int)] G M' L' (fun v M2 L2 => L' = L2 ∧ ∃ A' m' c', v = .slice A' m' c' ∧ Bytes M2 A' m' c' ((lvl t name keys h).getD i [])) noPanic)
  (i : Nat) (hi : i < pw2 (H - (h + 1))) (place : UInt32) (hp : place.toNat = pw2 (H - (h + 1)) + i) :
  Con Tryz.prog 148 #[.agg (List.toArray t.cells), .slice NA nl nc, .slice KA kl kc, .int .u32 (place.toNat : Int)] G M L (fun v M' L' => L = L' ∧ ∃ A' m' c', v = .slice A' m' c' ∧ Bytes M' A' m' c' ((lvl t name keys (h + 1)).getD i [])) noPanic := by
 have hpw := pw2_25 (h := H) (by omega)
 have hle := hk.le
 have hvl := hkb.len
 have hkn : kvs.length = kl := by have := hk.len; omega
 have hhf := pw2_half hh
 have hll := lvl_len t name keys (H := H) (by omega) h (by omega)
 have hmono := pw2_le (j := H - h) (k := H) (by omega)
 obtain ⟨x, hx⟩ : ∃ x : UInt32, x.toNat = 2 * place.toNat := ⟨UInt32.ofNat (2 * place.toNat), by rw [UInt32.toNat_ofNat', Nat.mod_eq_of_lt (by omega)]⟩
 obtain ⟨y, hy⟩ : ∃ y : UInt32, y.toNat = 2 * place.toNat + 1 := ⟨UInt32.ofNat (2 * place.toNat + 1), by rw [UInt32.toNat_ofNat', Nat.mod_eq_of_lt (by omega)]⟩
 have hsx := (lvl_short t name keys h).get (2 * i)
 have hsy := (lvl_short t name keys h).get (2 * i + 1)
 refine enter (args := [_, _, _, _]) (fn := Tryz.f148) ⟨Tryz.func148, rfl, by kernel_rfl, by kernel_rfl⟩ 56 rfl <| zr <| tl_e rfl <| e_box rfl <| fun b1 => as0 rfl rfl <| zq <| zr <| mvS rfl rfl <| tl_y rfl (y_len rfl) <| tl_y rfl (y_convN32 rfl (by omega)) <| asI rfl rfl ?_
 refine zq <| .s5 1 2 3 4 9 rfl rfl rfl rfl rfl <| zr2 <| mvI rfl rfl <| mvI rfl rfl <| tl_y rfl (y_geq rfl rfl) <| zq <| x_false rfl (by rw [decide_eq_false_iff_not]; omega) <| x_skip <| .then_normal <| .s4 1 2 3 4 rfl rfl rfl rfl ?_
 refine zr <| tl_y rfl (y_lg rfl rfl) <| mvS rfl rfl <| mvS rfl rfl <| mvI rfl rfl <| tl_y rfl (y_mulN32 rfl rfl (by omega)) ?_
 rw [show (2 : Int) * (place.toNat : Int) = ((x.toNat : Nat) : Int) by rw [hx]; omega]
 refine tl_e rfl <| e_call' rfl (ih M _ (2 * i) x (Le.refl _) (by omega) (by omega)) ?_
 rintro _ M1 _ hM1 ⟨rfl, A1, n1, c1, rfl, hA1⟩
 have hn1 := hA1.size
 refine asS rfl rfl <| zq <| .s5 1 2 3 4 10 rfl rfl rfl rfl rfl <| zr <| tl_y rfl (y_lg rfl rfl) <| mvS rfl rfl <| mvS rfl rfl <| mvI rfl rfl <| tl_y rfl (y_mulN32 rfl rfl (by omega)) <| tl_y rfl (y_addN32 rfl rfl (by omega)) ?_
 rw [show (2 : Int) * (place.toNat : Int) + 1 = ((y.toNat : Nat) : Int) by rw [hy]; omega]
 refine tl_e rfl <| e_call' rfl (ih M1 _ (2 * i + 1) y hM1 (by omega) (by omega)) ?_
 rintro _ M2 _ hM2 ⟨rfl, A2, n2, c2, rfl, hA2⟩
 have hn2 := hA2.size
 have hm := hM1.trans hM2
 refine asS rfl rfl <| zq <| .s5 1 3 4 10 11 rfl rfl rfl rfl rfl <| x_seq <| x_draw0 11 ([(b1, .cells (List.toArray t.cells) 29 (0, 0))]) Keeps.mem hmix rfl <| zp 0 rfl rfl (y_fieldAddr rfl) <| zy 1 rfl rfl (y_ld rfl rfl) <| zp 2 rfl rfl (y_fieldAddr rfl) <| zy 3 rfl rfl (y_ld rfl rfl) <| zp 4 rfl rfl (y_move (v := .slice _ _ _) rfl) ?_
 refine zp 5 rfl rfl (y_move (v := .int _ _) rfl) <| zp 7 rfl rfl (y_move (v := .slice _ _ _) rfl) <| zp 9 rfl rfl (y_move (v := .slice _ _ _) rfl) <| ze 6 rfl rfl <| e_buildSlice0 <| fun b2 => ⟨⟨Le.refl _, Keeps.mem⟩, ?_⟩
 refine ze 8 rfl rfl <| e_append1 (by decide) rfl rfl OwnRow.made00 (.row (hA1.mono hM2)) (all_one_bv _) (by omega) (by omega) <| fun A3 c3 E3 hE3 => ?_
 rw [Nat.zero_add, List.nil_append] at hE3
 rw [Nat.zero_add]
 refine ⟨⟨Le.refl _, Keeps.mem⟩, ?_⟩
 refine ze 10 rfl rfl <| e_append (by decide) rfl rfl hE3 (.row hA2) (all_one_bv _) (by omega) (by omega) <| fun A4 c4 E4 hE4 => ?_
 rw [← List.map_append] at hE4
 refine ⟨⟨Le.refl _, Keeps.mem⟩, ?_⟩
 refine .pubRow hE4 <| fun M3 hM3 htext => zt 11 rfl rfl <| e_call' rfl (RPart_spec t.kind t.n (hname.mono (hm.trans hM3)) place 33667 (by omega) htext (by omega)) ?_
 rintro _ M4 _ hM4 ⟨rfl, A5, m5, c5, rfl, hA5⟩
 refine zp 12 rfl rfl (y_assign (v := .slice _ _ _) rfl) <| zz <| .then_normal <| .s1 8 rfl <| x_ret (.dropTo L inferInstance (ret1 rfl rfl (hm.trans (hM3.trans hM4)) ⟨rfl, _, _, _, rfl, by
  rw [lvl, nextB_get _ _ _ (by omega), innB, show (lvl t name keys h).length / 2 + i = place.toNat by omega]
  exact hA5⟩))
theorem RAt_spec (t : TreeV) {H : Nat} (hH : t.h = (H : Int)) (hH5 : H ≤ 20) {NA : Option Addr} {nl nc : Nat} {name : List UInt8} {KA : Option Addr} {kl kc : Nat} {kvs : List Value} {keys : List (List UInt8)} (hkl : kl = pw2 H) (hks : ∀ b ∈ keys, b.length ≤ 1000000000000) :
  ∀ (h : Nat), h ≤ H → ∀ (M : Mem) (L : Own) (i : Nat) (place : UInt32), Bytes M NA nl nc name → Row M 1 KA kl kc kvs → BRows M kvs keys → i < pw2 (H - h) → place.toNat = pw2 (H - h) + i →
  Con Tryz.prog 148 #[.agg (List.toArray t.cells), .slice NA nl nc, .slice KA kl kc, .int .u32 (place.toNat : Int)] G M L (fun v M' L' => L = L' ∧ ∃ A' m' c', v = .slice A' m' c' ∧ Bytes M' A' m' c' ((lvl t name keys h).getD i [])) noPanic
 | 0, _, M, L, i, place, hname, hk, hkb, hi, hp => RAt0_spec t hH hH5 hname hk hkb hkl hks i hi place hp
 | h + 1, hh, M, L, i, place, hname, hk, hkb, hi, hp => RAtS_spec t hH hH5 hname hk hkb hkl h (by omega) (fun M' L' i' place' hle hi' hp' => RAt_spec t hH hH5 hkl hks h (by omega) M' L' i' place' (hname.mono hle) (hk.mono hle) (hkb.mono hle) hi' hp') i hi place hp
theorem RRoot_spec (t : TreeV) {NA : Option Addr} {nl nc : Nat} {name : List UInt8} (hname : Bytes M NA nl nc name) {KA : Option Addr} {kl kc : Nat} {kvs : List Value} {keys : List (List UInt8)} (hk : Row M 1 KA kl kc kvs) (hkb : BRows M kvs keys) (hks : ∀ b ∈ keys, b.length ≤ 1000000000000) :
  Con Tryz.prog 90 #[.agg (List.toArray t.cells), .slice NA nl nc, .slice KA kl kc] G M L (fun v M' L' => L = L' ∧ ∃ A' m' c', v = .slice A' m' c' ∧ Bytes M' A' m' c' (if okM t nl kl then rootB t name keys else [])) noPanic := by
 have hmx := hk.max
 have hle := hk.le
 refine enter (args := [_, _, _]) (fn := Tryz.f90) ⟨Tryz.func90, rfl, by kernel_rfl, by kernel_rfl⟩ 16 rfl <| zr <| tl_e rfl <| e_box rfl <| fun b1 => as0 rfl rfl <| zq <| zr2 <| tl_y rfl (y_lg rfl rfl) <| mvS rfl rfl <| mvS rfl rfl <| tl_e rfl <| e_call' rfl (RMay_spec t (by omega)) ?_
 rintro _ _ _ _ ⟨rfl, rfl, rfl⟩
 refine tl_y rfl (y_notd rfl) <| zq <| .s4 1 2 3 11 rfl rfl rfl rfl <| x_cond rfl (fun hc1 => ?_) (fun hc1 => ?_)
 ·
  refine zr <| as0 rfl rfl <| zq <| .s1 6 rfl <| x_ret (.then_ret (.dropTo L inferInstance (ret1 rfl rfl (Le.refl _) ⟨rfl, _, _, _, rfl, by rw [if_neg hc1]; exact Row.nil _ _⟩)))
 ·
  have hok : okM t nl kl := Classical.not_not.1 hc1
  obtain ⟨hokc, H, hH, hH1, hH25, hlv⟩ := okS_facts hok.1
  have hkl : kl = pw2 H := by rw [← hlv]; exact hok.2.2
  have hH10 := hok.2.1
  refine x_skip <| .then_normal <| zr <| tl_y rfl (y_lg rfl rfl) <| mvS rfl rfl <| mvS rfl rfl <| tl_e rfl <| e_call' rfl (RAt_spec t hH (by omega) hkl hks H (Nat.le_refl _) M _ 0 1 hname hk hkb (pw2_pos _) (by rw [Nat.sub_self]; rfl)) ?_
  rintro _ M1 _ hM1 ⟨rfl, A1, n1, c1, rfl, hA1⟩
  refine asS rfl rfl <| zq <| .s1 6 rfl <| x_ret (.dropTo L inferInstance (ret1 rfl rfl hM1 ⟨rfl, _, _, _, rfl, by rw [if_pos hok, rootB, hH, Int.toNat_natCast]; exact hA1⟩))
theorem RWay_spec (t : TreeV) {NA : Option Addr} {nl nc : Nat} {name : List UInt8} (hname : Bytes M NA nl nc name) {KA : Option Addr} {kl kc : Nat} {kvs : List Value} {keys : List (List UInt8)} (hk : Row M 1 KA kl kc kvs) (hkb : BRows M kvs keys) (hks : ∀ b ∈ keys, b.length ≤ 1000000000000) (q : UInt32) :
    Con Tryz.prog 98 #[.agg (List.toArray t.cells), .slice NA nl nc, .slice KA kl kc, .int .u32 (q.toNat : Int)] G M L (fun v M' L' => L = L' ∧ ∃ A' m' c' vs', v = .slice A' m' c' ∧ Row M' 1 A' m' c' vs' ∧ BRows M' vs' (if okM t nl kl ∧ q.toNat < kl then wayB t name keys q.toNat t.h.toNat else [])) noPanic := by
  have hmx := hk.max
  have hle := hk.le
  have hqq := q.toNat_lt
  refine enter (args := [_, _, _, _]) (fn := Tryz.f98) ⟨Tryz.func98, rfl, by kernel_rfl, by kernel_rfl⟩ 50 rfl <| zr <| tl_e rfl <| e_box rfl <| fun b1 => as0 rfl rfl <| zq <| zr <| as0 rfl rfl <| zq <| zr2 <| tl_y rfl (y_lg rfl rfl) ?_
  refine mvS rfl rfl <| mvS rfl rfl <| tl_e rfl <| e_call' rfl (RMay_spec t (by omega)) ?_
  rintro _ _ _ _ ⟨rfl, rfl, rfl⟩
  refine tl_y rfl (y_notd rfl) <| mvB rfl rfl <| tl_cases (s := 17) rfl (fun hk1 => ?_) (fun hk1 => ?_)
  ·
    refine tl_skip rfl <| tl_skip rfl <| tl_skip rfl <| tl_skip rfl <| tl_skip rfl <| tl_skip rfl <| tl_y rfl (y_pickT rfl rfl) <| zq <| .s6 1 2 3 4 9 24 rfl rfl rfl rfl rfl rfl <| x_true rfl rfl ?_
    refine zr <| as0 rfl rfl <| zq <| .s1 8 rfl <| x_ret (.then_ret (.dropTo L inferInstance (ret1 rfl rfl (Le.refl _) ⟨rfl, _, _, _, _, rfl, Row.nil _ _, by rw [if_neg (fun h => hk1 h.1)]; exact .nil⟩)))
  ·
    have hok : okM t nl kl := Classical.not_not.1 hk1
    obtain ⟨hokc, H, hH, hH1, hH25, hlv⟩ := okS_facts hok.1
    have hkl : kl = pw2 H := by rw [← hlv]; exact hok.2.2
    have hH10 := hok.2.1
    have hpw := pw2_25 hH25
    refine mvI rfl rfl <| tl_y rfl (y_convN64 rfl (by omega)) <| mvS rfl rfl <| tl_y rfl (y_len rfl) <| tl_y rfl (y_convN64 rfl (by omega)) <| tl_y rfl (y_geq rfl rfl) <| tl_y rfl (y_pickF rfl rfl) <| zq <| .s6 1 2 3 4 9 24 rfl rfl rfl rfl rfl rfl <| x_cond rfl (fun hc1 => ?_) (fun hc1 => ?_)
    ·
      refine zr <| as0 rfl rfl <| zq <| .s1 8 rfl <| x_ret (.then_ret (.dropTo L inferInstance (ret1 rfl rfl (Le.refl _) ⟨rfl, _, _, _, _, rfl, Row.nil _ _, by rw [if_neg (fun h => by have := h.2; omega)]; exact .nil⟩)))
    ·
      have hq : q.toNat < pw2 H := by omega
      have hq2 : q.toNat < kl := by omega
      subst hkl
      refine x_skip <| .then_normal <| zr2 <| mvS rfl rfl <| tl_y rfl (y_len rfl) <| tl_y rfl (y_convN32 rfl (by omega)) <| mvI rfl rfl <| tl_y rfl (y_addN32 rfl rfl (by omega)) ?_
      rw [show ((pw2 H : Nat) : Int) + (q.toNat : Int) = ((pw2 (H - 0) + q.toNat / pw2 0 : Nat) : Int) by rw [show pw2 0 = 1 from rfl, Nat.div_one, Nat.sub_zero]; omega]
      refine asI rfl rfl <| zq <| .s5 1 2 4 9 10 rfl rfl rfl rfl rfl <| x_block ?_
      refine x_loop (I := fun m' F D M1 L1 => ∃ (k : Nat) (A1 : Option Addr) (c1 : Nat) (E : Own) (vs : List Value), m' = H - k ∧ k ≤ H ∧ Le M M1 ∧ OwnRow 35 1 A1 k c1 vs E ∧ BRows M1 vs (wayB t name keys q.toNat k) ∧ D = [] ∧ L1 = E ++ ((b1, .cells (List.toArray t.cells) 29 (0, 0)) :: L) ∧ F = [(1, .slice NA nl nc), (2, .slice KA (pw2 H) kc), (4, .pointer (some ⟨b1, 0, none⟩)), (9, .slice A1 k c1), (10, .int .u32 ((pw2 (H - k) + q.toNat / pw2 k : Nat) : Int))]) (H) (F0 := [(1, _), (2, _), (4, _), (9, _), (10, _)]) ?_ (.cons rfl (.cons rfl (.cons rfl (.cons rfl (.cons rfl .nil))))) ?_  -- slots [1, 2, 4, 9, 10], written [9, 10]
      · exact ⟨0, none, 0, [], [], rfl, by omega, Le.refl _, .nil, .nil, rfl, rfl, rfl⟩
      rintro m _ _ M1 L1 ⟨k, A1, c1, E, vs, rfl, hkk, he, hE, hB, rfl, rfl, rfl⟩
      obtain ⟨z, hz⟩ : ∃ z, q.toNat / pw2 k = z := ⟨_, rfl⟩
      have hzl : z < pw2 (H - k) := by rw [← hz]; exact div_lt hkk hq
      obtain ⟨w, hw⟩ : ∃ w, w = pw2 (H - k) + z := ⟨_, rfl⟩
      have hp2 := pw2_25 (h := H - k) (by omega)
      rw [hz, ← hw]
      refine zr2 <| mvI rfl rfl <| tl_y rfl (y_gtr rfl rfl) <| zq <| x_cond rfl (fun hc2 => ?_) (fun hc2 => ?_)
      ·
        have hkH : k < H := by
          rcases Nat.lt_or_ge k H with hlt | hge
          · exact hlt
          · obtain rfl : k = H := by omega
            rw [Nat.sub_self, show pw2 0 = 1 from rfl] at hw hzl
            omega
        have hhf := (pw2_half hkH).2
        have hsl : sib z < pw2 (H - k) := by rw [← hz]; exact sib_lt hkH hq
        have hs1 : z % 2 = 1 → sib z = z - 1 := fun h => by rw [sib, if_pos h]
        have hs0 : ¬ z % 2 = 1 → sib z = z + 1 := fun h => by rw [sib, if_neg h]
        obtain ⟨y, hy⟩ : ∃ y : UInt32, y.toNat = pw2 (H - k) + sib z := ⟨UInt32.ofNat (pw2 (H - k) + sib z), by rw [UInt32.toNat_ofNat', Nat.mod_eq_of_lt (by omega)]⟩
        refine x_skip <| .then_normal <| x_seq <| x_block <| zr <| mvI rfl rfl <| tl_y rfl (y_addN32 rfl rfl (by omega)) <| asI rfl rfl <| zq <| .s6 1 2 4 9 10 11 rfl rfl rfl rfl rfl rfl <| zr2 ?_
        refine mvI rfl rfl <| tl_y rfl (y_remI rfl rfl (by omega)) <| tl_y rfl (y_eql rfl rfl) <| zq <| x_cond rfl (fun hc3 => ?_) (fun hc3 => ?_)
        ·
          refine x_region <| mvI rfl rfl <| tl_y rfl (y_subN32 rfl rfl (by omega)) ?_
          rw [show ((w : Nat) : Int) - 1 = ((y.toNat : Nat) : Int) by have := hs1 (by omega); omega]
          refine asI rfl rfl <| zq <| .s6 1 2 4 9 10 11 rfl rfl rfl rfl rfl rfl <| x_region <| mvS rfl rfl <| tl_y rfl (y_lg rfl rfl) <| mvS rfl rfl <| mvS rfl rfl <| mvI rfl rfl <| tl_e rfl <| e_call' rfl (RAt_spec t hH (by omega) rfl hks k (by omega) M1 _ (sib z) y (hname.mono he) (hk.mono he) (hkb.mono he) hsl hy) ?_
          rintro _ M2 _ hM2 ⟨rfl, A2, n2, c2, rfl, hA2⟩
          refine tl_e rfl <| e_buildSlice rfl (by decide) <| fun b2 => .pub b2 inferInstance <| fun M3 hM3 hb3 => tl_e rfl <| e_append (by decide) rfl rfl hE (.row (Row.whole (s := 1) hb3 rfl (by omega))) rfl (by omega) (by omega) <| fun A7 c7 E7 hE7 => asS rfl rfl <| tl_nil <| .block_normal <| .then_normal <| .s5 1 2 4 9 10 rfl rfl rfl rfl rfl <| x_region <| mvI rfl rfl <| tl_y rfl (y_quoN32 rfl rfl (by omega)) ?_
          rw [show ((w : Nat) : Int) / 2 = ((pw2 (H - (k + 1)) + q.toNat / pw2 (k + 1) : Nat) : Int) by rw [← div_pw2, hz]; omega]
          refine asI rfl rfl <| tl_nil <| .loop_next (m' := H - (k + 1)) (by omega) (F' := [(1, _), (2, _), (4, _), (9, _), (10, _)]) (.cons rfl (.cons rfl (.cons rfl (.cons rfl (.cons rfl .nil))))) ?_
          exact ⟨k + 1, A7, c7, E7, _, rfl, by omega, he.trans (hM2.trans hM3), hE7, by
            rw [wayB_succ, hz]
            exact (hB.mono (hM2.trans hM3)).snoc (hA2.mono hM3), rfl, rfl, rfl⟩
        ·
          rw [show ((w : Nat) : Int) + 1 = ((y.toNat : Nat) : Int) by have := hs0 (by omega); omega]
          refine x_skip <| .then_normal <| x_region <| mvS rfl rfl <| tl_y rfl (y_lg rfl rfl) <| mvS rfl rfl <| mvS rfl rfl <| mvI rfl rfl <| tl_e rfl <| e_call' rfl (RAt_spec t hH (by omega) rfl hks k (by omega) M1 _ (sib z) y (hname.mono he) (hk.mono he) (hkb.mono he) hsl hy) ?_
          rintro _ M2 _ hM2 ⟨rfl, A2, n2, c2, rfl, hA2⟩
          refine tl_e rfl <| e_buildSlice rfl (by decide) <| fun b2 => .pub b2 inferInstance <| fun M3 hM3 hb3 => tl_e rfl <| e_append (by decide) rfl rfl hE (.row (Row.whole (s := 1) hb3 rfl (by omega))) rfl (by omega) (by omega) <| fun A7 c7 E7 hE7 => asS rfl rfl <| tl_nil <| .block_normal <| .then_normal <| .s5 1 2 4 9 10 rfl rfl rfl rfl rfl <| x_region <| mvI rfl rfl <| tl_y rfl (y_quoN32 rfl rfl (by omega)) ?_
          rw [show ((w : Nat) : Int) / 2 = ((pw2 (H - (k + 1)) + q.toNat / pw2 (k + 1) : Nat) : Int) by rw [← div_pw2, hz]; omega]
          refine asI rfl rfl <| tl_nil <| .loop_next (m' := H - (k + 1)) (by omega) (F' := [(1, _), (2, _), (4, _), (9, _), (10, _)]) (.cons rfl (.cons rfl (.cons rfl (.cons rfl (.cons rfl .nil))))) ?_
          exact ⟨k + 1, A7, c7, E7, _, rfl, by omega, he.trans (hM2.trans hM3), hE7, by
            rw [wayB_succ, hz]
            exact (hB.mono (hM2.trans hM3)).snoc (hA2.mono hM3), rfl, rfl, rfl⟩
      ·
        obtain rfl : k = H := by
          rcases Nat.lt_or_ge k H with hlt | hge
          · have h1 := (pw2_half hlt).2
            have h2 := pw2_pos (H - (k + 1))
            omega
          · omega
        refine .pubRow hE <| fun M4 hM4 hrow4 => x_exit <| .then_exit <| .loop_exit <| .block_exit <| .then_normal <| .s1 9 rfl <| zr <| mvS rfl rfl <| asS rfl rfl <| zq <| x_ret (.dropTo L inferInstance (ret1 rfl rfl (he.trans hM4) ⟨rfl, _, _, _, _, rfl, hrow4, by rw [if_pos ⟨hok, by omega⟩, hH, Int.toNat_natCast]; exact hB.mono hM4⟩))
end
end Go.Proofs.YtiimjodbaogjbaaGreatDoor
set_option linter.unusedVariables false
set_option linter.unusedSimpArgs false
set_option linter.constructorNameAsVariable false
namespace Go.Proofs.YtiimjodbaogjbaaGreatDoor
open Go Go.Eng
theorem cPart_len {kind n : Int} (h : okC kind n) {name : List UInt8} (hn : name.length = 16) (q d : Nat) (text : List UInt8) : ((cPart kind n name q d text).length : Int) = n := by
 rw [cPart, if_pos hn, cSum, if_pos h, csum_length h _ (sha_length _)]
 rcases h.2 with h | h <;> subst h <;> rfl
theorem lvl_each {t : TreeV} (h : okC t.kind t.n) {name : List UInt8} (hn : name.length = 16) (keys : List (List UInt8)) : ∀ j, ∀ b ∈ lvl t name keys j, (b.length : Int) = t.n
 | 0, b, hb => by
  rw [lvl, leavesB, List.mem_map] at hb
  obtain ⟨q, _, rfl⟩ := hb
  exact cPart_len h hn _ _ _
 | j + 1, b, hb => by
  rw [lvl, nextB, List.mem_map] at hb
  obtain ⟨q, _, rfl⟩ := hb
  exact cPart_len h hn _ _ _
theorem lvl_getLen {t : TreeV} (h : okC t.kind t.n) {name : List UInt8} (hn : name.length = 16) {keys : List (List UInt8)} {H : Nat} (hk : keys.length = pw2 H) {j i : Nat} (hj : j ≤ H) (hi : i < pw2 (H - j)) : (((lvl t name keys j).getD i []).length : Int) = t.n :=
 lvl_each h hn keys j _ (getD_mem _ _ _ (by rw [lvl_len t name keys hk j hj]; exact hi))
theorem root_len {t : TreeV} {nl : Nat} (hs : okS t nl) {name : List UInt8} (hn : name.length = nl) {keys : List (List UInt8)} {H : Nat} (hH : t.h = (H : Int)) (hk : keys.length = pw2 H) : ((rootB t name keys).length : Int) = t.n := by
 have h16 := hs.2.2
 rw [rootB, hH, Int.toNat_natCast]
 exact lvl_getLen (okS_facts hs).1 (by omega) hk (Nat.le_refl _) (by rw [Nat.sub_self]; exact pw2_pos 0)
theorem f11 : ∃ t : TreeV, treeV 4026531846 = t ∧ t.n = 24 ∧ t.kind = 0 ∧ t.h = 2 ∧ treeE t.code = 0 ∧ treeV t.code = t := by
 refine ⟨treeV 4026531846, rfl, ?_⟩
 decide +kernel
section
variable {G : World} {M : Mem} {L : Own}
end
end Go.Proofs.YtiimjodbaogjbaaGreatDoor
set_option linter.unusedVariables false
set_option linter.unusedSimpArgs false
set_option linter.constructorNameAsVariable false
namespace Go.Proofs.YtiimjodbaogjbaaGreatDoor
open Go Go.Eng
abbrev pcells (o : OtsV) (t : TreeV) : List Value := [.int .u32 (o.code.toNat : Int), .int .i64 o.kind, .int .i64 o.n, .int .i64 o.w, .int .i64 o.p, .int .i64 o.shift, .int .u32 (t.code.toNat : Int), .int .i64 t.kind, .int .i64 t.n, .int .i64 t.h]
section
variable {G : World} {M : Mem} {L : Own}
def lwrongv (e : Int) : Value := .iface 160 (.agg #[.int .i64 e])
def lwrong (e : Int) : List PanicEntry := [{ v := lwrongv e, recovered := false }]
def hwrongv (e : Int) : Value := .iface 164 (.agg #[.int .i64 e])
def hwrong (e : Int) : List PanicEntry := [{ v := hwrongv e, recovered := false }]
theorem lmust_spec (t : Bool) (e : Int) :
  Con Tryz.prog 63 #[.bool t, .int .i64 e] G M L (fun v M' L' => M = M' ∧ L = L' ∧ t = true) (fun ch M' L' => M = M' ∧ L = L' ∧ t = false ∧ ch = lwrong e) := by
 refine enter (args := [_, _]) (fn := Tryz.f63) ⟨Tryz.func63, rfl, by kernel_rfl, by kernel_rfl⟩ 9 rfl <| zr <| mvB rfl rfl <| tl_y rfl (y_not rfl) <| zq <| x_condb rfl (fun hc1 => ?_) (fun hc1 => ?_)
 ·
  refine x_region <| mvI rfl rfl <| tl_y rfl (y_build rfl) <| tl_y rfl (y_makeIface rfl (by intro _ h; cases h)) <| tl_e rfl (e_panic rfl (.ret (Le.refl _) ⟨rfl, rfl, by simpa using hc1, rfl⟩))
 ·
  refine x_skip (end0 rfl (Le.refl _) ⟨rfl, rfl, by simpa using hc1⟩)
theorem hmust_spec (t : Bool) (e : Int) :
  Con Tryz.prog 119 #[.bool t, .int .i64 e] G M L (fun v M' L' => M = M' ∧ L = L' ∧ t = true) (fun ch M' L' => M = M' ∧ L = L' ∧ t = false ∧ ch = hwrong e) := by
 refine enter (args := [_, _]) (fn := Tryz.f119) ⟨Tryz.func119, rfl, by kernel_rfl, by kernel_rfl⟩ 9 rfl <| zr <| mvB rfl rfl <| tl_y rfl (y_not rfl) <| zq <| x_condb rfl (fun hc1 => ?_) (fun hc1 => ?_)
 ·
  refine x_region <| mvI rfl rfl <| tl_y rfl (y_build rfl) <| tl_y rfl (y_makeIface rfl (by intro _ h; cases h)) <| tl_e rfl (e_panic rfl (.ret (Le.refl _) ⟨rfl, rfl, by simpa using hc1, rfl⟩))
 ·
  refine x_skip (end0 rfl (Le.refl _) ⟨rfl, rfl, by simpa using hc1⟩)
theorem caughtP1_ret {b c : Nat} {x : Int} {cs : List Value} : ConD Tryz.prog 124 #[.pointer (some ⟨b, 0, none⟩), .pointer (some ⟨c, 0, none⟩)] .returning G M ((c, .cells (List.toArray [.int .i64 x]) 38 (0, 0)) :: (b, .cells cs.toArray 86 (0, 0)) :: L) (fun u' M' L' => u' = .returning ∧ M' = M ∧ L' = (c, .cells (List.toArray [.int .i64 x]) 38 (0, 0)) :: (b, .cells cs.toArray 86 (0, 0)) :: L) := by
 refine enterRec (args := [_, _]) (fn := Tryz.f124) ⟨Tryz.func124, rfl, by kernel_rfl, by kernel_rfl⟩ 15 rfl rfl <| x_block <| zr <| tl_y rfl (y_eqNilIface rfl rfl) <| zq <| x_true rfl (rfl) <| x_region <| as0 rfl rfl <| tl_nil (.block_normal (.rec_normal (Le.refl _) ⟨rfl, rfl, rfl⟩))
theorem caughtP1_wrong {b c : Nat} {x e : Int} : ConD Tryz.prog 124 #[.pointer (some ⟨b, 0, none⟩), .pointer (some ⟨c, 0, none⟩)] (.panicking (lwrong e)) G M ((c, .cells (List.toArray [.int .i64 x]) 38 (0, 0)) :: (b, .cells (List.toArray [.int .u32 0, .int .i64 0, .int .i64 0, .int .i64 0, .int .i64 0, .int .i64 0, .int .u32 0, .int .i64 0, .int .i64 0, .int .i64 0]) 86 (0, 0)) :: L)
  (fun u' M' L' => u' = .panicking [{ v := lwrongv e, recovered := true }] ∧ M' = M ∧ L' = (c, .cells (List.toArray [.int .i64 e]) 38 (0, 0)) :: (b, .cells (List.toArray [.int .u32 0, .int .i64 0, .int .i64 0, .int .i64 0, .int .i64 0, .int .i64 0, .int .u32 0, .int .i64 0, .int .i64 0, .int .i64 0]) 86 (0, 0)) :: L) := by
 refine enterRec (args := [_, _]) (fn := Tryz.f124) ⟨Tryz.func124, rfl, by kernel_rfl, by kernel_rfl⟩ 15 rfl rfl <| x_block <| zr <| tl_y rfl (y_eqIfaceNil rfl rfl) <| zq <| x_false rfl (rfl) <| zr <| tl_y rfl (y_assertOk rfl (by intro _ h; cases h)) <| zx rfl rfl <| zx rfl rfl ?_
 refine zq <| x_true rfl (rfl) <| zr <| tl_e rfl <| e_alloc <| fun b7 => tl_e rfl <| e_st rfl rfl (by rfl) (by rfl) <| zq <| .s3 0 1 3 rfl rfl rfl <| zr <| tl_e rfl <| e_alloc <| fun b8 => zq ?_
 refine x_draw0 4 ((b7, .cells (List.toArray [.int .i64 e]) 160 (0, 0)) :: (b8, .cells (List.toArray [.int .u32 0, .int .i64 0, .int .i64 0, .int .i64 0, .int .i64 0, .int .i64 0, .int .u32 0, .int .i64 0, .int .i64 0, .int .i64 0]) 86 (0, 0)) :: []) Keeps.mem hmix rfl <| zy 0 rfl rfl (y_lg rfl rfl) <| zp 1 rfl rfl (y_fieldAddr rfl) <| zy 2 rfl rfl (y_ld rfl rfl) <| ze 3 rfl rfl <| e_st rfl rfl (by rfl) (by rfl) <| ⟨⟨(by first | exact Le.refl _ | assumption), Keeps.mem⟩, ?_⟩
 refine zt 4 rfl rfl <| e_st rfl rfl (by rfl) (by rfl) <| zz (.block_normal (.dropTo ((c, .cells (List.toArray [.int .i64 e]) 38 (0, 0)) :: (b, .cells (List.toArray [.int .u32 0, .int .i64 0, .int .i64 0, .int .i64 0, .int .i64 0, .int .i64 0, .int .u32 0, .int .i64 0, .int .i64 0, .int .i64 0]) 86 (0, 0)) :: L) inferInstance (.rec_normal (Le.refl _) ⟨rfl, rfl, rfl⟩)))
theorem caughtP_spec {wf : FuncId} {first cap : List Value} {K : OtsV → TreeV → Mem → Prop} {Kp : Int → Prop}
  (hw : ∀ p q, Con Tryz.prog wf (first ++ [] ++ cap).toArray G M (p :: q :: L) (fun v M' L' => L' = p :: q :: L ∧ ∃ (o : OtsV) (t : TreeV), v = .agg (List.toArray (pcells o t)) ∧ K o t M') (fun ch M' L' => L' = p :: q :: L ∧ ∃ e, Kp e ∧ ch = lwrong e)) :
  Con Tryz.prog 56 #[.func (.func wf) first.toArray cap.toArray] G M L (fun v M' L' => L' = L ∧ ((∃ (o : OtsV) (t : TreeV), v = .tuple #[.agg (List.toArray (pcells o t)), .int .i64 0] ∧ K o t M') ∨ (∃ e, v = .tuple #[.agg (List.toArray [.int .u32 0, .int .i64 0, .int .i64 0, .int .i64 0, .int .i64 0, .int .i64 0, .int .u32 0, .int .i64 0, .int .i64 0, .int .i64 0]), .int .i64 e] ∧ Kp e))) noPanic := by
 refine enterD (args := [_]) (fn := Tryz.f56) ⟨Tryz.func56, rfl, by kernel_rfl, by kernel_rfl⟩ 7 rfl <| zr <| tl_e rfl <| e_alloc <| fun b1 => tl_e rfl <| e_alloc <| fun b2 => zq <| zr <| tl_y rfl (y_makeFunc rfl rfl) <| tl_e rfl <| e_defer rfl rfl rfl <| zq <| zr ?_
 refine mvF rfl rfl <| tl_e rfl (e_callv rfl rfl (hw _ _) (by
  rintro _ M1 _ hM1 ⟨rfl, e, hr, rfl⟩
  refine .retD (cap := [_, _]) (args := []) caughtP1_wrong ?_
  rintro _ M2 _ hM2 ⟨rfl, rfl, rfl⟩
  exact .inl ⟨rfl, _, L, rv2 rfl (rc_cellAgg (by rfl) rfl (.own inferInstance inferInstance)) (rc_cell (by rfl) rfl (.own inferInstance inferInstance)), inferInstance, hM1, rfl, .inr ⟨e, rfl, hr⟩⟩) ?_)
 rintro _ M1 _ hM1 ⟨rfl, o, t, rfl, hk⟩
 refine tl_e rfl <| e_st rfl rfl (by rfl) (by rfl) <| tl_e rfl <| e_st rfl rfl (by rfl) (by rfl) <| zq <| .s2 2 3 rfl rfl <| x_ret <| .retD (cap := [_, _]) (args := []) (caughtP1_ret (cs := pcells o t)) ?_
 rintro _ M2 _ hM2 ⟨rfl, rfl, rfl⟩
 exact .inl ⟨rfl, _, L, rv2 rfl (rc_cellAgg (by rfl) rfl (.own inferInstance inferInstance)) (rc_cell (by rfl) rfl (.own inferInstance inferInstance)), inferInstance, hM1, rfl, .inl ⟨o, t, rfl, hk⟩⟩
theorem caughtU1_ret {b c : Nat} {x : Int} {cs : List Value} : ConD Tryz.prog 135 #[.pointer (some ⟨b, 0, none⟩), .pointer (some ⟨c, 0, none⟩)] .returning G M ((c, .cells (List.toArray [.int .i64 x]) 38 (0, 0)) :: (b, .cells cs.toArray 37 (0, 0)) :: L) (fun u' M' L' => u' = .returning ∧ M' = M ∧ L' = (c, .cells (List.toArray [.int .i64 x]) 38 (0, 0)) :: (b, .cells cs.toArray 37 (0, 0)) :: L) := by
 refine enterRec (args := [_, _]) (fn := Tryz.f135) ⟨Tryz.func135, rfl, by kernel_rfl, by kernel_rfl⟩ 15 rfl rfl <| x_block <| zr <| tl_y rfl (y_eqNilIface rfl rfl) <| zq <| x_true rfl (rfl) <| x_region <| as0 rfl rfl <| tl_nil (.block_normal (.rec_normal (Le.refl _) ⟨rfl, rfl, rfl⟩))
theorem caughtU1_wrong {b c : Nat} {x e : Int} : ConD Tryz.prog 135 #[.pointer (some ⟨b, 0, none⟩), .pointer (some ⟨c, 0, none⟩)] (.panicking (hwrong e)) G M ((c, .cells (List.toArray [.int .i64 x]) 38 (0, 0)) :: (b, .cells (List.toArray [.int .u64 0]) 37 (0, 0)) :: L)
  (fun u' M' L' => u' = .panicking [{ v := hwrongv e, recovered := true }] ∧ M' = M ∧ L' = (c, .cells (List.toArray [.int .i64 e]) 38 (0, 0)) :: (b, .cells (List.toArray [.int .u64 0]) 37 (0, 0)) :: L) := by
 refine enterRec (args := [_, _]) (fn := Tryz.f135) ⟨Tryz.func135, rfl, by kernel_rfl, by kernel_rfl⟩ 15 rfl rfl <| x_block <| zr <| tl_y rfl (y_eqIfaceNil rfl rfl) <| zq <| x_false rfl (rfl) <| zr <| tl_y rfl (y_assertOk rfl (by intro _ h; cases h)) <| zx rfl rfl <| zx rfl rfl ?_
 refine zq <| x_true rfl (rfl) <| zr <| tl_e rfl <| e_alloc <| fun b7 => tl_e rfl <| e_st rfl rfl (by rfl) (by rfl) <| zq <| .s3 0 1 3 rfl rfl rfl <| zr <| as0 rfl rfl <| zq ?_
 refine x_draw0 4 ((b7, .cells (List.toArray [.int .i64 e]) 164 (0, 0)) :: []) Keeps.mem hmix rfl <| zp 0 rfl rfl (y_move (v := .int _ _) rfl) <| zp 1 rfl rfl (y_fieldAddr rfl) <| zy 2 rfl rfl (y_ld rfl rfl) <| ze 3 rfl rfl <| e_st rfl rfl (by rfl) (by rfl) <| ⟨⟨(by first | exact Le.refl _ | assumption), Keeps.mem⟩, ?_⟩
 refine zt 4 rfl rfl <| e_st rfl rfl (by rfl) (by rfl) <| zz (.block_normal (.dropTo ((c, .cells (List.toArray [.int .i64 e]) 38 (0, 0)) :: (b, .cells (List.toArray [.int .u64 0]) 37 (0, 0)) :: L) inferInstance (.rec_normal (Le.refl _) ⟨rfl, rfl, rfl⟩)))
theorem caughtU_spec {wf : FuncId} {first cap : List Value} {K : Int → Mem → Prop} {Kp : Int → Prop}
  (hw : ∀ p q, Con Tryz.prog wf (first ++ [] ++ cap).toArray G M (p :: q :: L) (fun v M' L' => L' = p :: q :: L ∧ ∃ x : Int, v = .int .u64 x ∧ K x M') (fun ch M' L' => L' = p :: q :: L ∧ ∃ e, Kp e ∧ ch = hwrong e)) :
  Con Tryz.prog 74 #[.func (.func wf) first.toArray cap.toArray] G M L (fun v M' L' => L' = L ∧ ((∃ x : Int, v = .tuple #[.int .u64 x, .int .i64 0] ∧ K x M') ∨ (∃ e, v = .tuple #[.int .u64 0, .int .i64 e] ∧ Kp e))) noPanic := by
 refine enterD (args := [_]) (fn := Tryz.f74) ⟨Tryz.func74, rfl, by kernel_rfl, by kernel_rfl⟩ 7 rfl <| zr <| tl_e rfl <| e_alloc <| fun b1 => tl_e rfl <| e_alloc <| fun b2 => zq <| zr <| tl_y rfl (y_makeFunc rfl rfl) <| tl_e rfl <| e_defer rfl rfl rfl <| zq <| zr ?_
 refine mvF rfl rfl <| tl_e rfl (e_callv rfl rfl (hw _ _) (by
  rintro _ M1 _ hM1 ⟨rfl, e, hr, rfl⟩
  refine .retD (cap := [_, _]) (args := []) caughtU1_wrong ?_
  rintro _ M2 _ hM2 ⟨rfl, rfl, rfl⟩
  exact .inl ⟨rfl, _, L, rv2 rfl (rc_cell (by rfl) rfl (.own inferInstance inferInstance)) (rc_cell (by rfl) rfl (.own inferInstance inferInstance)), inferInstance, hM1, rfl, .inr ⟨e, rfl, hr⟩⟩) ?_)
 rintro _ M1 _ hM1 ⟨rfl, x, rfl, hk⟩
 refine tl_e rfl <| e_st rfl rfl (by rfl) (by rfl) <| tl_e rfl <| e_st rfl rfl (by rfl) (by rfl) <| zq <| .s2 2 3 rfl rfl <| x_ret <| .retD (cap := [_, _]) (args := []) (caughtU1_ret (cs := [.int .u64 x])) ?_
 rintro _ M2 _ hM2 ⟨rfl, rfl, rfl⟩
 exact .inl ⟨rfl, _, L, rv2 rfl (rc_cell (by rfl) rfl (.own inferInstance inferInstance)) (rc_cell (by rfl) rfl (.own inferInstance inferInstance)), inferInstance, hM1, rfl, .inl ⟨x, rfl, hk⟩⟩
theorem caughtS1_ret {b c : Nat} {x : Int} {cs : List Value} : ConD Tryz.prog 131 #[.pointer (some ⟨b, 0, none⟩), .pointer (some ⟨c, 0, none⟩)] .returning G M ((c, .cells (List.toArray [.int .i64 x]) 38 (0, 0)) :: (b, .cells cs.toArray 50 (0, 0)) :: L) (fun u' M' L' => u' = .returning ∧ M' = M ∧ L' = (c, .cells (List.toArray [.int .i64 x]) 38 (0, 0)) :: (b, .cells cs.toArray 50 (0, 0)) :: L) := by
 refine enterRec (args := [_, _]) (fn := Tryz.f131) ⟨Tryz.func131, rfl, by kernel_rfl, by kernel_rfl⟩ 15 rfl rfl <| x_block <| zr <| tl_y rfl (y_eqNilIface rfl rfl) <| zq <| x_true rfl (rfl) <| x_region <| as0 rfl rfl <| tl_nil (.block_normal (.rec_normal (Le.refl _) ⟨rfl, rfl, rfl⟩))
theorem caughtS1_wrong {b c : Nat} {x e : Int} : ConD Tryz.prog 131 #[.pointer (some ⟨b, 0, none⟩), .pointer (some ⟨c, 0, none⟩)] (.panicking (hwrong e)) G M ((c, .cells (List.toArray [.int .i64 x]) 38 (0, 0)) :: (b, .cells (List.toArray [.slice none 0 0]) 50 (0, 0)) :: L)
  (fun u' M' L' => u' = .panicking [{ v := hwrongv e, recovered := true }] ∧ M' = M ∧ L' = (c, .cells (List.toArray [.int .i64 e]) 38 (0, 0)) :: (b, .cells (List.toArray [.slice none 0 0]) 50 (0, 0)) :: L) := by
 refine enterRec (args := [_, _]) (fn := Tryz.f131) ⟨Tryz.func131, rfl, by kernel_rfl, by kernel_rfl⟩ 15 rfl rfl <| x_block <| zr <| tl_y rfl (y_eqIfaceNil rfl rfl) <| zq <| x_false rfl (rfl) <| zr <| tl_y rfl (y_assertOk rfl (by intro _ h; cases h)) <| zx rfl rfl <| zx rfl rfl ?_
 refine zq <| x_true rfl (rfl) <| zr <| tl_e rfl <| e_alloc <| fun b7 => tl_e rfl <| e_st rfl rfl (by rfl) (by rfl) <| zq <| .s3 0 1 3 rfl rfl rfl <| zr <| as0 rfl rfl <| zq ?_
 refine x_draw0 4 ((b7, .cells (List.toArray [.int .i64 e]) 164 (0, 0)) :: []) Keeps.mem hmix rfl <| zp 0 rfl rfl (y_move (v := .slice _ _ _) rfl) <| zp 1 rfl rfl (y_fieldAddr rfl) <| zy 2 rfl rfl (y_ld rfl rfl) <| ze 3 rfl rfl <| e_st rfl rfl (by rfl) (by rfl) <| ⟨⟨(by first | exact Le.refl _ | assumption), Keeps.mem⟩, ?_⟩
 refine zt 4 rfl rfl <| e_st rfl rfl (by rfl) (by rfl) <| zz (.block_normal (.dropTo ((c, .cells (List.toArray [.int .i64 e]) 38 (0, 0)) :: (b, .cells (List.toArray [.slice none 0 0]) 50 (0, 0)) :: L) inferInstance (.rec_normal (Le.refl _) ⟨rfl, rfl, rfl⟩)))
theorem caughtS_spec {wf : FuncId} {first cap : List Value} {K : Option Addr → Nat → Nat → Mem → Prop} {Kp : Int → Prop}
  (hw : ∀ p q, Con Tryz.prog wf (first ++ [] ++ cap).toArray G M (p :: q :: L) (fun v M' L' => L' = p :: q :: L ∧ ∃ A n c, v = .slice A n c ∧ K A n c M') (fun ch M' L' => L' = p :: q :: L ∧ ∃ e, Kp e ∧ ch = hwrong e)) :
  Con Tryz.prog 68 #[.func (.func wf) first.toArray cap.toArray] G M L (fun v M' L' => L' = L ∧ ((∃ A n c, v = .tuple #[.slice A n c, .int .i64 0] ∧ K A n c M') ∨ (∃ e, v = .tuple #[.slice none 0 0, .int .i64 e] ∧ Kp e))) noPanic := by
 refine enterD (args := [_]) (fn := Tryz.f68) ⟨Tryz.func68, rfl, by kernel_rfl, by kernel_rfl⟩ 7 rfl <| zr <| tl_e rfl <| e_alloc <| fun b1 => tl_e rfl <| e_alloc <| fun b2 => zq <| zr <| tl_y rfl (y_makeFunc rfl rfl) <| tl_e rfl <| e_defer rfl rfl rfl <| zq <| zr ?_
 refine mvF rfl rfl <| tl_e rfl (e_callv rfl rfl (hw _ _) (by
  rintro _ M1 _ hM1 ⟨rfl, e, hr, rfl⟩
  refine .retD (cap := [_, _]) (args := []) caughtS1_wrong ?_
  rintro _ M2 _ hM2 ⟨rfl, rfl, rfl⟩
  exact .inl ⟨rfl, _, L, rv2 rfl (rc_cell (by rfl) rfl (.own inferInstance inferInstance)) (rc_cell (by rfl) rfl (.own inferInstance inferInstance)), inferInstance, hM1, rfl, .inr ⟨e, rfl, hr⟩⟩) ?_)
 rintro _ M1 _ hM1 ⟨rfl, A, n, c, rfl, hk⟩
 refine tl_e rfl <| e_st rfl rfl (by rfl) (by rfl) <| tl_e rfl <| e_st rfl rfl (by rfl) (by rfl) <| zq <| .s2 2 3 rfl rfl <| x_ret <| .retD (cap := [_, _]) (args := []) (caughtS1_ret (cs := [.slice A n c])) ?_
 rintro _ M2 _ hM2 ⟨rfl, rfl, rfl⟩
 exact .inl ⟨rfl, _, L, rv2 rfl (rc_cell (by rfl) rfl (.own inferInstance inferInstance)) (rc_cell (by rfl) rfl (.own inferInstance inferInstance)), inferInstance, hM1, rfl, .inl ⟨A, n, c, rfl, hk⟩⟩
theorem caughtL1_ret {b c : Nat} {x : Int} {cs : List Value} : ConD Tryz.prog 134 #[.pointer (some ⟨b, 0, none⟩), .pointer (some ⟨c, 0, none⟩)] .returning G M ((c, .cells (List.toArray [.int .i64 x]) 38 (0, 0)) :: (b, .cells cs.toArray 103 (0, 0)) :: L) (fun u' M' L' => u' = .returning ∧ M' = M ∧ L' = (c, .cells (List.toArray [.int .i64 x]) 38 (0, 0)) :: (b, .cells cs.toArray 103 (0, 0)) :: L) := by
 refine enterRec (args := [_, _]) (fn := Tryz.f134) ⟨Tryz.func134, rfl, by kernel_rfl, by kernel_rfl⟩ 15 rfl rfl <| x_block <| zr <| tl_y rfl (y_eqNilIface rfl rfl) <| zq <| x_true rfl (rfl) <| x_region <| as0 rfl rfl <| tl_nil (.block_normal (.rec_normal (Le.refl _) ⟨rfl, rfl, rfl⟩))
theorem caughtL1_wrong {b c : Nat} {x e : Int} : ConD Tryz.prog 134 #[.pointer (some ⟨b, 0, none⟩), .pointer (some ⟨c, 0, none⟩)] (.panicking (hwrong e)) G M ((c, .cells (List.toArray [.int .i64 x]) 38 (0, 0)) :: (b, .cells (List.toArray [.slice none 0 0]) 103 (0, 0)) :: L)
  (fun u' M' L' => u' = .panicking [{ v := hwrongv e, recovered := true }] ∧ M' = M ∧ L' = (c, .cells (List.toArray [.int .i64 e]) 38 (0, 0)) :: (b, .cells (List.toArray [.slice none 0 0]) 103 (0, 0)) :: L) := by
 refine enterRec (args := [_, _]) (fn := Tryz.f134) ⟨Tryz.func134, rfl, by kernel_rfl, by kernel_rfl⟩ 15 rfl rfl <| x_block <| zr <| tl_y rfl (y_eqIfaceNil rfl rfl) <| zq <| x_false rfl (rfl) <| zr <| tl_y rfl (y_assertOk rfl (by intro _ h; cases h)) <| zx rfl rfl <| zx rfl rfl ?_
 refine zq <| x_true rfl (rfl) <| zr <| tl_e rfl <| e_alloc <| fun b7 => tl_e rfl <| e_st rfl rfl (by rfl) (by rfl) <| zq <| .s3 0 1 3 rfl rfl rfl <| zr <| as0 rfl rfl <| zq ?_
 refine x_draw0 4 ((b7, .cells (List.toArray [.int .i64 e]) 164 (0, 0)) :: []) Keeps.mem hmix rfl <| zp 0 rfl rfl (y_move (v := .slice _ _ _) rfl) <| zp 1 rfl rfl (y_fieldAddr rfl) <| zy 2 rfl rfl (y_ld rfl rfl) <| ze 3 rfl rfl <| e_st rfl rfl (by rfl) (by rfl) <| ⟨⟨(by first | exact Le.refl _ | assumption), Keeps.mem⟩, ?_⟩
 refine zt 4 rfl rfl <| e_st rfl rfl (by rfl) (by rfl) <| zz (.block_normal (.dropTo ((c, .cells (List.toArray [.int .i64 e]) 38 (0, 0)) :: (b, .cells (List.toArray [.slice none 0 0]) 103 (0, 0)) :: L) inferInstance (.rec_normal (Le.refl _) ⟨rfl, rfl, rfl⟩)))
theorem caughtL_spec {wf : FuncId} {first cap : List Value} {K : Option Addr → Nat → Nat → Mem → Prop} {Kp : Int → Prop}
  (hw : ∀ p q, Con Tryz.prog wf (first ++ [] ++ cap).toArray G M (p :: q :: L) (fun v M' L' => L' = p :: q :: L ∧ ∃ A n c, v = .slice A n c ∧ K A n c M') (fun ch M' L' => L' = p :: q :: L ∧ ∃ e, Kp e ∧ ch = hwrong e)) :
  Con Tryz.prog 71 #[.func (.func wf) first.toArray cap.toArray] G M L (fun v M' L' => L' = L ∧ ((∃ A n c, v = .tuple #[.slice A n c, .int .i64 0] ∧ K A n c M') ∨ (∃ e, v = .tuple #[.slice none 0 0, .int .i64 e] ∧ Kp e))) noPanic := by
 refine enterD (args := [_]) (fn := Tryz.f71) ⟨Tryz.func71, rfl, by kernel_rfl, by kernel_rfl⟩ 7 rfl <| zr <| tl_e rfl <| e_alloc <| fun b1 => tl_e rfl <| e_alloc <| fun b2 => zq <| zr <| tl_y rfl (y_makeFunc rfl rfl) <| tl_e rfl <| e_defer rfl rfl rfl <| zq <| zr ?_
 refine mvF rfl rfl <| tl_e rfl (e_callv rfl rfl (hw _ _) (by
  rintro _ M1 _ hM1 ⟨rfl, e, hr, rfl⟩
  refine .retD (cap := [_, _]) (args := []) caughtL1_wrong ?_
  rintro _ M2 _ hM2 ⟨rfl, rfl, rfl⟩
  exact .inl ⟨rfl, _, L, rv2 rfl (rc_cell (by rfl) rfl (.own inferInstance inferInstance)) (rc_cell (by rfl) rfl (.own inferInstance inferInstance)), inferInstance, hM1, rfl, .inr ⟨e, rfl, hr⟩⟩) ?_)
 rintro _ M1 _ hM1 ⟨rfl, A, n, c, rfl, hk⟩
 refine tl_e rfl <| e_st rfl rfl (by rfl) (by rfl) <| tl_e rfl <| e_st rfl rfl (by rfl) (by rfl) <| zq <| .s2 2 3 rfl rfl <| x_ret <| .retD (cap := [_, _]) (args := []) (caughtL1_ret (cs := [.slice A n c])) ?_
 rintro _ M2 _ hM2 ⟨rfl, rfl, rfl⟩
 exact .inl ⟨rfl, _, L, rv2 rfl (rc_cell (by rfl) rfl (.own inferInstance inferInstance)) (rc_cell (by rfl) rfl (.own inferInstance inferInstance)), inferInstance, hM1, rfl, .inl ⟨A, n, c, rfl, hk⟩⟩
end
end Go.Proofs.YtiimjodbaogjbaaGreatDoor
set_option linter.unusedVariables false
set_option linter.unusedSimpArgs false
set_option linter.constructorNameAsVariable false
namespace Go.Proofs.YtiimjodbaogjbaaGreatDoor
open Go Go.Eng
structure PairV where
 o : UInt32
 t : UInt32
deriving DecidableEq
abbrev PairV.cells (p : PairV) : List Value := [.int .u32 (p.o.toNat : Int), .int .u32 (p.t.toNat : Int)]
def okP (p : PairV) : Prop := otsE p.o = 0 ∧ treeE p.t = 0 ∧ (otsV p.o).kind = (treeV p.t).kind ∧ (otsV p.o).n = (treeV p.t).n
instance {p : PairV} : Decidable (okP p) := inferInstanceAs (Decidable (_ ∧ _))
structure HsG (M : Mem) : Prop where
 o : SetG M
 t : SetT M
theorem HsG.mono {M M' : Mem} (h : HsG M) (hle : Le M M') : HsG M' := ⟨h.o.mono hle, h.t.mono hle⟩
section
variable {G : World} {M : Mem} {L : Own}
theorem Fit_spec (o : OtsV) (t : TreeV) :
  Con Tryz.prog 127 #[.agg (List.toArray o.cells), .agg (List.toArray t.cells)] G M L (fun v M' L' => M = M' ∧ L = L' ∧ v = .bool (decide (o.kind = t.kind ∧ o.n = t.n))) noPanic := by
 refine enter (args := [_, _]) (fn := Tryz.f127) ⟨Tryz.func127, rfl, by kernel_rfl, by kernel_rfl⟩ 17 rfl <| zr <| tl_e rfl <| e_box rfl <| fun b1 => tl_e rfl <| e_box rfl <| fun b2 => as0 rfl rfl <| zq <| zr <| tl_y rfl (y_fieldAddr rfl) <| tl_y rfl (y_ld rfl rfl) <| tl_y rfl (y_fieldAddr rfl) ?_
 refine tl_y rfl (y_ld rfl rfl) <| tl_y rfl (y_eql rfl rfl) <| mvB rfl rfl <| tl_cases (s := 10) rfl (fun hk1 => ?_) (fun hk1 => ?_)
 ·
  refine tl_y rfl (y_fieldAddr rfl) <| tl_y rfl (y_ld rfl rfl) <| tl_y rfl (y_fieldAddr rfl) <| tl_y rfl (y_ld rfl rfl) <| tl_y rfl (y_eql rfl rfl) <| tl_y rfl (y_pickT rfl rfl) <| asB rfl rfl <| zq <| .s1 4 rfl <| x_ret (.dropTo L inferInstance (ret1 rfl rfl (Le.refl _) ⟨rfl, rfl, by simp [hk1]⟩))
 ·
  refine tl_skip rfl <| tl_skip rfl <| tl_skip rfl <| tl_skip rfl <| tl_skip rfl <| tl_y rfl (y_pickF rfl rfl) <| asB rfl rfl <| zq <| .s1 4 rfl <| x_ret (.dropTo L inferInstance (ret1 rfl rfl (Le.refl _) ⟨rfl, rfl, by simp [hk1]⟩))
theorem of_spec (hg : HsG M) (p : PairV) :
  Con Tryz.prog 58 #[.agg (List.toArray p.cells)] G M L (fun v M' L' => L' = L ∧ okP p ∧ v = .agg (List.toArray (pcells (otsV p.o) (treeV p.t)))) (fun ch M' L' => L' = L ∧ ¬ okP p ∧ ch = lwrong 4) := by
 refine enter (args := [_]) (fn := Tryz.f58) ⟨Tryz.func58, rfl, by kernel_rfl, by kernel_rfl⟩ 34 rfl <| zr <| tl_e rfl <| e_box rfl <| fun b1 => tl_e rfl <| e_alloc <| fun b2 => zq <| zr <| tl_y rfl (y_fieldAddr rfl) <| tl_y rfl (y_ld rfl rfl) <| tl_e rfl <| e_call' rfl (Ots_spec hg.o p.o) ?_
 rintro _ M1 _ hM1 ⟨rfl, rfl⟩
 refine mvU rfl rfl <| zx rfl rfl <| zx rfl rfl <| tl_e rfl <| e_alloc <| fun b3 => tl_e rfl <| e_st rfl rfl (by rfl) (by rfl) <| asI rfl rfl <| zq <| .s4 1 2 3 4 rfl rfl rfl rfl <| zr <| tl_y rfl (y_fieldAddr rfl) ?_
 refine tl_y rfl (y_ld rfl rfl) <| tl_e rfl <| e_call' rfl (Tree_spec (hg.mono hM1).t p.t) ?_
 rintro _ M2 _ hM2 ⟨rfl, rfl⟩
 have hm := hM1.trans hM2
 refine mvU rfl rfl <| zx rfl rfl <| zx rfl rfl <| tl_e rfl <| e_alloc <| fun b4 => tl_e rfl <| e_st rfl rfl (by rfl) (by rfl) <| asI rfl rfl <| zq <| .s5 2 3 4 5 6 rfl rfl rfl rfl rfl <| zr <| mvI rfl rfl ?_
 refine tl_y rfl (y_eql rfl rfl) <| mvB rfl rfl <| tl_cases (s := 21) rfl (fun hk1 => ?_) (fun hk1 => ?_)
 ·
  refine mvI rfl rfl <| tl_y rfl (y_eql rfl rfl) <| tl_y rfl (y_pickT rfl rfl) <| mvB rfl rfl <| tl_cases (s := 25) rfl (fun hk2 => ?_) (fun hk2 => ?_)
  ·
   refine tl_y rfl (y_lg rfl rfl) <| tl_y rfl (y_lg rfl rfl) <| tl_e rfl <| e_call' rfl (Fit_spec _ _) ?_
   rintro _ _ _ _ ⟨rfl, rfl, rfl⟩
   refine tl_y rfl (y_pickT rfl rfl) <| tl_e rfl (e_call rfl (lmust_spec _ _) (by
    rintro _ _ _ _ ⟨rfl, rfl, ht, rfl⟩
    exact TP.dropTo L inferInstance (.retA rfl hm ⟨rfl, fun h => by have := h.2.2; simp [this] at ht, rfl⟩)) ?_)
   rintro _ _ _ _ ⟨rfl, rfl, ht⟩
   refine zq <| .s3 2 3 5 rfl rfl rfl <| zr <| tl_y rfl (y_lg rfl rfl) <| tl_y rfl (y_lg rfl rfl) <| tl_y rfl (y_build rfl) <| tl_e rfl <| e_st rfl rfl (by rfl) (by rfl) <| zq <| .s1 2 rfl <| x_ret (retRV (L' := L) (rv1 rfl (rc_cellAgg (by rfl) rfl (.own inferInstance inferInstance))) inferInstance hm ⟨rfl, ⟨hk1, hk2, by simpa using ht⟩, rfl⟩)
  ·
   refine tl_skip rfl <| tl_skip rfl <| tl_skip rfl <| tl_y rfl (y_pickF rfl rfl) <| tl_e rfl (e_call rfl (lmust_spec _ _) (by
    rintro _ _ _ _ ⟨rfl, rfl, ht, rfl⟩
    exact TP.dropTo L inferInstance (.retA rfl hm ⟨rfl, fun h => hk2 h.2.1, rfl⟩)) ?_)
   rintro _ _ _ _ ⟨rfl, rfl, ht⟩
   refine zq <| .s3 2 3 5 rfl rfl rfl <| zr <| tl_y rfl (y_lg rfl rfl) <| tl_y rfl (y_lg rfl rfl) <| tl_y rfl (y_build rfl) <| tl_e rfl <| e_st rfl rfl (by rfl) (by rfl) <| zq <| .s1 2 rfl <| x_ret (absurd ht (by simp))
 ·
  refine tl_skip rfl <| tl_skip rfl <| tl_y rfl (y_pickF rfl rfl) <| mvB rfl rfl <| tl_skip rfl <| tl_skip rfl <| tl_skip rfl <| tl_y rfl (y_pickF rfl rfl) <| tl_e rfl (e_call rfl (lmust_spec _ _) (by
   rintro _ _ _ _ ⟨rfl, rfl, ht, rfl⟩
   exact TP.dropTo L inferInstance (.retA rfl hm ⟨rfl, fun h => hk1 h.1, rfl⟩)) ?_)
  rintro _ _ _ _ ⟨rfl, rfl, ht⟩
  refine zq <| .s3 2 3 5 rfl rfl rfl <| zr <| tl_y rfl (y_lg rfl rfl) <| tl_y rfl (y_lg rfl rfl) <| tl_y rfl (y_build rfl) <| tl_e rfl <| e_st rfl rfl (by rfl) (by rfl) <| zq <| .s1 2 rfl <| x_ret (absurd ht (by simp))
theorem May1_spec (hg : HsG M) (p : PairV) {b : Nat} [hb : Has L b (.cells (List.toArray p.cells) 24 (0, 0))] :
  Con Tryz.prog 60 #[.pointer (some ⟨b, 0, none⟩)] G M L (fun v M' L' => L' = L ∧ ∃ (o : OtsV) (t : TreeV), v = .agg (List.toArray (pcells o t)) ∧ okP p) (fun ch M' L' => L' = L ∧ ∃ e, (¬ okP p ∧ e = 4) ∧ ch = lwrong e) := by
 refine enter (args := [_]) (fn := Tryz.f60) ⟨Tryz.func60, rfl, by kernel_rfl, by kernel_rfl⟩ 4 rfl <| zr <| tl_e rfl <| e_alloc <| fun b1 => zq <| zr <| tl_y rfl (y_lg rfl rfl) <| tl_e rfl (e_call rfl (of_spec hg p) (by
  rintro _ M1 _ hM1 ⟨rfl, hno, rfl⟩
  exact TP.dropTo L inferInstance (.retA rfl hM1 ⟨rfl, 4, ⟨hno, rfl⟩, rfl⟩)) ?_)
 rintro _ M1 _ hM1 ⟨rfl, hok, rfl⟩
 refine tl_e rfl <| e_st rfl rfl (by rfl) (by rfl) <| zq <| x_ret (retRV (L' := L) (rv1 rfl (rc_cellAgg (by rfl) rfl (.own inferInstance inferInstance))) inferInstance hM1 ⟨rfl, _, _, rfl, hok⟩)
theorem lMay_spec (hg : HsG M) (p : PairV) :
    Con Tryz.prog 18 #[.agg (List.toArray p.cells)] G M L (fun v M' L' => L' = L ∧ v = .bool (decide (okP p))) noPanic := by
  refine enter (args := [_]) (fn := Tryz.f18) ⟨Tryz.func18, rfl, by kernel_rfl, by kernel_rfl⟩ 12 rfl <| zr <| tl_e rfl <| e_box rfl <| fun b1 => as0 rfl rfl <| zq <| zr <| tl_y rfl (y_makeFunc rfl rfl) <| tl_e rfl <| e_call' rfl (caughtP_spec (K := fun _ _ _ => okP p) (Kp := fun e => ¬ okP p ∧ e = 4) (first := []) (cap := [.pointer (some ⟨b1, 0, none⟩)]) (fun p' q' => May1_spec hg p)) ?_
  rintro v M1 _ hM1 ⟨rfl, hv⟩
  obtain ⟨o, t, e, rfl, he⟩ : ∃ (o : OtsV) (t : TreeV) (e : Int), v = .tuple #[.agg (List.toArray (pcells o t)), .int .i64 e] ∧ (e = 0 ↔ okP p) := by
    rcases hv with ⟨o, t, rfl, hok⟩ | ⟨e, rfl, hno, rfl⟩
    · exact ⟨o, t, 0, rfl, iff_of_true rfl hok⟩
    · exact ⟨ots0, tree0, 4, rfl, iff_of_false (by decide) hno⟩
  refine mvU rfl rfl <| zx rfl rfl <| zx rfl rfl <| tl_e rfl <| e_alloc <| fun b2 => tl_e rfl <| e_st rfl rfl (by rfl) (by rfl) <| asI rfl rfl <| zq <| .s1 4 rfl <| zr <| mvI rfl rfl ?_
  refine tl_y rfl (y_eql rfl rfl) <| asB rfl rfl <| zq <| x_ret (.dropTo L inferInstance (ret1 rfl rfl hM1 ⟨rfl, by rw [decide_eq_decide.2 he]⟩))
end
end Go.Proofs.YtiimjodbaogjbaaGreatDoor
set_option linter.unusedVariables false
set_option linter.unusedSimpArgs false
namespace Go.Proofs.YtiimjodbaogjbaaGreatDoor
open Go Go.Eng
theorem treeV_code {c : UInt32} (h : treeE c = 0) : (treeV c).code = c := by
  obtain ⟨x, h1, h2⟩ := treeE_some h
  rw [h2]
  unfold treeOf at h1
  split at h1
  · obtain rfl := Option.some.inj h1; rfl
  · split at h1
    · obtain rfl := Option.some.inj h1; rfl
    · cases h1
abbrev PairV.T (x : PairV) : TreeV := treeV x.t
structure PF (x : PairV) (n w p H : Nat) : Prop where
 ok : okP x
 o : OF (otsV x.o) n w p
 tn : (treeV x.t).n = (n : Int)
 th : (treeV x.t).h = (H : Int)
 h1 : 1 ≤ H
 h2 : H ≤ 25
 tc : (treeV x.t).code = x.t
 oc : (otsV x.o).code = x.o
 s : okS (treeV x.t) 16
 lv : leavesN (treeV x.t).h = pw2 H
theorem okP_facts {x : PairV} (h : okP x) : ∃ n w p H, PF x n w p H := by
 obtain ⟨hc, ho⟩ := otsV_code h.1
 obtain ⟨n, w, p, hof⟩ := okO_facts ho
 have htc := treeV_code h.2.1
 have hs : okS (treeV x.t) 16 := ⟨by rw [htc]; exact h.2.1, by rw [htc], rfl⟩
 obtain ⟨_, H, hH, h1, h2, hlv⟩ := okS_facts hs
 exact ⟨n, w, p, H, h, hof, by rw [← h.2.2.2, hof.hn], hH, h1, h2, htc, hc, hs, hlv⟩
def keysB (x : PairV) (name sec : List UInt8) (k : Nat) : List (List UInt8) := (List.range k).map fun q => keyB (otsV x.o) name sec q
theorem keysB_len (x : PairV) (name sec : List UInt8) (k : Nat) : (keysB x name sec k).length = k := by simp [keysB]
theorem keysB_succ (x : PairV) (name sec : List UInt8) (k : Nat) : keysB x name sec (k + 1) = keysB x name sec k ++ [keyB (otsV x.o) name sec k] := by
 rw [keysB, List.range_succ, List.map_append]; rfl
theorem keyB_le (o : OtsV) (name sec : List UInt8) (q : Nat) : (keyB o name sec q).length ≤ 32 := cPartO_le _ _ _ _ _ _
theorem keysB_le (x : PairV) (name sec : List UInt8) (k : Nat) : ∀ b ∈ keysB x name sec k, b.length ≤ 1000000000000 := by
 intro b hb
 rw [keysB, List.mem_map] at hb
 obtain ⟨q, _, rfl⟩ := hb
 have := keyB_le (otsV x.o) name sec q
 omega
def mayC (x : PairV) (nl sl : Nat) : Int := if ¬ okP x then 4 else if 10 < (treeV x.t).h ∨ ¬ okY (otsV x.o) nl sl then 1 else 0
theorem mayC_zero {x : PairV} {nl sl : Nat} (h : mayC x nl sl = 0) : okP x ∧ (treeV x.t).h ≤ 10 ∧ okY (otsV x.o) nl sl := by
  unfold mayC at h
  split at h
  · cases h
  · rename_i h1
    split at h
    · cases h
    · rename_i h2
      exact ⟨Classical.not_not.1 h1, by omega, Classical.not_not.1 (fun h3 => h2 (.inr h3))⟩
theorem mayC_ok {x : PairV} {nl sl : Nat} (h1 : okP x) (h2 : (treeV x.t).h ≤ 10) (h3 : okY (otsV x.o) nl sl) : mayC x nl sl = 0 := by
 rw [mayC, if_neg (fun h => h h1), if_neg (by rintro (h | h); omega; exact h h3)]
def keysX (x : PairV) (name sec : List UInt8) : List (List UInt8) := keysB x name sec (leavesN (treeV x.t).h)
def pubB (x : PairV) (name sec : List UInt8) : List UInt8 := putB x.t.toNat 4 ++ (putB x.o.toNat 4 ++ (name ++ rootB (treeV x.t) name (keysX x name sec)))
def pubV (x : PairV) (nl sl : Nat) (name sec : List UInt8) : List UInt8 := if mayC x nl sl = 0 then pubB x name sec else []
def lsigE (x : PairV) (nl sl q tl : Nat) : Int := if mayC x nl sl ≠ 0 then mayC x nl sl else if 65536 < tl then 1 else if leavesN (treeV x.t).h ≤ q then 9 else 0
def lsigB (x : PairV) (name sec : List UInt8) (q : Nat) (text : List UInt8) : List UInt8 :=
 putB q 4 ++ (sigB (otsV x.o) name sec q text ++ (putB x.t.toNat 4 ++ (wayB (treeV x.t) name (keysX x name sec) q (treeV x.t).h.toNat).flatten))
def lsigV (x : PairV) (nl sl : Nat) (name sec : List UInt8) (q tl : Nat) (text : List UInt8) : List UInt8 := if lsigE x nl sl q tl = 0 then lsigB x name sec q text else []
def pubN (x : PairV) : Nat := 24 + (treeV x.t).n.toNat
def sigN (x : PairV) : Nat := 8 + sizeN (otsV x.o) + (treeV x.t).n.toNat * (treeV x.t).h.toNat
theorem PF.sizes {x : PairV} {n w p H : Nat} (h : PF x n w p H) : pubN x = 24 + n ∧ sigN x = 8 + sizeN (otsV x.o) + n * H ∧ n * H ≤ 32 * 25 ∧ sizeN (otsV x.o) ≤ 4 + 32 * 265 + 32 ∧ 4 ≤ sizeN (otsV x.o) := by
 obtain ⟨h1, h2, h3⟩ := h.o.size
 have hn := h.o.n32
 refine ⟨by rw [pubN, h.tn]; rfl, by rw [sigN, h.tn, h.th]; rfl, Nat.mul_le_mul hn.2 h.h2, ?_, ?_⟩ <;> omega
def pairC (bs : List UInt8) : PairV := ⟨UInt32.ofNat (getB ((bs.drop 4).take 4)), UInt32.ofNat (getB (bs.take 4))⟩
def pairE (bs : List UInt8) : Int := if bs.length < 8 then 2 else if ¬ okP (pairC bs) then 4 else if bs.length ≠ pubN (pairC bs) then 5 else 0
def wayS (sig : List UInt8) (at_ n H : Nat) : List (List UInt8) := (List.range H).map fun i => (sig.drop (at_ + i * n)).take n
def fitKey (x : PairV) (tl : Nat) (name text sig : List UInt8) : List UInt8 := staV 16 tl name (getB (sig.take 4)) text ((sig.drop 4).take (sizeN (otsV x.o)))
def fitWay (x : PairV) (sig : List UInt8) : List (List UInt8) := wayS sig (8 + sizeN (otsV x.o)) (treeV x.t).n.toNat (treeV x.t).h.toNat
def fitL (x : PairV) (tl : Nat) (name text sig : List UInt8) : Prop :=
 sig.length = sigN x ∧ (sig.drop 4).take 4 = putB x.o.toNat 4 ∧ (sig.drop (4 + sizeN (otsV x.o))).take 4 = putB x.t.toNat 4 ∧
  staE 16 tl ((sig.drop 4).take (sizeN (otsV x.o))) = 0 ∧ climbE (treeV x.t) 16 (getB (sig.take 4)) (fitWay x sig) = 0
instance {x : PairV} {tl : Nat} {name text sig : List UInt8} : Decidable (fitL x tl name text sig) := inferInstanceAs (Decidable (_ ∧ _))
def fitR (x : PairV) (tl : Nat) (name text sig : List UInt8) : List UInt8 := climbB (treeV x.t) name (getB (sig.take 4)) (fitKey x tl name text sig) (fitWay x sig)
def nameP (pub : List UInt8) : List UInt8 := (pub.drop 8).take 16
def fitK (pub : List UInt8) (tl : Nat) (text sig : List UInt8) : Prop :=
 pairE pub = 0 ∧ fitL (pairC pub) tl (nameP pub) text sig ∧ fitR (pairC pub) tl (nameP pub) text sig = pub.drop 24
instance {pub : List UInt8} {tl : Nat} {text sig : List UInt8} : Decidable (fitK pub tl text sig) := inferInstanceAs (Decidable (_ ∧ _))
end Go.Proofs.YtiimjodbaogjbaaGreatDoor
set_option linter.unusedVariables false
set_option linter.unusedSimpArgs false
namespace Go.Proofs.YtiimjodbaogjbaaGreatDoor
open Go Go.Eng
theorem keysX_len {x : PairV} {n w p H : Nat} (hx : PF x n w p H) (name sec : List UInt8) : (keysX x name sec).length = pw2 H := by rw [keysX, keysB_len, hx.lv]
theorem way_flat (t : TreeV) (name : List UInt8) (keys : List (List UInt8)) (q k : Nat) : (wayB t name keys q k).flatten = catR (fun h => (lvl t name keys h).getD (sib (q / pw2 h)) []) k := rfl
theorem way_each {x : PairV} {n w p H : Nat} (hx : PF x n w p H) {name : List UInt8} (hn : name.length = 16) (sec : List UInt8) {q : Nat} (hq : q < pw2 H) : ∀ h, h < H → ((lvl (treeV x.t) name (keysX x name sec) h).getD (sib (q / pw2 h)) []).length = n := by
 intro h hh
 have h1 := lvl_getLen (okS_facts hx.s).1 hn (keysX_len hx name sec) (j := h) (by omega) (sib_lt hh hq)
 rw [hx.tn] at h1
 omega
theorem lsig_parts {x : PairV} {n w p H : Nat} (hx : PF x n w p H) {name : List UInt8} (hn : name.length = 16) (sec : List UInt8) {q : Nat} (text : List UInt8) (hq : q < pw2 H) :
    (lsigB x name sec q text).length = sigN x ∧ (lsigB x name sec q text).take 4 = putB q 4 ∧ ((lsigB x name sec q text).drop 4).take (sizeN (otsV x.o)) = sigB (otsV x.o) name sec q text ∧
      ((lsigB x name sec q text).drop (4 + sizeN (otsV x.o))).take 4 = putB x.t.toNat 4 ∧ fitWay x (lsigB x name sec q text) = wayB (treeV x.t) name (keysX x name sec) q H := by
  obtain ⟨z1, z2, z3, z4, z5⟩ := hx.sizes
  obtain ⟨s1, _, _, _⟩ := sig_parts hx.o hn sec q text
  have hHn : (treeV x.t).h.toNat = H := by rw [hx.th]; rfl
  have hnn : (treeV x.t).n.toNat = n := by rw [hx.tn]; rfl
  have p1 : (putB q 4).length = 4 := putB_length 4 _
  have p2 : (putB x.t.toNat 4).length = 4 := putB_length 4 _
  have hrow := way_each hx hn sec hq
  have hw : (wayB (treeV x.t) name (keysX x name sec) q H).flatten.length = H * n := by rw [way_flat]; exact catR_len H hrow
  have e : lsigB x name sec q text = putB q 4 ++ (sigB (otsV x.o) name sec q text ++ (putB x.t.toNat 4 ++ (wayB (treeV x.t) name (keysX x name sec) q H).flatten)) := by rw [lsigB, hHn]
  have d1 : (lsigB x name sec q text).drop 4 = sigB (otsV x.o) name sec q text ++ (putB x.t.toNat 4 ++ (wayB (treeV x.t) name (keysX x name sec) q H).flatten) := by rw [e]; exact drop_at p1
  have d2 : (lsigB x name sec q text).drop (4 + sizeN (otsV x.o)) = putB x.t.toNat 4 ++ (wayB (treeV x.t) name (keysX x name sec) q H).flatten := by rw [← List.drop_drop, d1]; exact drop_at s1
  have d3 : (lsigB x name sec q text).drop (8 + sizeN (otsV x.o)) = (wayB (treeV x.t) name (keysX x name sec) q H).flatten := by
    rw [show 8 + sizeN (otsV x.o) = (4 + sizeN (otsV x.o)) + 4 by omega, ← List.drop_drop, d2]; exact drop_at p2
  refine ⟨?_, ?_, ?_, ?_, ?_⟩
  · rw [e, List.length_append, List.length_append, List.length_append, p1, p2, s1, hw, z2, Nat.mul_comm H n]; omega
  · rw [e]; exact take_at p1
  · rw [d1]; exact take_at s1
  · rw [d2]; exact take_at p2
  · rw [fitWay, wayS, hHn, hnn, wayB]
    refine List.map_congr_left <| fun i hi => ?_
    rw [← List.drop_drop, d3, way_flat]
    exact catR_row hrow (List.mem_range.1 hi)
theorem pub_parts {x : PairV} {n w p H : Nat} (hx : PF x n w p H) {name : List UInt8} (hn : name.length = 16) (sec : List UInt8) :
    (pubB x name sec).length = 24 + n ∧ pairC (pubB x name sec) = x ∧ (pubB x name sec).take 8 = putB x.t.toNat 4 ++ putB x.o.toNat 4 ∧ nameP (pubB x name sec) = name ∧ (pubB x name sec).drop 24 = rootB (treeV x.t) name (keysX x name sec) := by
  have p1 : (putB x.t.toNat 4).length = 4 := putB_length 4 _
  have p2 : (putB x.o.toNat 4).length = 4 := putB_length 4 _
  have hr := root_len hx.s hn hx.th (keysX_len hx name sec)
  rw [hx.tn] at hr
  have d1 : (pubB x name sec).drop 4 = putB x.o.toNat 4 ++ (name ++ rootB (treeV x.t) name (keysX x name sec)) := drop_at p1
  have d2 : (pubB x name sec).drop 8 = name ++ rootB (treeV x.t) name (keysX x name sec) := by
    rw [show 8 = 4 + 4 from rfl, ← List.drop_drop, d1]; exact drop_at p2
  have h1 := x.o.toNat_lt
  have h2 := x.t.toNat_lt
  refine ⟨?_, ?_, ?_, ?_, ?_⟩
  · rw [pubB, List.length_append, List.length_append, List.length_append, p1, p2, hn]; omega
  · rw [pairC, d1, take_at p2, show (pubB x name sec).take 4 = putB x.t.toNat 4 from take_at p1, getB_put, getB_put, Nat.mod_eq_of_lt (by omega), Nat.mod_eq_of_lt (by omega)]
    rw [UInt32.ofNat_toNat, UInt32.ofNat_toNat]
  · rw [pubB, ← List.append_assoc]; exact take_at (by rw [List.length_append, p1, p2])
  · rw [nameP, d2]; exact take_at hn
  · rw [show 24 = 8 + 16 from rfl, ← List.drop_drop, d2]; exact drop_at hn
end Go.Proofs.YtiimjodbaogjbaaGreatDoor
