/-
Contracts of functions, each proved by a walk through its code.
-/
import Derived.Test.YtiimjodbaogjbaaGreatDoorOnce1Etc
import Derived.Test.YtiimjodbaogjbaaGreatDoorRef4Etc
import Derived.Test.YtiimjodbaogjbaaGreatDoorEngWEtc
set_option linter.unusedVariables false
set_option linter.unusedSimpArgs false
set_option linter.constructorNameAsVariable false
namespace Go.Proofs.YtiimjodbaogjbaaGreatDoor
open Go Go.Eng
section
variable {G : World} {M : Mem} {L : Own}
theorem RLeaves_spec (t : TreeV) :
    Con Tryz.prog 96 #[.agg (List.toArray t.cells)] G M L (fun v M' L' => M = M' ∧ L = L' ∧ v = .int .u64 (leavesN t.h : Nat)) noPanic := by
  refine enter (args := [_]) (fn := Tryz.f96) ⟨Tryz.func96, rfl, by kernel_rfl, by kernel_rfl⟩ 22 rfl <| zr <| tl_e rfl <| e_box rfl <| fun b1 => as0 rfl rfl <| zq <| zr <| as0 rfl rfl <| zq <| zr2 <| tl_y rfl (y_fieldAddr rfl) ?_
  refine tl_y rfl (y_ld rfl rfl) <| tl_y rfl (y_lss rfl rfl) <| mvB rfl rfl <| tl_cases (s := 8) rfl (fun hk1 => ?_) (fun hk1 => ?_)
  ·
    refine tl_skip rfl <| tl_skip rfl <| tl_skip rfl <| tl_y rfl (y_pickT rfl rfl) <| zq <| .s3 1 3 12 rfl rfl rfl <| x_true rfl rfl <| zr <| as0 rfl rfl <| zq ?_
    refine x_ret (.then_ret (.dropTo L inferInstance (ret1 rfl rfl (Le.refl _) ⟨rfl, rfl, by rw [leavesN, if_pos (by omega)]; rfl⟩)))
  ·
    refine tl_y rfl (y_fieldAddr rfl) <| tl_y rfl (y_ld rfl rfl) <| tl_y rfl (y_gtr rfl rfl) <| tl_y rfl (y_pickF rfl rfl) <| zq <| .s3 1 3 12 rfl rfl rfl <| x_cond rfl (fun hc1 => ?_) (fun hc1 => ?_)
    ·
      refine zr <| as0 rfl rfl <| zq <| x_ret (.then_ret (.dropTo L inferInstance (ret1 rfl rfl (Le.refl _) ⟨rfl, rfl, by rw [leavesN, if_pos (by omega)]; rfl⟩)))
    ·
      obtain ⟨h', hh⟩ : ∃ h' : Nat, t.h = (h' : Int) := ⟨t.h.toNat, by omega⟩
      have hlv : leavesN t.h = pw2 h' := by rw [leavesN, if_neg (by omega), hh, Int.toNat_natCast]
      rw [hlv]
      refine x_skip <| .then_normal <| zr2 <| as0 rfl rfl <| zq <| x_block ?_
      refine x_loop (I := fun m' F D M2 L2 => ∃ k : Nat, m' = h' - k ∧ k ≤ h' ∧ D = [] ∧ M = M2 ∧ (b1, .cells (List.toArray t.cells) 29 (0, 0)) :: L = L2 ∧ F = [(1, .pointer (some ⟨b1, 0, none⟩)), (3, .int .u64 (pw2 k : Nat)), (4, .int .i64 k)]) (h') (F0 := [(1, _), (3, _), (4, _)]) ?_ (.cons rfl (.cons rfl (.cons rfl .nil))) ?_  -- slots [1, 3, 4], written [3, 4]
      · exact ⟨0, rfl, by omega, rfl, rfl, rfl, rfl⟩
      rintro m _ _ _ _ ⟨k, rfl, hk, rfl, rfl, rfl, rfl⟩
      refine zr2 <| mvI rfl rfl <| tl_y rfl (y_fieldAddr rfl) <| tl_y rfl (y_ld rfl rfl) <| tl_y rfl (y_lss rfl rfl) <| zq <| x_cond rfl (fun hc2 => ?_) (fun hc2 => ?_)
      ·
        have hpk := pw2_25 (h := k) (by omega)
        refine x_skip <| .then_normal <| .s3 1 3 4 rfl rfl rfl <| x_seq <| x_block <| x_region <| mvI rfl rfl <| tl_y rfl (y_mulN64 rfl rfl (by omega)) ?_
        rw [pw2_succ]
        refine asI rfl rfl <| tl_nil <| .block_normal <| .then_normal <| x_region <| mvI rfl rfl <| tl_y rfl (y_addI rfl rfl (by omega)) <| asI rfl rfl <| tl_nil <| .loop_next (m' := h' - (k + 1)) (by omega) (F' := [(1, _), (3, _), (4, _)]) (.cons rfl (.cons rfl (.cons rfl .nil))) ?_
        exact ⟨k + 1, rfl, by omega, rfl, rfl, rfl, rfl⟩
      ·
        obtain rfl : k = h' := by omega
        refine x_exit <| .then_exit <| .loop_exit <| .block_exit <| .then_normal <| .s1 3 rfl <| zr <| mvI rfl rfl <| asI rfl rfl <| zq <| x_ret (.dropTo L inferInstance (ret1 rfl rfl (Le.refl _) ⟨rfl, rfl, rfl⟩))
theorem RTree_spec (code : UInt32) :
  Con Tryz.prog 55 #[.int .u32 (code.toNat : Int)] G M L (fun v M' L' => M = M' ∧ L = L' ∧ v = .tuple #[.agg (List.toArray (treeV code).cells), .int .i64 (treeE code)]) noPanic := by
 have hc := code.toNat_lt
 refine enter (args := [_]) (fn := Tryz.f55) ⟨Tryz.func55, rfl, by kernel_rfl, by kernel_rfl⟩ 56 rfl <| zr <| tl_e rfl <| e_alloc <| fun b1 => as0 rfl rfl <| zq <| x_seq <| x_join (I := fun F D M2 L2 => ∃ b : Bool, (b = true ↔ (5 ≤ code.toNat ∧ code.toNat ≤ 24)) ∧ D = [] ∧ M = M2 ∧ (b1, .cells (List.toArray tree0.cells) 29 (0, 0)) :: L = L2 ∧ F = [(0, .int .u32 (code.toNat : Int)), (2, .pointer (some ⟨b1, 0, none⟩)), (13, .bool b)]) ?_ (fun Jq1 => ?_)
 ·
  rintro _ _ _ _ ⟨t1, ht1, rfl, rfl, rfl, rfl⟩  -- slots [0, 2, 13]
  refine x_condb rfl (fun hc1 => ?_) (fun hc1 => ?_)
  ·
   have h5 := ht1.1 hc1
   obtain ⟨i, hi⟩ : ∃ i, i = code.toNat - 5 := ⟨_, rfl⟩
   have hto : treeOf code = some (treeT code i 5) := by rw [treeOf, if_pos h5, hi]
   refine zr <| mvI rfl rfl <| tl_y rfl (y_subN32 rfl rfl (by omega)) <| tl_y rfl (y_convI rfl (by omega)) ?_
   rw [show (code.toNat : Int) - 5 = (i : Int) by omega]
   refine tl_y rfl (y_quoI rfl rfl (by omega)) ?_
   rw [show (i : Int) / 5 = ((i / 5 : Nat) : Int) by omega]
   refine tl_e rfl <| e_call' rfl (Rsize_spec (i / 5) (by omega)) ?_
   rintro _ _ _ _ ⟨rfl, rfl, rfl⟩
   refine mvU rfl rfl <| zx rfl rfl <| zx rfl rfl <| asI rfl rfl <| asI rfl rfl <| zq <| .s4 0 2 4 5 rfl rfl rfl rfl <| zr <| mvI rfl rfl <| mvI rfl rfl ?_
   refine mvI rfl rfl <| mvI rfl rfl <| tl_y rfl (y_subN32 rfl rfl (by omega)) <| tl_y rfl (y_convI rfl (by omega)) <| tl_y rfl (y_remI rfl rfl (by omega)) <| tl_y rfl (y_addI rfl rfl (by omega)) <| tl_y rfl (y_mulI rfl rfl (by omega)) ?_
   rw [show 5 * ((1 : Int) + ((code.toNat : Int) - 5) % 5) = ((5 * (1 + i % 5) : Nat) : Int) by omega]
   refine tl_y rfl (y_build rfl) <| tl_e rfl <| e_st rfl rfl (by rfl) (by rfl) <| as0 rfl rfl <| zq <| .s2 2 3 rfl rfl <| x_ret (.then_ret (retRV (L' := L) (rv2 rfl (rc_cellAgg (by rfl) rfl (.own inferInstance inferInstance)) (rc_tmp (by rfl))) inferInstance (Le.refl _) ⟨rfl, rfl, by rw [treeV, treeE, hto]; rfl⟩))
  ·
   have hn5 : ¬ (5 ≤ code.toNat ∧ code.toNat ≤ 24) := fun h => by rw [ht1.2 h] at hc1; cases hc1
   refine x_skip <| .then_normal <| x_seq <| x_join (I := fun F D M2 L2 => ∃ b : Bool, (b = true ↔ (4026531841 ≤ code.toNat ∧ code.toNat ≤ 4026531856)) ∧ D = [] ∧ M = M2 ∧ (b1, .cells (List.toArray tree0.cells) 29 (0, 0)) :: L = L2 ∧ F = [(0, .int .u32 (code.toNat : Int)), (2, .pointer (some ⟨b1, 0, none⟩)), (37, .bool b)]) ?_ (fun Jq4 => ?_)
   ·
    rintro _ _ _ _ ⟨t2, ht2, rfl, rfl, rfl, rfl⟩  -- slots [0, 2, 37]
    refine x_condb rfl (fun hc2 => ?_) (fun hc2 => ?_)
    ·
     have h5 := ht2.1 hc2
     obtain ⟨i, hi⟩ : ∃ i, i = code.toNat - 4026531841 := ⟨_, rfl⟩
     have hto : treeOf code = some (treeT code i 4) := by rw [treeOf, if_neg (by omega), if_pos h5, hi]
     refine zr <| mvI rfl rfl <| tl_y rfl (y_subN32 rfl rfl (by omega)) <| tl_y rfl (y_convI rfl (by omega)) ?_
     rw [show (code.toNat : Int) - 4026531841 = (i : Int) by omega]
     refine tl_y rfl (y_quoI rfl rfl (by omega)) ?_
     rw [show (i : Int) / 4 = ((i / 4 : Nat) : Int) by omega]
     refine tl_e rfl <| e_call' rfl (Rsize_spec (i / 4) (by omega)) ?_
     rintro _ _ _ _ ⟨rfl, rfl, rfl⟩
     refine mvU rfl rfl <| zx rfl rfl <| zx rfl rfl <| asI rfl rfl <| asI rfl rfl <| zq <| .s4 0 2 6 7 rfl rfl rfl rfl <| zr <| mvI rfl rfl <| mvI rfl rfl ?_
     refine mvI rfl rfl <| mvI rfl rfl <| tl_y rfl (y_subN32 rfl rfl (by omega)) <| tl_y rfl (y_convI rfl (by omega)) <| tl_y rfl (y_remI rfl rfl (by omega)) <| tl_y rfl (y_addI rfl rfl (by omega)) ?_
     rw [show (1 : Int) + ((code.toNat : Int) - 4026531841) % 4 = ((1 + i % 4 : Nat) : Int) by omega]
     refine tl_y rfl (y_build rfl) <| tl_e rfl <| e_st rfl rfl (by rfl) (by rfl) <| as0 rfl rfl <| zq <| .s2 2 3 rfl rfl <| x_ret (.then_ret (retRV (L' := L) (rv2 rfl (rc_cellAgg (by rfl) rfl (.own inferInstance inferInstance)) (rc_tmp (by rfl))) inferInstance (Le.refl _) ⟨rfl, rfl, by rw [treeV, treeE, hto]; rfl⟩))
    ·
     have hn6 : ¬ (4026531841 ≤ code.toNat ∧ code.toNat ≤ 4026531856) := fun h => by rw [ht2.2 h] at hc2; cases hc2
     have hto : treeOf code = none := by rw [treeOf, if_neg hn5, if_neg hn6]
     refine x_skip <| .then_normal <| zr <| tl_y rfl (y_build rfl) <| tl_e rfl <| e_st rfl rfl (by rfl) (by rfl) <| as0 rfl rfl <| zq <| x_ret (retRV (L' := L) (rv2 rfl (rc_cellAgg (by rfl) rfl (.own inferInstance inferInstance)) (rc_tmp (by rfl))) inferInstance (Le.refl _) ⟨rfl, rfl, by rw [treeV, treeE, hto]; rfl⟩)
   ·
    refine x_region <| mvI rfl rfl <| tl_y rfl (y_geq rfl rfl) <| mvB rfl rfl <| tl_cases (s := 34) rfl (fun hk1 => ?_) (fun hk1 => ?_)
    ·
     refine mvI rfl rfl <| tl_y rfl (y_leq rfl rfl) <| tl_y rfl (y_pickT rfl rfl) <| zq <| .sub (F' := [(0, _), (2, _), (37, _)]) (.cons rfl (.cons rfl (.cons rfl .nil))) <| Jq4 _ _ _ _ ?_
     exact ⟨_, by first | (simp; done) | (simp; omega) | omega, rfl, rfl, rfl, rfl⟩
    ·
     refine tl_skip rfl <| tl_skip rfl <| tl_y rfl (y_pickF rfl rfl) <| zq <| .sub (F' := [(0, _), (2, _), (37, _)]) (.cons rfl (.cons rfl (.cons rfl .nil))) <| Jq4 _ _ _ _ ?_
     exact ⟨_, by first | (simp; done) | (simp; omega) | omega, rfl, rfl, rfl, rfl⟩
 ·
  refine x_region <| mvI rfl rfl <| tl_y rfl (y_geq rfl rfl) <| mvB rfl rfl <| tl_cases (s := 10) rfl (fun hk2 => ?_) (fun hk2 => ?_)
  ·
   refine mvI rfl rfl <| tl_y rfl (y_leq rfl rfl) <| tl_y rfl (y_pickT rfl rfl) <| zq <| .sub (F' := [(0, _), (2, _), (13, _)]) (.cons rfl (.cons rfl (.cons rfl .nil))) <| Jq1 _ _ _ _ ?_
   exact ⟨_, by first | (simp; done) | (simp; omega) | omega, rfl, rfl, rfl, rfl⟩
  ·
   refine tl_skip rfl <| tl_skip rfl <| tl_y rfl (y_pickF rfl rfl) <| zq <| .sub (F' := [(0, _), (2, _), (13, _)]) (.cons rfl (.cons rfl (.cons rfl .nil))) <| Jq1 _ _ _ _ ?_
   exact ⟨_, by first | (simp; done) | (simp; omega) | omega, rfl, rfl, rfl, rfl⟩
end
end Go.Proofs.YtiimjodbaogjbaaGreatDoor
set_option linter.unusedVariables false
set_option linter.unusedSimpArgs false
set_option linter.constructorNameAsVariable false
namespace Go.Proofs.YtiimjodbaogjbaaGreatDoor
open Go Go.Eng
section
variable {G : World} {M : Mem} {L : Own}
theorem RSet_spec (t : TreeV) {NA : Option Addr} {nl nc : Nat} :
    Con Tryz.prog 163 #[.agg (List.toArray t.cells), .slice NA nl nc] G M L (fun v M' L' => M = M' ∧ L = L' ∧ v = .bool (decide (okS t nl))) noPanic := by
  refine enter (args := [_, _]) (fn := Tryz.f163) ⟨Tryz.func163, rfl, by kernel_rfl, by kernel_rfl⟩ 25 rfl <| zr <| tl_e rfl <| e_box rfl <| fun b1 => as0 rfl rfl <| zq <| zr <| tl_y rfl (y_fieldAddr rfl) <| tl_y rfl (y_ld rfl rfl) <| tl_e rfl <| e_call' rfl (RTree_spec t.code) ?_
  rintro _ _ _ _ ⟨rfl, rfl, rfl⟩
  refine mvU rfl rfl <| zx rfl rfl <| zx rfl rfl <| tl_e rfl <| e_alloc <| fun b2 => tl_e rfl <| e_st rfl rfl (by rfl) (by rfl) <| asI rfl rfl <| zq <| .s4 1 2 5 6 rfl rfl rfl rfl <| x_join (I := fun F D M2 L2 => ∃ b : Bool, (b = true ↔ okS t nl) ∧ D = [] ∧ M = M2 ∧ DropTo L2 L ∧ F = [(4, .bool b)]) ?_ (fun Jq2 => ?_)
  ·
    rintro _ _ _ L2 ⟨b, hb, rfl, rfl, hdr, rfl⟩  -- slots [4]
    refine x_ret (.dropTo L hdr (ret1 rfl rfl (Le.refl _) ⟨rfl, rfl, by rw [bool_iff hb]⟩))
  ·
    refine x_region <| mvI rfl rfl <| tl_y rfl (y_eql rfl rfl) <| mvB rfl rfl <| tl_cases (s := 15) rfl (fun hk1 => ?_) (fun hk1 => ?_)
    ·
      refine tl_y rfl (y_lg rfl rfl) <| tl_y rfl (y_lg rfl rfl) <| tl_y rfl (y_eqlS rfl rfl eqs29) <| tl_y rfl (y_pickT rfl rfl) <| mvB rfl rfl <| tl_cases (s := 20) rfl (fun hk2 => ?_) (fun hk2 => ?_)
      ·
        refine mvS rfl rfl <| tl_y rfl (y_len rfl) <| tl_y rfl (y_eql rfl rfl) <| tl_y rfl (y_pickT rfl rfl) <| asB rfl rfl <| zq <| .sub (F' := [(4, _)]) (.cons rfl .nil) <| Jq2 _ _ _ _ ?_
        exact ⟨_, by
          constructor
          · intro ht
            first | (cases ht; done) | (simp at ht; exact ⟨hk1, tree_eq hk2, by omega⟩)
          · rintro ⟨a1, a2, a3⟩
            first | exact absurd a1 hk1 | exact absurd (eq_tree a2) hk2 | (simp; omega) | omega, rfl, rfl, inferInstance, rfl⟩
      ·
        refine tl_skip rfl <| tl_skip rfl <| tl_skip rfl <| tl_y rfl (y_pickF rfl rfl) <| asB rfl rfl <| zq <| .sub (F' := [(4, _)]) (.cons rfl .nil) <| Jq2 _ _ _ _ ?_
        exact ⟨_, by
          constructor
          · intro ht
            first | (cases ht; done) | (simp at ht; exact ⟨hk1, tree_eq hk2, by omega⟩)
          · rintro ⟨a1, a2, a3⟩
            first | exact absurd a1 hk1 | exact absurd (eq_tree a2) hk2 | (simp; omega) | omega, rfl, rfl, inferInstance, rfl⟩
    ·
      refine tl_skip rfl <| tl_skip rfl <| tl_skip rfl <| tl_y rfl (y_pickF rfl rfl) <| mvB rfl rfl <| tl_skip rfl <| tl_skip rfl <| tl_skip rfl <| tl_y rfl (y_pickF rfl rfl) <| asB rfl rfl ?_
      refine zq <| .sub (F' := [(4, _)]) (.cons rfl .nil) <| Jq2 _ _ _ _ ?_
      exact ⟨_, by
        constructor
        · intro ht
          first | (cases ht; done) | (simp at ht; exact ⟨hk1, tree_eq hk2, by omega⟩)
        · rintro ⟨a1, a2, a3⟩
          first | exact absurd a1 hk1 | exact absurd (eq_tree a2) hk2 | (simp; omega) | omega, rfl, rfl, inferInstance, rfl⟩
end
end Go.Proofs.YtiimjodbaogjbaaGreatDoor
set_option linter.unusedVariables false
set_option linter.unusedSimpArgs false
set_option linter.constructorNameAsVariable false
namespace Go.Proofs.YtiimjodbaogjbaaGreatDoor
open Go Go.Eng
section
variable {G : World} {M : Mem} {L : Own}
theorem RClimb_spec (t : TreeV) {NA : Option Addr} {nl nc : Nat} {name : List UInt8} (hname : Bytes M NA nl nc name) (q : UInt32) {KA : Option Addr} {kl kc : Nat} {key : List UInt8} (hkey : Bytes M KA kl kc key) (hkl : kl ≤ 1000000000000) {WA : Option Addr} {wl wc : Nat} {wvs : List Value} {way : List (List UInt8)} (h : Row M 1 WA wl wc wvs) (hw : BRows M wvs way) :
    Con Tryz.prog 103 #[.agg (List.toArray t.cells), .slice NA nl nc, .int .u32 (q.toNat : Int), .slice KA kl kc, .slice WA wl wc] G M L (fun v M' L' => L = L' ∧ ∃ A' m' c', v = .tuple #[.slice A' m' c', .int .i64 (climbE t nl q.toNat way)] ∧ Bytes M' A' m' c' (climbB t name q.toNat key way)) noPanic := by
  have hmx := h.max
  have hle := h.le
  have hvl := hw.len
  have hwn : wvs.length = wl := by have := h.len; omega
  have hnl := hname.size
  have hqq := q.toNat_lt
  have hno : ∀ {A' : Option Addr} {m' c' : Nat} {M' : Mem}, ¬ okW t nl q.toNat way → ∃ A' m' c', (Value.tuple #[.slice none 0 0, .int .i64 1]) = .tuple #[.slice A' m' c', .int .i64 (climbE t nl q.toNat way)] ∧ Bytes M' A' m' c' (climbB t name q.toNat key way) := by
    intro _ _ _ M' hn
    rw [climbE, if_neg hn, climbB, if_neg (by rw [hnl]; exact hn)]
    exact ⟨_, _, _, rfl, Row.nil _ _⟩
  refine enter (args := [_, _, _, _, _]) (fn := Tryz.f103) ⟨Tryz.func103, rfl, by kernel_rfl, by kernel_rfl⟩ 98 rfl <| zr <| tl_e rfl <| e_box rfl <| fun b1 => as0 rfl rfl <| as0 rfl rfl <| zq <| zr2 <| tl_y rfl (y_lg rfl rfl) <| mvS rfl rfl <| tl_e rfl <| e_call' rfl (RSet_spec t) ?_
  rintro _ _ _ _ ⟨rfl, rfl, rfl⟩
  refine tl_y rfl (y_notd rfl) <| mvB rfl rfl <| tl_cases (s := 21) rfl (fun hk1 => ?_) (fun hk1 => ?_)
  ·
    refine tl_skip rfl <| tl_skip rfl <| tl_skip rfl <| tl_skip rfl <| tl_skip rfl <| tl_y rfl (y_pickT rfl rfl) <| mvB rfl rfl <| tl_skip rfl <| tl_skip rfl <| tl_skip rfl ?_
    refine tl_skip rfl <| tl_skip rfl <| tl_y rfl (y_pickT rfl rfl) <| zq <| .s8 1 2 3 4 5 10 11 34 rfl rfl rfl rfl rfl rfl rfl rfl <| x_true rfl rfl <| zr <| as0 rfl rfl <| as0 rfl rfl <| zq ?_
    refine .s2 10 11 rfl rfl <| x_ret (.then_ret (.dropTo L inferInstance (ret2 rfl rfl rfl (Le.refl _) ⟨rfl, hno (A' := none) (m' := 0) (c' := 0) (fun h => hk1 h.1)⟩)))
  ·
    have hok : okS t nl := Classical.not_not.1 hk1
    obtain ⟨hokc, H, hH, hH1, hH25, hlv⟩ := okS_facts hok
    have hpw := pw2_25 hH25
    refine mvI rfl rfl <| tl_y rfl (y_convN64 rfl (by omega)) <| tl_y rfl (y_lg rfl rfl) <| tl_e rfl <| e_call' rfl (RLeaves_spec t) ?_
    rintro _ _ _ _ ⟨rfl, rfl, rfl⟩
    rw [hlv]
    refine tl_y rfl (y_geq rfl rfl) <| tl_y rfl (y_pickF rfl rfl) <| mvB rfl rfl <| tl_cases (s := 28) rfl (fun hk2 => ?_) (fun hk2 => ?_)
    ·
      refine tl_skip rfl <| tl_skip rfl <| tl_skip rfl <| tl_skip rfl <| tl_skip rfl <| tl_y rfl (y_pickT rfl rfl) <| zq <| .s8 1 2 3 4 5 10 11 34 rfl rfl rfl rfl rfl rfl rfl rfl <| x_true rfl rfl <| zr ?_
      refine as0 rfl rfl <| as0 rfl rfl <| zq <| .s2 10 11 rfl rfl <| x_ret (.then_ret (.dropTo L inferInstance (ret2 rfl rfl rfl (Le.refl _) ⟨rfl, hno (A' := none) (m' := 0) (c' := 0) (fun h => by have := h.2.1; omega)⟩)))
    ·
      refine mvS rfl rfl <| tl_y rfl (y_len rfl) <| tl_y rfl (y_fieldAddr rfl) <| tl_y rfl (y_ld rfl rfl) <| tl_y rfl (y_neq rfl rfl) <| tl_y rfl (y_pickF rfl rfl) <| zq <| .s8 1 2 3 4 5 10 11 34 rfl rfl rfl rfl rfl rfl rfl rfl <| x_cond rfl (fun hc1 => ?_) (fun hc1 => ?_)
      ·
        refine zr <| as0 rfl rfl <| as0 rfl rfl <| zq <| .s2 10 11 rfl rfl <| x_ret (.then_ret (.dropTo L inferInstance (ret2 rfl rfl rfl (Le.refl _) ⟨rfl, hno (A' := none) (m' := 0) (c' := 0) (fun h => by have := h.2.2.1; omega)⟩)))
      ·
        have hwl : wl = H := by omega
        have hq : q.toNat < pw2 H := by omega
        refine x_skip <| .then_normal <| zr2 <| as0 rfl rfl <| zq <| x_block ?_
        refine x_loop (I := fun m' F D M3 L3 => ∃ k : Nat, m' = wl - k ∧ k ≤ wl ∧ anyBad t.n (way.take k) = false ∧ D = [] ∧ M = M3 ∧ (b1, .cells (List.toArray t.cells) 29 (0, 0)) :: L = L3 ∧ F = [(1, .slice NA nl nc), (2, .int .u32 (q.toNat : Int)), (3, .slice KA kl kc), (4, .slice WA wl wc), (5, .pointer (some ⟨b1, 0, none⟩)), (10, .slice none 0 0), (11, .int .i64 0), (12, .int .i64 k)]) (wl) (F0 := [(1, _), (2, _), (3, _), (4, _), (5, _), (10, _), (11, _), (12, _)]) ?_ (.cons rfl (.cons rfl (.cons rfl (.cons rfl (.cons rfl (.cons rfl (.cons rfl (.cons rfl .nil)))))))) ?_  -- slots [1, 2, 3, 4, 5, 10, 11, 12], written [10, 11, 12]
        · exact ⟨0, rfl, by omega, rfl, rfl, rfl, rfl, rfl⟩
        rintro m _ _ _ _ ⟨k, rfl, hkk, hb0, rfl, rfl, rfl, rfl⟩
        refine zr2 <| mvI rfl rfl <| mvS rfl rfl <| tl_y rfl (y_len rfl) <| tl_y rfl (y_lss rfl rfl) <| zq <| x_cond rfl (fun hc2 => ?_) (fun hc2 => ?_)
        ·
          have hkw : k < wl := by omega
          obtain ⟨g, o, rfl, hcell⟩ := h.addr (by omega)
          obtain ⟨A4, n4, c4, hv4, hb4⟩ := hw.get k (by omega)
          have hn4 := hb4.size
          refine x_skip <| .then_normal <| .s8 1 2 3 4 5 10 11 12 rfl rfl rfl rfl rfl rfl rfl rfl <| x_seq <| x_block <| x_seq <| x_draw 8 hmix rfl <| zp 0 rfl rfl (y_move (v := .slice _ _ _) rfl) <| zp 1 rfl rfl (y_move (v := .int _ _) rfl) <| zp 2 rfl rfl (y_indexAddr rfl rfl (by omega)) <| zy 3 rfl rfl (y_load rfl rfl (.at_ (hcell _ k _ hv4) (by omega))) ?_
          refine zp 4 rfl rfl (y_len rfl) <| zp 5 rfl rfl (y_fieldAddr rfl) <| zy 6 rfl rfl (y_ld rfl rfl) <| zp 7 rfl rfl (y_neq rfl rfl) <| zz <| .then_normal <| .sub (F' := [(1, _), (2, _), (3, _), (4, _), (5, _), (10, _), (11, _), (12, _), (48, _)]) (.cons rfl (.cons rfl (.cons rfl (.cons rfl (.cons rfl (.cons rfl (.cons rfl (.cons rfl (.cons rfl .nil))))))))) <| x_cond rfl (fun hc3 => ?_) (fun hc3 => ?_)
          ·
            refine zr <| as0 rfl rfl <| as0 rfl rfl <| zq <| x_ret (.block_ret (.then_ret (.loop_ret (.block_ret (.then_ret (.dropTo L inferInstance (ret2 rfl rfl rfl (Le.refl _) ⟨rfl, hno (A' := none) (m' := 0) (c' := 0) (fun h => by have := h.2.2.2 _ (getD_mem way k [] (by omega)); omega)⟩)))))))
          ·
            refine x_skip <| .block_normal <| .then_normal <| x_region <| mvI rfl rfl <| tl_y rfl (y_addI rfl rfl (by omega)) <| asI rfl rfl <| tl_nil <| .loop_next (m' := wl - (k + 1)) (by omega) (F' := [(1, _), (2, _), (3, _), (4, _), (5, _), (10, _), (11, _), (12, _)]) (.cons rfl (.cons rfl (.cons rfl (.cons rfl (.cons rfl (.cons rfl (.cons rfl (.cons rfl .nil)))))))) ?_
            exact ⟨k + 1, rfl, by omega, by
              rw [take_snoc way k [] (by omega)]
              rw [anyBad_iff] at hb0 ⊢
              intro b hb
              rcases List.mem_append.1 hb with hb | hb
              · exact hb0 b hb
              · obtain rfl := List.mem_singleton.1 hb
                omega, rfl, rfl, rfl, rfl⟩
        ·
          obtain rfl : k = wl := by omega
          rw [List.take_of_length_le (by omega)] at hb0
          have hokW : okW t nl q.toNat way := ⟨hok, by omega, by omega, anyBad_iff.1 hb0⟩
          obtain ⟨p, hp⟩ : ∃ p : UInt32, p.toNat = pw2 H + q.toNat := ⟨UInt32.ofNat (pw2 H + q.toNat), by rw [UInt32.toNat_ofNat', Nat.mod_eq_of_lt (by omega)]⟩
          have hpp := p.toNat_lt
          refine x_exit <| .then_exit <| .loop_exit <| .block_exit <| .then_normal <| .s5 1 2 3 4 5 rfl rfl rfl rfl rfl <| zr <| tl_y rfl (y_lg rfl rfl) <| tl_e rfl <| e_call' rfl (RLeaves_spec t) ?_
          rintro _ _ _ _ ⟨rfl, rfl, rfl⟩
          rw [hlv]
          refine tl_y rfl (y_convN32 rfl (by omega)) <| mvI rfl rfl <| tl_y rfl (y_addN32 rfl rfl (by omega)) ?_
          rw [show ((pw2 H : Nat) : Int) + (q.toNat : Int) = ((p.toNat : Nat) : Int) by rw [hp]; omega]
          refine asI rfl rfl <| zq <| .s5 1 3 4 5 13 rfl rfl rfl rfl rfl <| zr <| tl_y rfl (y_fieldAddr rfl) <| tl_y rfl (y_ld rfl rfl) <| tl_y rfl (y_fieldAddr rfl) <| tl_y rfl (y_ld rfl rfl) <| mvS rfl rfl <| mvI rfl rfl ?_
          refine mvS rfl rfl <| tl_e rfl <| e_call' rfl (RPart_spec t.kind t.n hname p 33410 (by omega) hkey hkl) ?_
          rintro _ M2 _ hM2 ⟨rfl, A2, n2, c2, rfl, hA2⟩
          replace hA2 : Bytes M2 A2 n2 c2 (leafB t name q.toNat key) := by rw [leafB, hH, Int.toNat_natCast, ← hp]; exact hA2
          rw [show ((p.toNat : Nat) : Int) = ((p.toNat / pw2 0 : Nat) : Int) by rw [show pw2 0 = 1 from rfl, Nat.div_one]]
          refine asS rfl rfl <| zq <| .s5 1 4 5 13 14 rfl rfl rfl rfl rfl <| zr2 <| as0 rfl rfl <| zq <| x_block ?_
          refine x_loop (I := fun m' F D M3 L3 => ∃ (j : Nat) (A3 : Option Addr) (n3 c3 : Nat), m' = k - j ∧ j ≤ k ∧ Le M2 M3 ∧ Bytes M3 A3 n3 c3 (clX t name way p.toNat (leafB t name q.toNat key) j) ∧ D = [] ∧ (b1, .cells (List.toArray t.cells) 29 (0, 0)) :: L = L3 ∧ F = [(1, .slice NA nl nc), (4, .slice WA k wc), (5, .pointer (some ⟨b1, 0, none⟩)), (13, .int .u32 ((p.toNat / pw2 j : Nat) : Int)), (14, .slice A3 n3 c3), (15, .int .i64 j)]) (k) (F0 := [(1, _), (4, _), (5, _), (13, _), (14, _), (15, _)]) ?_ (.cons rfl (.cons rfl (.cons rfl (.cons rfl (.cons rfl (.cons rfl .nil)))))) ?_  -- slots [1, 4, 5, 13, 14, 15], written [13, 14, 15]
          · exact ⟨0, A2, n2, c2, rfl, by omega, Le.refl _, hA2, rfl, rfl, rfl⟩
          rintro m _ _ M3 _ ⟨j, A3, n3, c3, rfl, hjj, he, hA3, rfl, rfl, rfl⟩
          refine zr2 <| mvI rfl rfl <| mvS rfl rfl <| tl_y rfl (y_len rfl) <| tl_y rfl (y_lss rfl rfl) <| zq <| x_cond rfl (fun hc4 => ?_) (fun hc4 => ?_)
          ·
            have hjw : j < k := by omega
            have hd3 := hM2.trans he
            obtain ⟨g, o, rfl, hcell⟩ := (h.mono hd3).addr (by omega)
            obtain ⟨A4, n4, c4, hv4, hb4⟩ := hw.get j (by omega)
            have hn4 := hb4.size
            have hn4' := hokW.2.2.2 _ (getD_mem way j [] (by omega))
            have hn3 := hA3.size
            have hn3' := clX_le t name way p.toNat (leafB_le t name q.toNat key) j
            have hbig : t.n ≤ 32 := by rcases hokc.2 with h | h <;> omega
            obtain ⟨y, hy⟩ : ∃ y : UInt32, y.toNat = p.toNat / pw2 (j + 1) := ⟨UInt32.ofNat (p.toNat / pw2 (j + 1)), by
              have hdl := Nat.div_le_self p.toNat (pw2 (j + 1))
              rw [UInt32.toNat_ofNat', Nat.mod_eq_of_lt (by omega)]⟩
            obtain ⟨z, hz⟩ : ∃ z, z = p.toNat / pw2 j := ⟨_, rfl⟩
            have hyz : y.toNat = z / 2 := by rw [hy, hz, div_pw2]
            have hzl : z ≤ p.toNat := by rw [hz]; exact Nat.div_le_self _ _
            rw [← hz]
            refine x_skip <| .then_normal <| .s6 1 4 5 13 14 15 rfl rfl rfl rfl rfl rfl <| x_seq <| x_block <| x_seq <| x_draw0 7 ([]) Keeps.mem hmix rfl <| zp 1 rfl rfl (y_move (v := .slice _ _ _) rfl) <| zp 3 rfl rfl (y_move (v := .slice _ _ _) rfl) <| zp 4 rfl rfl (y_move (v := .int _ _) rfl) <| zp 5 rfl rfl (y_indexAddr rfl rfl (by omega)) ?_
            refine zy 6 rfl rfl (y_load rfl rfl (.at_ (hcell _ j _ hv4) (by omega))) <| ze 0 rfl rfl <| e_buildSlice0 <| fun b2 => ⟨⟨(by first | exact Le.refl _ | assumption), Keeps.mem⟩, ?_⟩
            refine ze 2 rfl rfl <| e_append1 (by decide) rfl rfl OwnRow.made00 (.row hA3) (all_one_bv _) (by omega) (by omega) <| fun A5 c5 E5 hE5 => ?_
            rw [Nat.zero_add, List.nil_append] at hE5
            rw [Nat.zero_add]
            refine ⟨⟨Le.refl _, Keeps.mem⟩, ?_⟩
            refine zt 7 rfl rfl <| e_append (by decide) rfl rfl hE5 (.row (hb4.mono hd3)) (all_one_bv _) (by omega) (by omega) <| fun A6 c6 E6 hE6 => ?_
            rw [← List.map_append] at hE6
            refine .pubRow hE6 <| fun M4 hM4 htext => ?_
            have hv5 : ∀ L, CellAt M4 L ⟨g, o + j, none⟩ _ := fun L w hw => hcell L j _ hv4 w ⟨fun b o h => hw.ro b o (hM4 b o h), hw.own⟩
            refine zp 8 rfl rfl (y_assign (v := .slice _ _ _) rfl) <| zz <| .then_normal <| .s7 1 4 5 13 14 15 16 rfl rfl rfl rfl rfl rfl rfl <| zr2 <| mvI rfl rfl <| tl_y rfl (y_remI rfl rfl (by omega)) <| tl_y rfl (y_eql rfl rfl) <| zq <| x_cond rfl (fun hc5 => ?_) (fun hc5 => ?_)
            ·
              refine x_region <| tl_e rfl <| e_buildSlice0 <| fun b3 => mvS rfl rfl <| mvI rfl rfl <| tl_y rfl (y_indexAddr rfl rfl (by omega)) <| tl_y rfl (y_load rfl rfl (.at_ (hv5 _) (by omega))) <| tl_e rfl <| e_append1 (by decide) rfl rfl OwnRow.made00 (.row (hb4.mono (hd3.trans hM4))) (all_one_bv _) (by omega) (by omega) <| fun A7 c7 E7 hE7 => ?_
              rw [Nat.zero_add, List.nil_append] at hE7
              rw [Nat.zero_add]
              refine mvS rfl rfl <| tl_e rfl <| e_append (by decide) rfl rfl hE7 (.row (hA3.mono hM4)) (all_one_bv _) (by omega) (by omega) <| fun A8 c8 E8 hE8 => ?_
              rw [← List.map_append] at hE8
              refine .pubRow hE8 <| fun M5 hM5 htext2 => asS rfl rfl <| zq <| .s7 1 4 5 13 14 15 16 rfl rfl rfl rfl rfl rfl rfl <| zr <| mvI rfl rfl <| tl_y rfl (y_quoN32 rfl rfl (by omega)) ?_
              rw [show ((z : Nat) : Int) / 2 = ((y.toNat : Nat) : Int) by rw [hyz]; omega]
              refine asI rfl rfl <| zq <| x_region <| tl_y rfl (y_fieldAddr rfl) <| tl_y rfl (y_ld rfl rfl) <| tl_y rfl (y_fieldAddr rfl) <| tl_y rfl (y_ld rfl rfl) <| mvS rfl rfl <| mvI rfl rfl <| mvS rfl rfl ?_
              refine tl_e rfl <| e_call' rfl (RPart_spec t.kind t.n (hname.mono (hd3.trans (hM4.trans hM5))) y 33667 (by omega) htext2 (by omega)) ?_
              rintro _ M6 _ hM6 ⟨rfl, A9, n9, c9, rfl, hA9⟩
              rw [hy] at hA9 ⊢
              refine asS rfl rfl <| tl_nil <| .block_normal <| .then_normal <| .s6 1 4 5 13 14 15 rfl rfl rfl rfl rfl rfl <| x_region <| mvI rfl rfl <| tl_y rfl (y_addI rfl rfl (by omega)) <| asI rfl rfl <| .dropTo ((b1, .cells (List.toArray t.cells) 29 (0, 0)) :: L) inferInstance <| tl_nil <| .loop_next (m' := k - (j + 1)) (by omega) (F' := [(1, _), (4, _), (5, _), (13, _), (14, _), (15, _)]) (.cons rfl (.cons rfl (.cons rfl (.cons rfl (.cons rfl (.cons rfl .nil)))))) ?_
              exact ⟨j + 1, A9, n9, c9, rfl, by omega, he.trans (hM4.trans (hM5.trans hM6)), by rw [clX, ← hz, if_pos (by omega)]; exact hA9, rfl, rfl, rfl⟩
            ·
              refine x_skip <| .then_normal <| zr <| mvI rfl rfl <| tl_y rfl (y_quoN32 rfl rfl (by omega)) ?_
              rw [show ((z : Nat) : Int) / 2 = ((y.toNat : Nat) : Int) by rw [hyz]; omega]
              refine asI rfl rfl <| zq <| .s7 1 4 5 13 14 15 16 rfl rfl rfl rfl rfl rfl rfl <| x_region <| tl_y rfl (y_fieldAddr rfl) <| tl_y rfl (y_ld rfl rfl) <| tl_y rfl (y_fieldAddr rfl) <| tl_y rfl (y_ld rfl rfl) <| mvS rfl rfl <| mvI rfl rfl ?_
              refine mvS rfl rfl <| tl_e rfl <| e_call' rfl (RPart_spec t.kind t.n (hname.mono (hd3.trans hM4)) y 33667 (by omega) htext (by omega)) ?_
              rintro _ M6 _ hM6 ⟨rfl, A9, n9, c9, rfl, hA9⟩
              rw [hy] at hA9 ⊢
              refine asS rfl rfl <| tl_nil <| .block_normal <| .then_normal <| .s6 1 4 5 13 14 15 rfl rfl rfl rfl rfl rfl <| x_region <| mvI rfl rfl <| tl_y rfl (y_addI rfl rfl (by omega)) <| asI rfl rfl <| .dropTo ((b1, .cells (List.toArray t.cells) 29 (0, 0)) :: L) inferInstance <| tl_nil <| .loop_next (m' := k - (j + 1)) (by omega) (F' := [(1, _), (4, _), (5, _), (13, _), (14, _), (15, _)]) (.cons rfl (.cons rfl (.cons rfl (.cons rfl (.cons rfl (.cons rfl .nil)))))) ?_
              exact ⟨j + 1, A9, n9, c9, rfl, by omega, he.trans (hM4.trans hM6), by rw [clX, ← hz, if_neg (by omega)]; exact hA9, rfl, rfl, rfl⟩
          ·
            obtain rfl : j = k := by omega
            refine x_exit <| .then_exit <| .loop_exit <| .block_exit <| .then_normal <| .s1 14 rfl <| zr <| mvS rfl rfl <| asS rfl rfl <| as0 rfl rfl <| zq <| x_ret (.dropTo L inferInstance (ret2 rfl rfl rfl (hM2.trans he) ⟨rfl, _, _, _, by rw [climbE, if_pos hokW], by
              rw [climbB, if_pos (by rw [hnl]; exact hokW), hH, Int.toNat_natCast, ← hp, show way.length = j by omega]
              exact hA3⟩))
end
end Go.Proofs.YtiimjodbaogjbaaGreatDoor
set_option linter.unusedVariables false
set_option linter.unusedSimpArgs false
set_option linter.constructorNameAsVariable false
namespace Go.Proofs.YtiimjodbaogjbaaGreatDoor
open Go Go.Eng
abbrev pcells (o : OtsV) (t : TreeV) : List Value := [.int .u32 (o.code.toNat : Int), .int .i64 o.kind, .int .i64 o.n, .int .i64 o.w, .int .i64 o.p, .int .i64 o.shift, .int .u32 (t.code.toNat : Int), .int .i64 t.kind, .int .i64 t.n, .int .i64 t.h]
section
variable {G : World} {M : Mem} {L : Own}
def lwrongv (e : Int) : Value := .iface 160 (.agg #[.int .i64 e])
def lwrong (e : Int) : List PanicEntry := [{ v := lwrongv e, recovered := false }]
def hwrongv (e : Int) : Value := .iface 164 (.agg #[.int .i64 e])
def hwrong (e : Int) : List PanicEntry := [{ v := hwrongv e, recovered := false }]
theorem lmust_spec (t : Bool) (e : Int) :
  Con Tryz.prog 63 #[.bool t, .int .i64 e] G M L (fun v M' L' => M = M' ∧ L = L' ∧ t = true) (fun ch M' L' => M = M' ∧ L = L' ∧ t = false ∧ ch = lwrong e) := by
 refine enter (args := [_, _]) (fn := Tryz.f63) ⟨Tryz.func63, rfl, by kernel_rfl, by kernel_rfl⟩ 9 rfl <| zr <| mvB rfl rfl <| tl_y rfl (y_not rfl) <| zq <| x_condb rfl (fun hc1 => ?_) (fun hc1 => ?_)
 ·
  refine x_region <| mvI rfl rfl <| tl_y rfl (y_build rfl) <| tl_y rfl (y_makeIface rfl (by intro _ h; cases h)) <| tl_e rfl (e_panic rfl (.ret (Le.refl _) ⟨rfl, rfl, by simpa using hc1, rfl⟩))
 ·
  refine x_skip (end0 rfl (Le.refl _) ⟨rfl, rfl, by simpa using hc1⟩)
theorem hmust_spec (t : Bool) (e : Int) :
  Con Tryz.prog 119 #[.bool t, .int .i64 e] G M L (fun v M' L' => M = M' ∧ L = L' ∧ t = true) (fun ch M' L' => M = M' ∧ L = L' ∧ t = false ∧ ch = hwrong e) := by
 refine enter (args := [_, _]) (fn := Tryz.f119) ⟨Tryz.func119, rfl, by kernel_rfl, by kernel_rfl⟩ 9 rfl <| zr <| mvB rfl rfl <| tl_y rfl (y_not rfl) <| zq <| x_condb rfl (fun hc1 => ?_) (fun hc1 => ?_)
 ·
  refine x_region <| mvI rfl rfl <| tl_y rfl (y_build rfl) <| tl_y rfl (y_makeIface rfl (by intro _ h; cases h)) <| tl_e rfl (e_panic rfl (.ret (Le.refl _) ⟨rfl, rfl, by simpa using hc1, rfl⟩))
 ·
  refine x_skip (end0 rfl (Le.refl _) ⟨rfl, rfl, by simpa using hc1⟩)
theorem caughtP1_ret {b c : Nat} {x : Int} {cs : List Value} : ConD Tryz.prog 124 #[.pointer (some ⟨b, 0, none⟩), .pointer (some ⟨c, 0, none⟩)] .returning G M ((c, .cells (List.toArray [.int .i64 x]) 38 (0, 0)) :: (b, .cells cs.toArray 86 (0, 0)) :: L) (fun u' M' L' => u' = .returning ∧ M' = M ∧ L' = (c, .cells (List.toArray [.int .i64 x]) 38 (0, 0)) :: (b, .cells cs.toArray 86 (0, 0)) :: L) := by
 refine enterRec (args := [_, _]) (fn := Tryz.f124) ⟨Tryz.func124, rfl, by kernel_rfl, by kernel_rfl⟩ 15 rfl rfl <| x_block <| zr <| tl_y rfl (y_eqNilIface rfl rfl) <| zq <| x_true rfl (rfl) <| x_region <| as0 rfl rfl <| tl_nil (.block_normal (.rec_normal (Le.refl _) ⟨rfl, rfl, rfl⟩))
theorem caughtP1_wrong {b c : Nat} {x e : Int} : ConD Tryz.prog 124 #[.pointer (some ⟨b, 0, none⟩), .pointer (some ⟨c, 0, none⟩)] (.panicking (lwrong e)) G M ((c, .cells (List.toArray [.int .i64 x]) 38 (0, 0)) :: (b, .cells (List.toArray [.int .u32 0, .int .i64 0, .int .i64 0, .int .i64 0, .int .i64 0, .int .i64 0, .int .u32 0, .int .i64 0, .int .i64 0, .int .i64 0]) 86 (0, 0)) :: L)
  (fun u' M' L' => u' = .panicking [{ v := lwrongv e, recovered := true }] ∧ M' = M ∧ L' = (c, .cells (List.toArray [.int .i64 e]) 38 (0, 0)) :: (b, .cells (List.toArray [.int .u32 0, .int .i64 0, .int .i64 0, .int .i64 0, .int .i64 0, .int .i64 0, .int .u32 0, .int .i64 0, .int .i64 0, .int .i64 0]) 86 (0, 0)) :: L) := by
 refine enterRec (args := [_, _]) (fn := Tryz.f124) ⟨Tryz.func124, rfl, by kernel_rfl, by kernel_rfl⟩ 15 rfl rfl <| x_block <| zr <| tl_y rfl (y_eqIfaceNil rfl rfl) <| zq <| x_false rfl (rfl) <| zr <| tl_y rfl (y_assertOk rfl (by intro _ h; cases h)) <| zx rfl rfl <| zx rfl rfl ?_
 refine zq <| x_true rfl (rfl) <| zr <| tl_e rfl <| e_alloc <| fun b7 => tl_e rfl <| e_st rfl rfl (by rfl) (by rfl) <| zq <| .s3 0 1 3 rfl rfl rfl <| zr <| tl_e rfl <| e_alloc <| fun b8 => zq ?_
 refine x_draw0 4 ((b7, .cells (List.toArray [.int .i64 e]) 160 (0, 0)) :: (b8, .cells (List.toArray [.int .u32 0, .int .i64 0, .int .i64 0, .int .i64 0, .int .i64 0, .int .i64 0, .int .u32 0, .int .i64 0, .int .i64 0, .int .i64 0]) 86 (0, 0)) :: []) Keeps.mem hmix rfl <| zy 0 rfl rfl (y_lg rfl rfl) <| zp 1 rfl rfl (y_fieldAddr rfl) <| zy 2 rfl rfl (y_ld rfl rfl) <| ze 3 rfl rfl <| e_st rfl rfl (by rfl) (by rfl) <| ⟨⟨(by first | exact Le.refl _ | assumption), Keeps.mem⟩, ?_⟩
 refine zt 4 rfl rfl <| e_st rfl rfl (by rfl) (by rfl) <| zz (.block_normal (.dropTo ((c, .cells (List.toArray [.int .i64 e]) 38 (0, 0)) :: (b, .cells (List.toArray [.int .u32 0, .int .i64 0, .int .i64 0, .int .i64 0, .int .i64 0, .int .i64 0, .int .u32 0, .int .i64 0, .int .i64 0, .int .i64 0]) 86 (0, 0)) :: L) inferInstance (.rec_normal (Le.refl _) ⟨rfl, rfl, rfl⟩)))
theorem caughtP_spec {wf : FuncId} {first cap : List Value} {K : OtsV → TreeV → Mem → Prop} {Kp : Int → Prop}
  (hw : ∀ p q, Con Tryz.prog wf (first ++ [] ++ cap).toArray G M (p :: q :: L) (fun v M' L' => L' = p :: q :: L ∧ ∃ (o : OtsV) (t : TreeV), v = .agg (List.toArray (pcells o t)) ∧ K o t M') (fun ch M' L' => L' = p :: q :: L ∧ ∃ e, Kp e ∧ ch = lwrong e)) :
  Con Tryz.prog 56 #[.func (.func wf) first.toArray cap.toArray] G M L (fun v M' L' => L' = L ∧ ((∃ (o : OtsV) (t : TreeV), v = .tuple #[.agg (List.toArray (pcells o t)), .int .i64 0] ∧ K o t M') ∨ (∃ e, v = .tuple #[.agg (List.toArray [.int .u32 0, .int .i64 0, .int .i64 0, .int .i64 0, .int .i64 0, .int .i64 0, .int .u32 0, .int .i64 0, .int .i64 0, .int .i64 0]), .int .i64 e] ∧ Kp e))) noPanic := by
 refine enterD (args := [_]) (fn := Tryz.f56) ⟨Tryz.func56, rfl, by kernel_rfl, by kernel_rfl⟩ 7 rfl <| zr <| tl_e rfl <| e_alloc <| fun b1 => tl_e rfl <| e_alloc <| fun b2 => zq <| zr <| tl_y rfl (y_makeFunc rfl rfl) <| tl_e rfl <| e_defer rfl rfl rfl <| zq <| zr ?_
 refine mvF rfl rfl <| tl_e rfl (e_callv rfl rfl (hw _ _) (by
  rintro _ M1 _ hM1 ⟨rfl, e, hr, rfl⟩
  refine .retD (cap := [_, _]) (args := []) caughtP1_wrong ?_
  rintro _ M2 _ hM2 ⟨rfl, rfl, rfl⟩
  exact .inl ⟨rfl, _, L, rv2 rfl (rc_cellAgg (by rfl) rfl (.own inferInstance inferInstance)) (rc_cell (by rfl) rfl (.own inferInstance inferInstance)), inferInstance, hM1, rfl, .inr ⟨e, rfl, hr⟩⟩) ?_)
 rintro _ M1 _ hM1 ⟨rfl, o, t, rfl, hk⟩
 refine tl_e rfl <| e_st rfl rfl (by rfl) (by rfl) <| tl_e rfl <| e_st rfl rfl (by rfl) (by rfl) <| zq <| .s2 2 3 rfl rfl <| x_ret <| .retD (cap := [_, _]) (args := []) (caughtP1_ret (cs := pcells o t)) ?_
 rintro _ M2 _ hM2 ⟨rfl, rfl, rfl⟩
 exact .inl ⟨rfl, _, L, rv2 rfl (rc_cellAgg (by rfl) rfl (.own inferInstance inferInstance)) (rc_cell (by rfl) rfl (.own inferInstance inferInstance)), inferInstance, hM1, rfl, .inl ⟨o, t, rfl, hk⟩⟩
theorem caughtU1_ret {b c : Nat} {x : Int} {cs : List Value} : ConD Tryz.prog 135 #[.pointer (some ⟨b, 0, none⟩), .pointer (some ⟨c, 0, none⟩)] .returning G M ((c, .cells (List.toArray [.int .i64 x]) 38 (0, 0)) :: (b, .cells cs.toArray 37 (0, 0)) :: L) (fun u' M' L' => u' = .returning ∧ M' = M ∧ L' = (c, .cells (List.toArray [.int .i64 x]) 38 (0, 0)) :: (b, .cells cs.toArray 37 (0, 0)) :: L) := by
 refine enterRec (args := [_, _]) (fn := Tryz.f135) ⟨Tryz.func135, rfl, by kernel_rfl, by kernel_rfl⟩ 15 rfl rfl <| x_block <| zr <| tl_y rfl (y_eqNilIface rfl rfl) <| zq <| x_true rfl (rfl) <| x_region <| as0 rfl rfl <| tl_nil (.block_normal (.rec_normal (Le.refl _) ⟨rfl, rfl, rfl⟩))
theorem caughtU1_wrong {b c : Nat} {x e : Int} : ConD Tryz.prog 135 #[.pointer (some ⟨b, 0, none⟩), .pointer (some ⟨c, 0, none⟩)] (.panicking (hwrong e)) G M ((c, .cells (List.toArray [.int .i64 x]) 38 (0, 0)) :: (b, .cells (List.toArray [.int .u64 0]) 37 (0, 0)) :: L)
  (fun u' M' L' => u' = .panicking [{ v := hwrongv e, recovered := true }] ∧ M' = M ∧ L' = (c, .cells (List.toArray [.int .i64 e]) 38 (0, 0)) :: (b, .cells (List.toArray [.int .u64 0]) 37 (0, 0)) :: L) := by
 refine enterRec (args := [_, _]) (fn := Tryz.f135) ⟨Tryz.func135, rfl, by kernel_rfl, by kernel_rfl⟩ 15 rfl rfl <| x_block <| zr <| tl_y rfl (y_eqIfaceNil rfl rfl) <| zq <| x_false rfl (rfl) <| zr <| tl_y rfl (y_assertOk rfl (by intro _ h; cases h)) <| zx rfl rfl <| zx rfl rfl ?_
 refine zq <| x_true rfl (rfl) <| zr <| tl_e rfl <| e_alloc <| fun b7 => tl_e rfl <| e_st rfl rfl (by rfl) (by rfl) <| zq <| .s3 0 1 3 rfl rfl rfl <| zr <| as0 rfl rfl <| zq ?_
 refine x_draw0 4 ((b7, .cells (List.toArray [.int .i64 e]) 164 (0, 0)) :: []) Keeps.mem hmix rfl <| zp 0 rfl rfl (y_move (v := .int _ _) rfl) <| zp 1 rfl rfl (y_fieldAddr rfl) <| zy 2 rfl rfl (y_ld rfl rfl) <| ze 3 rfl rfl <| e_st rfl rfl (by rfl) (by rfl) <| ⟨⟨(by first | exact Le.refl _ | assumption), Keeps.mem⟩, ?_⟩
 refine zt 4 rfl rfl <| e_st rfl rfl (by rfl) (by rfl) <| zz (.block_normal (.dropTo ((c, .cells (List.toArray [.int .i64 e]) 38 (0, 0)) :: (b, .cells (List.toArray [.int .u64 0]) 37 (0, 0)) :: L) inferInstance (.rec_normal (Le.refl _) ⟨rfl, rfl, rfl⟩)))
theorem caughtU_spec {wf : FuncId} {first cap : List Value} {K : Int → Mem → Prop} {Kp : Int → Prop}
  (hw : ∀ p q, Con Tryz.prog wf (first ++ [] ++ cap).toArray G M (p :: q :: L) (fun v M' L' => L' = p :: q :: L ∧ ∃ x : Int, v = .int .u64 x ∧ K x M') (fun ch M' L' => L' = p :: q :: L ∧ ∃ e, Kp e ∧ ch = hwrong e)) :
  Con Tryz.prog 74 #[.func (.func wf) first.toArray cap.toArray] G M L (fun v M' L' => L' = L ∧ ((∃ x : Int, v = .tuple #[.int .u64 x, .int .i64 0] ∧ K x M') ∨ (∃ e, v = .tuple #[.int .u64 0, .int .i64 e] ∧ Kp e))) noPanic := by
 refine enterD (args := [_]) (fn := Tryz.f74) ⟨Tryz.func74, rfl, by kernel_rfl, by kernel_rfl⟩ 7 rfl <| zr <| tl_e rfl <| e_alloc <| fun b1 => tl_e rfl <| e_alloc <| fun b2 => zq <| zr <| tl_y rfl (y_makeFunc rfl rfl) <| tl_e rfl <| e_defer rfl rfl rfl <| zq <| zr ?_
 refine mvF rfl rfl <| tl_e rfl (e_callv rfl rfl (hw _ _) (by
  rintro _ M1 _ hM1 ⟨rfl, e, hr, rfl⟩
  refine .retD (cap := [_, _]) (args := []) caughtU1_wrong ?_
  rintro _ M2 _ hM2 ⟨rfl, rfl, rfl⟩
  exact .inl ⟨rfl, _, L, rv2 rfl (rc_cell (by rfl) rfl (.own inferInstance inferInstance)) (rc_cell (by rfl) rfl (.own inferInstance inferInstance)), inferInstance, hM1, rfl, .inr ⟨e, rfl, hr⟩⟩) ?_)
 rintro _ M1 _ hM1 ⟨rfl, x, rfl, hk⟩
 refine tl_e rfl <| e_st rfl rfl (by rfl) (by rfl) <| tl_e rfl <| e_st rfl rfl (by rfl) (by rfl) <| zq <| .s2 2 3 rfl rfl <| x_ret <| .retD (cap := [_, _]) (args := []) (caughtU1_ret (cs := [.int .u64 x])) ?_
 rintro _ M2 _ hM2 ⟨rfl, rfl, rfl⟩
 exact .inl ⟨rfl, _, L, rv2 rfl (rc_cell (by rfl) rfl (.own inferInstance inferInstance)) (rc_cell (by rfl) rfl (.own inferInstance inferInstance)), inferInstance, hM1, rfl, .inl ⟨x, rfl, hk⟩⟩
theorem caughtS1_ret {b c : Nat} {x : Int} {cs : List Value} : ConD Tryz.prog 131 #[.pointer (some ⟨b, 0, none⟩), .pointer (some ⟨c, 0, none⟩)] .returning G M ((c, .cells (List.toArray [.int .i64 x]) 38 (0, 0)) :: (b, .cells cs.toArray 50 (0, 0)) :: L) (fun u' M' L' => u' = .returning ∧ M' = M ∧ L' = (c, .cells (List.toArray [.int .i64 x]) 38 (0, 0)) :: (b, .cells cs.toArray 50 (0, 0)) :: L) := by
 refine enterRec (args := [_, _]) (fn := Tryz.f131) ⟨Tryz.func131, rfl, by kernel_rfl, by kernel_rfl⟩ 15 rfl rfl <| x_block <| zr <| tl_y rfl (y_eqNilIface rfl rfl) <| zq <| x_true rfl (rfl) <| x_region <| as0 rfl rfl <| tl_nil (.block_normal (.rec_normal (Le.refl _) ⟨rfl, rfl, rfl⟩))
theorem caughtS1_wrong {b c : Nat} {x e : Int} : ConD Tryz.prog 131 #[.pointer (some ⟨b, 0, none⟩), .pointer (some ⟨c, 0, none⟩)] (.panicking (hwrong e)) G M ((c, .cells (List.toArray [.int .i64 x]) 38 (0, 0)) :: (b, .cells (List.toArray [.slice none 0 0]) 50 (0, 0)) :: L)
  (fun u' M' L' => u' = .panicking [{ v := hwrongv e, recovered := true }] ∧ M' = M ∧ L' = (c, .cells (List.toArray [.int .i64 e]) 38 (0, 0)) :: (b, .cells (List.toArray [.slice none 0 0]) 50 (0, 0)) :: L) := by
 refine enterRec (args := [_, _]) (fn := Tryz.f131) ⟨Tryz.func131, rfl, by kernel_rfl, by kernel_rfl⟩ 15 rfl rfl <| x_block <| zr <| tl_y rfl (y_eqIfaceNil rfl rfl) <| zq <| x_false rfl (rfl) <| zr <| tl_y rfl (y_assertOk rfl (by intro _ h; cases h)) <| zx rfl rfl <| zx rfl rfl ?_
 refine zq <| x_true rfl (rfl) <| zr <| tl_e rfl <| e_alloc <| fun b7 => tl_e rfl <| e_st rfl rfl (by rfl) (by rfl) <| zq <| .s3 0 1 3 rfl rfl rfl <| zr <| as0 rfl rfl <| zq ?_
 refine x_draw0 4 ((b7, .cells (List.toArray [.int .i64 e]) 164 (0, 0)) :: []) Keeps.mem hmix rfl <| zp 0 rfl rfl (y_move (v := .slice _ _ _) rfl) <| zp 1 rfl rfl (y_fieldAddr rfl) <| zy 2 rfl rfl (y_ld rfl rfl) <| ze 3 rfl rfl <| e_st rfl rfl (by rfl) (by rfl) <| ⟨⟨(by first | exact Le.refl _ | assumption), Keeps.mem⟩, ?_⟩
 refine zt 4 rfl rfl <| e_st rfl rfl (by rfl) (by rfl) <| zz (.block_normal (.dropTo ((c, .cells (List.toArray [.int .i64 e]) 38 (0, 0)) :: (b, .cells (List.toArray [.slice none 0 0]) 50 (0, 0)) :: L) inferInstance (.rec_normal (Le.refl _) ⟨rfl, rfl, rfl⟩)))
theorem caughtS_spec {wf : FuncId} {first cap : List Value} {K : Option Addr → Nat → Nat → Mem → Prop} {Kp : Int → Prop}
  (hw : ∀ p q, Con Tryz.prog wf (first ++ [] ++ cap).toArray G M (p :: q :: L) (fun v M' L' => L' = p :: q :: L ∧ ∃ A n c, v = .slice A n c ∧ K A n c M') (fun ch M' L' => L' = p :: q :: L ∧ ∃ e, Kp e ∧ ch = hwrong e)) :
  Con Tryz.prog 68 #[.func (.func wf) first.toArray cap.toArray] G M L (fun v M' L' => L' = L ∧ ((∃ A n c, v = .tuple #[.slice A n c, .int .i64 0] ∧ K A n c M') ∨ (∃ e, v = .tuple #[.slice none 0 0, .int .i64 e] ∧ Kp e))) noPanic := by
 refine enterD (args := [_]) (fn := Tryz.f68) ⟨Tryz.func68, rfl, by kernel_rfl, by kernel_rfl⟩ 7 rfl <| zr <| tl_e rfl <| e_alloc <| fun b1 => tl_e rfl <| e_alloc <| fun b2 => zq <| zr <| tl_y rfl (y_makeFunc rfl rfl) <| tl_e rfl <| e_defer rfl rfl rfl <| zq <| zr ?_
 refine mvF rfl rfl <| tl_e rfl (e_callv rfl rfl (hw _ _) (by
  rintro _ M1 _ hM1 ⟨rfl, e, hr, rfl⟩
  refine .retD (cap := [_, _]) (args := []) caughtS1_wrong ?_
  rintro _ M2 _ hM2 ⟨rfl, rfl, rfl⟩
  exact .inl ⟨rfl, _, L, rv2 rfl (rc_cell (by rfl) rfl (.own inferInstance inferInstance)) (rc_cell (by rfl) rfl (.own inferInstance inferInstance)), inferInstance, hM1, rfl, .inr ⟨e, rfl, hr⟩⟩) ?_)
 rintro _ M1 _ hM1 ⟨rfl, A, n, c, rfl, hk⟩
 refine tl_e rfl <| e_st rfl rfl (by rfl) (by rfl) <| tl_e rfl <| e_st rfl rfl (by rfl) (by rfl) <| zq <| .s2 2 3 rfl rfl <| x_ret <| .retD (cap := [_, _]) (args := []) (caughtS1_ret (cs := [.slice A n c])) ?_
 rintro _ M2 _ hM2 ⟨rfl, rfl, rfl⟩
 exact .inl ⟨rfl, _, L, rv2 rfl (rc_cell (by rfl) rfl (.own inferInstance inferInstance)) (rc_cell (by rfl) rfl (.own inferInstance inferInstance)), inferInstance, hM1, rfl, .inl ⟨A, n, c, rfl, hk⟩⟩
theorem caughtL1_ret {b c : Nat} {x : Int} {cs : List Value} : ConD Tryz.prog 134 #[.pointer (some ⟨b, 0, none⟩), .pointer (some ⟨c, 0, none⟩)] .returning G M ((c, .cells (List.toArray [.int .i64 x]) 38 (0, 0)) :: (b, .cells cs.toArray 103 (0, 0)) :: L) (fun u' M' L' => u' = .returning ∧ M' = M ∧ L' = (c, .cells (List.toArray [.int .i64 x]) 38 (0, 0)) :: (b, .cells cs.toArray 103 (0, 0)) :: L) := by
 refine enterRec (args := [_, _]) (fn := Tryz.f134) ⟨Tryz.func134, rfl, by kernel_rfl, by kernel_rfl⟩ 15 rfl rfl <| x_block <| zr <| tl_y rfl (y_eqNilIface rfl rfl) <| zq <| x_true rfl (rfl) <| x_region <| as0 rfl rfl <| tl_nil (.block_normal (.rec_normal (Le.refl _) ⟨rfl, rfl, rfl⟩))
theorem caughtL1_wrong {b c : Nat} {x e : Int} : ConD Tryz.prog 134 #[.pointer (some ⟨b, 0, none⟩), .pointer (some ⟨c, 0, none⟩)] (.panicking (hwrong e)) G M ((c, .cells (List.toArray [.int .i64 x]) 38 (0, 0)) :: (b, .cells (List.toArray [.slice none 0 0]) 103 (0, 0)) :: L)
  (fun u' M' L' => u' = .panicking [{ v := hwrongv e, recovered := true }] ∧ M' = M ∧ L' = (c, .cells (List.toArray [.int .i64 e]) 38 (0, 0)) :: (b, .cells (List.toArray [.slice none 0 0]) 103 (0, 0)) :: L) := by
 refine enterRec (args := [_, _]) (fn := Tryz.f134) ⟨Tryz.func134, rfl, by kernel_rfl, by kernel_rfl⟩ 15 rfl rfl <| x_block <| zr <| tl_y rfl (y_eqIfaceNil rfl rfl) <| zq <| x_false rfl (rfl) <| zr <| tl_y rfl (y_assertOk rfl (by intro _ h; cases h)) <| zx rfl rfl <| zx rfl rfl ?_
 refine zq <| x_true rfl (rfl) <| zr <| tl_e rfl <| e_alloc <| fun b7 => tl_e rfl <| e_st rfl rfl (by rfl) (by rfl) <| zq <| .s3 0 1 3 rfl rfl rfl <| zr <| as0 rfl rfl <| zq ?_
 refine x_draw0 4 ((b7, .cells (List.toArray [.int .i64 e]) 164 (0, 0)) :: []) Keeps.mem hmix rfl <| zp 0 rfl rfl (y_move (v := .slice _ _ _) rfl) <| zp 1 rfl rfl (y_fieldAddr rfl) <| zy 2 rfl rfl (y_ld rfl rfl) <| ze 3 rfl rfl <| e_st rfl rfl (by rfl) (by rfl) <| ⟨⟨(by first | exact Le.refl _ | assumption), Keeps.mem⟩, ?_⟩
 refine zt 4 rfl rfl <| e_st rfl rfl (by rfl) (by rfl) <| zz (.block_normal (.dropTo ((c, .cells (List.toArray [.int .i64 e]) 38 (0, 0)) :: (b, .cells (List.toArray [.slice none 0 0]) 103 (0, 0)) :: L) inferInstance (.rec_normal (Le.refl _) ⟨rfl, rfl, rfl⟩)))
theorem caughtL_spec {wf : FuncId} {first cap : List Value} {K : Option Addr → Nat → Nat → Mem → Prop} {Kp : Int → Prop}
  (hw : ∀ p q, Con Tryz.prog wf (first ++ [] ++ cap).toArray G M (p :: q :: L) (fun v M' L' => L' = p :: q :: L ∧ ∃ A n c, v = .slice A n c ∧ K A n c M') (fun ch M' L' => L' = p :: q :: L ∧ ∃ e, Kp e ∧ ch = hwrong e)) :
  Con Tryz.prog 71 #[.func (.func wf) first.toArray cap.toArray] G M L (fun v M' L' => L' = L ∧ ((∃ A n c, v = .tuple #[.slice A n c, .int .i64 0] ∧ K A n c M') ∨ (∃ e, v = .tuple #[.slice none 0 0, .int .i64 e] ∧ Kp e))) noPanic := by
 refine enterD (args := [_]) (fn := Tryz.f71) ⟨Tryz.func71, rfl, by kernel_rfl, by kernel_rfl⟩ 7 rfl <| zr <| tl_e rfl <| e_alloc <| fun b1 => tl_e rfl <| e_alloc <| fun b2 => zq <| zr <| tl_y rfl (y_makeFunc rfl rfl) <| tl_e rfl <| e_defer rfl rfl rfl <| zq <| zr ?_
 refine mvF rfl rfl <| tl_e rfl (e_callv rfl rfl (hw _ _) (by
  rintro _ M1 _ hM1 ⟨rfl, e, hr, rfl⟩
  refine .retD (cap := [_, _]) (args := []) caughtL1_wrong ?_
  rintro _ M2 _ hM2 ⟨rfl, rfl, rfl⟩
  exact .inl ⟨rfl, _, L, rv2 rfl (rc_cell (by rfl) rfl (.own inferInstance inferInstance)) (rc_cell (by rfl) rfl (.own inferInstance inferInstance)), inferInstance, hM1, rfl, .inr ⟨e, rfl, hr⟩⟩) ?_)
 rintro _ M1 _ hM1 ⟨rfl, A, n, c, rfl, hk⟩
 refine tl_e rfl <| e_st rfl rfl (by rfl) (by rfl) <| tl_e rfl <| e_st rfl rfl (by rfl) (by rfl) <| zq <| .s2 2 3 rfl rfl <| x_ret <| .retD (cap := [_, _]) (args := []) (caughtL1_ret (cs := [.slice A n c])) ?_
 rintro _ M2 _ hM2 ⟨rfl, rfl, rfl⟩
 exact .inl ⟨rfl, _, L, rv2 rfl (rc_cell (by rfl) rfl (.own inferInstance inferInstance)) (rc_cell (by rfl) rfl (.own inferInstance inferInstance)), inferInstance, hM1, rfl, .inl ⟨A, n, c, rfl, hk⟩⟩
end
end Go.Proofs.YtiimjodbaogjbaaGreatDoor
set_option linter.unusedVariables false
set_option linter.unusedSimpArgs false
set_option linter.constructorNameAsVariable false
namespace Go.Proofs.YtiimjodbaogjbaaGreatDoor
open Go Go.Eng
structure PairV where
 o : UInt32
 t : UInt32
deriving DecidableEq
abbrev PairV.cells (p : PairV) : List Value := [.int .u32 (p.o.toNat : Int), .int .u32 (p.t.toNat : Int)]
def okP (p : PairV) : Prop := otsE p.o = 0 ∧ treeE p.t = 0 ∧ (otsV p.o).kind = (treeV p.t).kind ∧ (otsV p.o).n = (treeV p.t).n
instance {p : PairV} : Decidable (okP p) := inferInstanceAs (Decidable (_ ∧ _))
structure HsG (M : Mem) : Prop where
 o : SetG M
 t : SetT M
theorem HsG.mono {M M' : Mem} (h : HsG M) (hle : Le M M') : HsG M' := ⟨h.o.mono hle, h.t.mono hle⟩
section
variable {G : World} {M : Mem} {L : Own}
theorem Fit_spec (o : OtsV) (t : TreeV) :
  Con Tryz.prog 127 #[.agg (List.toArray o.cells), .agg (List.toArray t.cells)] G M L (fun v M' L' => M = M' ∧ L = L' ∧ v = .bool (decide (o.kind = t.kind ∧ o.n = t.n))) noPanic := by
 refine enter (args := [_, _]) (fn := Tryz.f127) ⟨Tryz.func127, rfl, by kernel_rfl, by kernel_rfl⟩ 17 rfl <| zr <| tl_e rfl <| e_box rfl <| fun b1 => tl_e rfl <| e_box rfl <| fun b2 => as0 rfl rfl <| zq <| zr <| tl_y rfl (y_fieldAddr rfl) <| tl_y rfl (y_ld rfl rfl) <| tl_y rfl (y_fieldAddr rfl) ?_
 refine tl_y rfl (y_ld rfl rfl) <| tl_y rfl (y_eql rfl rfl) <| mvB rfl rfl <| tl_cases (s := 10) rfl (fun hk1 => ?_) (fun hk1 => ?_)
 ·
  refine tl_y rfl (y_fieldAddr rfl) <| tl_y rfl (y_ld rfl rfl) <| tl_y rfl (y_fieldAddr rfl) <| tl_y rfl (y_ld rfl rfl) <| tl_y rfl (y_eql rfl rfl) <| tl_y rfl (y_pickT rfl rfl) <| asB rfl rfl <| zq <| .s1 4 rfl <| x_ret (.dropTo L inferInstance (ret1 rfl rfl (Le.refl _) ⟨rfl, rfl, by simp [hk1]⟩))
 ·
  refine tl_skip rfl <| tl_skip rfl <| tl_skip rfl <| tl_skip rfl <| tl_skip rfl <| tl_y rfl (y_pickF rfl rfl) <| asB rfl rfl <| zq <| .s1 4 rfl <| x_ret (.dropTo L inferInstance (ret1 rfl rfl (Le.refl _) ⟨rfl, rfl, by simp [hk1]⟩))
theorem of_spec (hg : HsG M) (p : PairV) :
  Con Tryz.prog 58 #[.agg (List.toArray p.cells)] G M L (fun v M' L' => L' = L ∧ okP p ∧ v = .agg (List.toArray (pcells (otsV p.o) (treeV p.t)))) (fun ch M' L' => L' = L ∧ ¬ okP p ∧ ch = lwrong 4) := by
 refine enter (args := [_]) (fn := Tryz.f58) ⟨Tryz.func58, rfl, by kernel_rfl, by kernel_rfl⟩ 34 rfl <| zr <| tl_e rfl <| e_box rfl <| fun b1 => tl_e rfl <| e_alloc <| fun b2 => zq <| zr <| tl_y rfl (y_fieldAddr rfl) <| tl_y rfl (y_ld rfl rfl) <| tl_e rfl <| e_call' rfl (Ots_spec hg.o p.o) ?_
 rintro _ M1 _ hM1 ⟨rfl, rfl⟩
 refine mvU rfl rfl <| zx rfl rfl <| zx rfl rfl <| tl_e rfl <| e_alloc <| fun b3 => tl_e rfl <| e_st rfl rfl (by rfl) (by rfl) <| asI rfl rfl <| zq <| .s4 1 2 3 4 rfl rfl rfl rfl <| zr <| tl_y rfl (y_fieldAddr rfl) ?_
 refine tl_y rfl (y_ld rfl rfl) <| tl_e rfl <| e_call' rfl (Tree_spec (hg.mono hM1).t p.t) ?_
 rintro _ M2 _ hM2 ⟨rfl, rfl⟩
 have hm := hM1.trans hM2
 refine mvU rfl rfl <| zx rfl rfl <| zx rfl rfl <| tl_e rfl <| e_alloc <| fun b4 => tl_e rfl <| e_st rfl rfl (by rfl) (by rfl) <| asI rfl rfl <| zq <| .s5 2 3 4 5 6 rfl rfl rfl rfl rfl <| zr <| mvI rfl rfl ?_
 refine tl_y rfl (y_eql rfl rfl) <| mvB rfl rfl <| tl_cases (s := 21) rfl (fun hk1 => ?_) (fun hk1 => ?_)
 ·
  refine mvI rfl rfl <| tl_y rfl (y_eql rfl rfl) <| tl_y rfl (y_pickT rfl rfl) <| mvB rfl rfl <| tl_cases (s := 25) rfl (fun hk2 => ?_) (fun hk2 => ?_)
  ·
   refine tl_y rfl (y_lg rfl rfl) <| tl_y rfl (y_lg rfl rfl) <| tl_e rfl <| e_call' rfl (Fit_spec _ _) ?_
   rintro _ _ _ _ ⟨rfl, rfl, rfl⟩
   refine tl_y rfl (y_pickT rfl rfl) <| tl_e rfl (e_call rfl (lmust_spec _ _) (by
    rintro _ _ _ _ ⟨rfl, rfl, ht, rfl⟩
    exact TP.dropTo L inferInstance (.retA rfl hm ⟨rfl, fun h => by have := h.2.2; simp [this] at ht, rfl⟩)) ?_)
   rintro _ _ _ _ ⟨rfl, rfl, ht⟩
   refine zq <| .s3 2 3 5 rfl rfl rfl <| zr <| tl_y rfl (y_lg rfl rfl) <| tl_y rfl (y_lg rfl rfl) <| tl_y rfl (y_build rfl) <| tl_e rfl <| e_st rfl rfl (by rfl) (by rfl) <| zq <| .s1 2 rfl <| x_ret (retRV (L' := L) (rv1 rfl (rc_cellAgg (by rfl) rfl (.own inferInstance inferInstance))) inferInstance hm ⟨rfl, ⟨hk1, hk2, by simpa using ht⟩, rfl⟩)
  ·
   refine tl_skip rfl <| tl_skip rfl <| tl_skip rfl <| tl_y rfl (y_pickF rfl rfl) <| tl_e rfl (e_call rfl (lmust_spec _ _) (by
    rintro _ _ _ _ ⟨rfl, rfl, ht, rfl⟩
    exact TP.dropTo L inferInstance (.retA rfl hm ⟨rfl, fun h => hk2 h.2.1, rfl⟩)) ?_)
   rintro _ _ _ _ ⟨rfl, rfl, ht⟩
   refine zq <| .s3 2 3 5 rfl rfl rfl <| zr <| tl_y rfl (y_lg rfl rfl) <| tl_y rfl (y_lg rfl rfl) <| tl_y rfl (y_build rfl) <| tl_e rfl <| e_st rfl rfl (by rfl) (by rfl) <| zq <| .s1 2 rfl <| x_ret (absurd ht (by simp))
 ·
  refine tl_skip rfl <| tl_skip rfl <| tl_y rfl (y_pickF rfl rfl) <| mvB rfl rfl <| tl_skip rfl <| tl_skip rfl <| tl_skip rfl <| tl_y rfl (y_pickF rfl rfl) <| tl_e rfl (e_call rfl (lmust_spec _ _) (by
   rintro _ _ _ _ ⟨rfl, rfl, ht, rfl⟩
   exact TP.dropTo L inferInstance (.retA rfl hm ⟨rfl, fun h => hk1 h.1, rfl⟩)) ?_)
  rintro _ _ _ _ ⟨rfl, rfl, ht⟩
  refine zq <| .s3 2 3 5 rfl rfl rfl <| zr <| tl_y rfl (y_lg rfl rfl) <| tl_y rfl (y_lg rfl rfl) <| tl_y rfl (y_build rfl) <| tl_e rfl <| e_st rfl rfl (by rfl) (by rfl) <| zq <| .s1 2 rfl <| x_ret (absurd ht (by simp))
theorem May1_spec (hg : HsG M) (p : PairV) {b : Nat} [hb : Has L b (.cells (List.toArray p.cells) 24 (0, 0))] :
  Con Tryz.prog 60 #[.pointer (some ⟨b, 0, none⟩)] G M L (fun v M' L' => L' = L ∧ ∃ (o : OtsV) (t : TreeV), v = .agg (List.toArray (pcells o t)) ∧ okP p) (fun ch M' L' => L' = L ∧ ∃ e, (¬ okP p ∧ e = 4) ∧ ch = lwrong e) := by
 refine enter (args := [_]) (fn := Tryz.f60) ⟨Tryz.func60, rfl, by kernel_rfl, by kernel_rfl⟩ 4 rfl <| zr <| tl_e rfl <| e_alloc <| fun b1 => zq <| zr <| tl_y rfl (y_lg rfl rfl) <| tl_e rfl (e_call rfl (of_spec hg p) (by
  rintro _ M1 _ hM1 ⟨rfl, hno, rfl⟩
  exact TP.dropTo L inferInstance (.retA rfl hM1 ⟨rfl, 4, ⟨hno, rfl⟩, rfl⟩)) ?_)
 rintro _ M1 _ hM1 ⟨rfl, hok, rfl⟩
 refine tl_e rfl <| e_st rfl rfl (by rfl) (by rfl) <| zq <| x_ret (retRV (L' := L) (rv1 rfl (rc_cellAgg (by rfl) rfl (.own inferInstance inferInstance))) inferInstance hM1 ⟨rfl, _, _, rfl, hok⟩)
theorem lMay_spec (hg : HsG M) (p : PairV) :
    Con Tryz.prog 18 #[.agg (List.toArray p.cells)] G M L (fun v M' L' => L' = L ∧ v = .bool (decide (okP p))) noPanic := by
  refine enter (args := [_]) (fn := Tryz.f18) ⟨Tryz.func18, rfl, by kernel_rfl, by kernel_rfl⟩ 12 rfl <| zr <| tl_e rfl <| e_box rfl <| fun b1 => as0 rfl rfl <| zq <| zr <| tl_y rfl (y_makeFunc rfl rfl) <| tl_e rfl <| e_call' rfl (caughtP_spec (K := fun _ _ _ => okP p) (Kp := fun e => ¬ okP p ∧ e = 4) (first := []) (cap := [.pointer (some ⟨b1, 0, none⟩)]) (fun p' q' => May1_spec hg p)) ?_
  rintro v M1 _ hM1 ⟨rfl, hv⟩
  obtain ⟨o, t, e, rfl, he⟩ : ∃ (o : OtsV) (t : TreeV) (e : Int), v = .tuple #[.agg (List.toArray (pcells o t)), .int .i64 e] ∧ (e = 0 ↔ okP p) := by
    rcases hv with ⟨o, t, rfl, hok⟩ | ⟨e, rfl, hno, rfl⟩
    · exact ⟨o, t, 0, rfl, iff_of_true rfl hok⟩
    · exact ⟨ots0, tree0, 4, rfl, iff_of_false (by decide) hno⟩
  refine mvU rfl rfl <| zx rfl rfl <| zx rfl rfl <| tl_e rfl <| e_alloc <| fun b2 => tl_e rfl <| e_st rfl rfl (by rfl) (by rfl) <| asI rfl rfl <| zq <| .s1 4 rfl <| zr <| mvI rfl rfl ?_
  refine tl_y rfl (y_eql rfl rfl) <| asB rfl rfl <| zq <| x_ret (.dropTo L inferInstance (ret1 rfl rfl hM1 ⟨rfl, by rw [decide_eq_decide.2 he]⟩))
end
end Go.Proofs.YtiimjodbaogjbaaGreatDoor
set_option linter.unusedVariables false
set_option linter.unusedSimpArgs false
namespace Go.Proofs.YtiimjodbaogjbaaGreatDoor
open Go Go.Eng
theorem treeV_code {c : UInt32} (h : treeE c = 0) : (treeV c).code = c := by
  obtain ⟨x, h1, h2⟩ := treeE_some h
  rw [h2]
  unfold treeOf at h1
  split at h1
  · obtain rfl := Option.some.inj h1; rfl
  · split at h1
    · obtain rfl := Option.some.inj h1; rfl
    · cases h1
abbrev PairV.T (x : PairV) : TreeV := treeV x.t
structure PF (x : PairV) (n w p H : Nat) : Prop where
 ok : okP x
 o : OF (otsV x.o) n w p
 tn : (treeV x.t).n = (n : Int)
 th : (treeV x.t).h = (H : Int)
 h1 : 1 ≤ H
 h2 : H ≤ 25
 tc : (treeV x.t).code = x.t
 oc : (otsV x.o).code = x.o
 s : okS (treeV x.t) 16
 lv : leavesN (treeV x.t).h = pw2 H
theorem okP_facts {x : PairV} (h : okP x) : ∃ n w p H, PF x n w p H := by
 obtain ⟨hc, ho⟩ := otsV_code h.1
 obtain ⟨n, w, p, hof⟩ := okO_facts ho
 have htc := treeV_code h.2.1
 have hs : okS (treeV x.t) 16 := ⟨by rw [htc]; exact h.2.1, by rw [htc], rfl⟩
 obtain ⟨_, H, hH, h1, h2, hlv⟩ := okS_facts hs
 exact ⟨n, w, p, H, h, hof, by rw [← h.2.2.2, hof.hn], hH, h1, h2, htc, hc, hs, hlv⟩
def pubN (x : PairV) : Nat := 24 + (treeV x.t).n.toNat
def sigN (x : PairV) : Nat := 8 + sizeN (otsV x.o) + (treeV x.t).n.toNat * (treeV x.t).h.toNat
def szP (x : PairV) : Nat := if okP x then pubN x else 0
def szS (x : PairV) : Nat := if okP x then sigN x else 0
theorem PF.sizes {x : PairV} {n w p H : Nat} (h : PF x n w p H) : pubN x = 24 + n ∧ sigN x = 8 + sizeN (otsV x.o) + n * H ∧ n * H ≤ 32 * 25 ∧ sizeN (otsV x.o) ≤ 4 + 32 * 265 + 32 ∧ 4 ≤ sizeN (otsV x.o) := by
 obtain ⟨h1, h2, h3⟩ := h.o.size
 have hn := h.o.n32
 refine ⟨by rw [pubN, h.tn]; rfl, by rw [sigN, h.tn, h.th]; rfl, Nat.mul_le_mul hn.2 h.h2, ?_, ?_⟩ <;> omega
def pairC (bs : List UInt8) : PairV := ⟨UInt32.ofNat (getB ((bs.drop 4).take 4)), UInt32.ofNat (getB (bs.take 4))⟩
def pairE (bs : List UInt8) : Int := if bs.length < 8 then 2 else if ¬ okP (pairC bs) then 4 else if bs.length ≠ pubN (pairC bs) then 5 else 0
def pairZ : PairV := ⟨0, 0⟩
def pairX (bs : List UInt8) : PairV := if pairE bs = 0 then pairC bs else pairZ
theorem pairE_zero {bs : List UInt8} (h : pairE bs = 0) : 8 ≤ bs.length ∧ okP (pairC bs) ∧ bs.length = pubN (pairC bs) := by
  unfold pairE at h
  split at h
  · cases h
  · split at h
    · cases h
    · split at h
      · cases h
      · rename_i h1 h2 h3
        exact ⟨by omega, Classical.not_not.1 h2, Classical.not_not.1 h3⟩
def takeE (x : PairV) (bl : Nat) : Int := if ¬ okP x then 4 else if bl < sigN x then 2 else 0
def wayS (sig : List UInt8) (at_ n H : Nat) : List (List UInt8) := (List.range H).map fun i => (sig.drop (at_ + i * n)).take n
theorem wayS_succ (sig : List UInt8) (at_ n H : Nat) : wayS sig at_ n (H + 1) = wayS sig at_ n H ++ [(sig.drop (at_ + H * n)).take n] := by
 rw [wayS, List.range_succ, List.map_append]; rfl
def fitKey (x : PairV) (tl : Nat) (name text sig : List UInt8) : List UInt8 := staV 16 tl name (getB (sig.take 4)) text ((sig.drop 4).take (sizeN (otsV x.o)))
def fitWay (x : PairV) (sig : List UInt8) : List (List UInt8) := wayS sig (8 + sizeN (otsV x.o)) (treeV x.t).n.toNat (treeV x.t).h.toNat
def fitL (x : PairV) (tl : Nat) (name text sig : List UInt8) : Prop :=
 sig.length = sigN x ∧ (sig.drop 4).take 4 = putB x.o.toNat 4 ∧ (sig.drop (4 + sizeN (otsV x.o))).take 4 = putB x.t.toNat 4 ∧
  staE 16 tl ((sig.drop 4).take (sizeN (otsV x.o))) = 0 ∧ climbE (treeV x.t) 16 (getB (sig.take 4)) (fitWay x sig) = 0
instance {x : PairV} {tl : Nat} {name text sig : List UInt8} : Decidable (fitL x tl name text sig) := inferInstanceAs (Decidable (_ ∧ _))
def fitR (x : PairV) (tl : Nat) (name text sig : List UInt8) : List UInt8 := climbB (treeV x.t) name (getB (sig.take 4)) (fitKey x tl name text sig) (fitWay x sig)
def nameP (pub : List UInt8) : List UInt8 := (pub.drop 8).take 16
def fitK (pub : List UInt8) (tl : Nat) (text sig : List UInt8) : Prop :=
 pairE pub = 0 ∧ fitL (pairC pub) tl (nameP pub) text sig ∧ fitR (pairC pub) tl (nameP pub) text sig = pub.drop 24
instance {pub : List UInt8} {tl : Nat} {text sig : List UInt8} : Decidable (fitK pub tl text sig) := inferInstanceAs (Decidable (_ ∧ _))
theorem putB_get4 {bs : List UInt8} (h : bs.length = 4) : putB (UInt32.ofNat (getB bs)).toNat 4 = bs := by
 have := getB_lt bs
 rw [h] at this
 have h2 := put_get bs
 rw [h] at h2
 rw [UInt32.toNat_ofNat', Nat.mod_eq_of_lt (by omega), h2]
end Go.Proofs.YtiimjodbaogjbaaGreatDoor
