/-
From a contract to a statement; what came in. What is listed of package-level variables.
-/
import Derived.Test.YtiimjodbaogjbaaGreatDoorOctCutEtc
import Derived.Test.YtiimjodbaogjbaaGreatDoorHssPureEtc
import Derived.Test.YtiimjodbaogjbaaGreatDoorHss3Etc
import Derived.Test.YtiimjodbaogjbaaGreatDoorRef7Etc
import Derived.Test.YtiimjodbaogjbaaGreatDoorEngWEtc
import Derived.Test.YtiimjodbaogjbaaGreatDoorEngIEtc
import Derived.WalkKit
import Derived.ProofKit
import Derived.OpenShut
import Derived.ShutString
import Derived.ChangeOld
import Derived.Below
import Derived.Deep.Slices
import Derived.LaidMore
import Derived.LaidLaws
import Derived.MakeChecks
import Derived.Stop.Joined
import Derived.SevenTiedAt
import Derived.Test.YtiimjodbaogjbaaGreatDoorTypes1
import Derived.Test.YtiimjodbaogjbaaGreatDoorOctEtc
import Derived.Test.YtiimjodbaogjbaaGreatDoorChecked
import Derived.Test.YtiimjodbaogjbaaGreatDoorRows
set_option linter.unusedVariables false
set_option linter.unusedSimpArgs false
set_option linter.constructorNameAsVariable false
namespace Go.Proofs.YtiimjodbaogjbaaGreatDoor
open Go Go.Eng
abbrev rdC (BA : Option Addr) (bl bc : Nat) (QA : Option Addr) (qn qc : Nat) (ok : Bool) (e : Int) : List Value := [.slice BA bl bc, .slice QA qn qc, .bool ok, .int .i64 e]
section
variable {G : World} {M : Mem} {L : Own} {NA SA TA : Option Addr} {nl nc sl_ sc tl tc : Nat} {name sec text : List UInt8}
theorem RKey13_spec {A : Option Addr} {m c : Nat} {bs : List UInt8} (h : Bytes M A m c bs) :
  Con Tryz.prog 106 #[.slice A m c] G M L (fun v M' L' => M = M' ∧ L = L' ∧ ∃ A' n' c', v = .tuple #[.slice A' n' c', .int .i64 (keyE bs)] ∧ Bytes M A' n' c' (if keyE bs = 0 then keyT bs else [])) noPanic := by
 have hc := h.le
 have hm := h.size
 refine enter (args := [_]) (fn := Tryz.f106) ⟨Tryz.func106, rfl, by kernel_rfl, by kernel_rfl⟩ 43 rfl <| zr <| as0 rfl rfl <| as0 rfl rfl <| zq <| zr2 <| mvS rfl rfl <| tl_y rfl (y_len rfl) <| tl_y rfl (y_lss rfl rfl) <| zq ?_
 refine .s2 0 12 rfl rfl <| x_cond rfl (fun hc1 => ?_) (fun hc1 => ?_)
 ·
  refine zr <| as0 rfl rfl <| as0 rfl rfl <| zq <| x_ret (.then_ret (ret2 rfl rfl rfl (Le.refl _) (by
   have e : keyE bs = 2 := by rw [keyE, if_pos (by omega)]
   exact ⟨rfl, rfl, _, _, _, by rw [e], by rw [if_neg (by omega)]; exact Row.nil _ _⟩)))
 ·
  have h8 : 8 ≤ m := by omega
  have hs4 : Bytes M (sl A 4 c 1) 4 (c - 4) ((bs.drop 4).take 4) := Bytes.sub h 4 8 (by omega) h8
  refine x_skip <| .then_normal <| zr <| mvS rfl rfl <| tl_y rfl (y_sliceH rfl rfl (by omega) (by omega)) <| tl_e rfl <| e_call' rfl (RGet_spec (Bytes.take h 4 (by omega)) (by omega)) ?_
  rintro _ _ _ _ ⟨rfl, rfl, x, hx, rfl⟩
  have hgl := getB_lt (bs.take 4)
  rw [List.length_take, Nat.min_eq_left (by omega)] at hgl
  have hcv : ((pairC bs).t.toNat : Int) = (x.toNat : Int) := by rw [pairC, UInt32.toNat_ofNat', hx, Nat.mod_eq_of_lt (by omega)]
  refine mvU rfl rfl <| zx rfl rfl <| zx rfl rfl <| asI rfl rfl <| asB rfl rfl <| zq <| .s2 0 4 rfl rfl <| zr <| mvS rfl rfl <| tl_y rfl (y_sliceLH rfl rfl rfl (by omega) (by omega)) ?_
  refine tl_e rfl <| e_call' rfl (RGet_spec hs4 (by omega)) ?_
  rintro _ _ _ _ ⟨rfl, rfl, y, hy, rfl⟩
  have hgl2 := getB_lt ((bs.drop 4).take 4)
  rw [List.length_take, List.length_drop, Nat.min_eq_left (by omega)] at hgl2
  have hcv2 : ((pairC bs).o.toNat : Int) = (y.toNat : Int) := by rw [pairC, UInt32.toNat_ofNat', hy, Nat.mod_eq_of_lt (by omega)]
  refine mvU rfl rfl <| zx rfl rfl <| zx rfl rfl <| asI rfl rfl <| asB rfl rfl <| zq <| .s3 0 4 6 rfl rfl rfl <| zr <| mvI rfl rfl <| tl_y rfl (y_convE (b := ((pairC bs).o.toNat : Int)) rfl (by rw [wrapU32, hcv2]; omega)) ?_
  refine mvI rfl rfl <| tl_y rfl (y_convE (b := ((pairC bs).t.toNat : Int)) rfl (by rw [wrapU32, hcv]; omega)) <| tl_y rfl (y_build rfl) <| tl_e rfl <| e_call' rfl (RSizes_spec (pairC bs)) ?_
  rintro _ _ _ _ ⟨rfl, rfl, rfl⟩
  refine mvU rfl rfl <| zx rfl rfl <| zx rfl rfl <| asI rfl rfl <| asI rfl rfl <| zq <| .s2 0 8 rfl rfl <| zr2 <| mvI rfl rfl <| tl_y rfl (y_eql rfl rfl) ?_
  refine zq <| x_cond rfl (fun hc2 => ?_) (fun hc2 => ?_)
  ·
   refine zr <| as0 rfl rfl <| as0 rfl rfl <| zq <| .s2 2 3 rfl rfl <| x_ret (.then_ret (ret2 rfl rfl rfl (Le.refl _) (by
    have hno : ¬ okP (pairC bs) := fun hok => by
     obtain ⟨n, w, p, H, hx⟩ := okP_facts hok
     obtain ⟨z1, _, _, _, _⟩ := hx.sizes
     rw [szP, if_pos hok] at hc2
     omega
    have e : keyE bs = 4 := by rw [keyE, if_neg (by omega), if_pos hno]
    exact ⟨rfl, rfl, _, _, _, by rw [e], by rw [if_neg (by omega)]; exact Row.nil _ _⟩)))
  ·
   have hok : okP (pairC bs) := Classical.byContradiction (fun hno => hc2 (by rw [szP, if_neg hno]; rfl))
   rw [szP, if_pos hok]
   refine x_skip <| .then_normal <| zr2 <| mvS rfl rfl <| tl_y rfl (y_len rfl) <| mvI rfl rfl <| tl_y rfl (y_lss rfl rfl) <| zq <| .s3 0 8 39 rfl rfl rfl <| x_cond rfl (fun hc3 => ?_) (fun hc3 => ?_)
   ·
    refine zr <| as0 rfl rfl <| as0 rfl rfl <| zq <| x_ret (.then_ret (ret2 rfl rfl rfl (Le.refl _) (by
     have e : keyE bs = 2 := by rw [keyE, if_neg (by omega), if_neg (fun h => h hok), if_pos (by omega)]
     exact ⟨rfl, rfl, _, _, _, by rw [e], by rw [if_neg (by omega)]; exact Row.nil _ _⟩)))
   ·
    refine x_skip <| .then_normal <| zr <| mvS rfl rfl <| mvI rfl rfl <| tl_y rfl (y_sliceH rfl rfl (by omega) (by omega)) <| asS rfl rfl <| as0 rfl rfl <| zq <| .s2 2 3 rfl rfl <| x_ret (ret2 rfl rfl rfl (Le.refl _) (by
     have e : keyE bs = 0 := by rw [keyE, if_neg (by omega), if_neg (fun h => h hok), if_neg (by omega)]
     exact ⟨rfl, rfl, _, _, _, by rw [e], by rw [if_pos e, keyT]; exact Bytes.take h _ (by omega)⟩))
theorem RSigned_spec {br : Nat} {A : Option Addr} {m c : Nat} {bs : List UInt8} (h : Bytes M A m c bs) {KA : Option Addr} {kl kc : Nat} {k : List UInt8} (hk : Bytes M KA kl kc k) (hk0 : pairE k = 0) {QA : Option Addr} {qn qc : Nat} {qs : List Nat} {EQ : Own} (hQ : OwnRow 22 1 QA qn qc (u32r qs) EQ) (hqn : qn ≤ 8) {ok : Bool} :
  Con Tryz.prog 107 #[.pointer (some ⟨br, 0, none⟩), .slice KA kl kc] G M ((br, .cells (List.toArray (rdC A m c QA qn qc ok 0)) 139 (0, 0)) :: (EQ ++ L)) (fun v M' L' => ∃ VA vn vc A' m' c' QA' qn' qc' qs' EQ' e', v = .slice VA vn vc ∧ L' = (br, .cells (List.toArray (rdC A' m' c' QA' qn' qc' ok e')) 139 (0, 0)) :: (EQ' ++ L) ∧ OwnRow 22 1 QA' qn' qc' (u32r qs') EQ' ∧
   ((m < sigN (pairC k) ∧ e' = 2) ∨ (sigN (pairC k) ≤ m ∧ e' = 0 ∧ qn' = qn + 1 ∧ qs' = qs ++ [getB ((sgT k bs).take 4)] ∧ Bytes M' VA vn vc (sgT k bs) ∧ Bytes M' A' m' c' (sgD k bs)))) noPanic := by
 have hc := h.le
 have hm := h.size
 have hkl := pairE_len hk0
 have hks := hk.size
 have h12 := sigN_12 hk0
 obtain ⟨h8, hok, hlen⟩ := pairE_zero hk0
 have hx0 : pairX k = pairC k := by rw [pairX, if_pos hk0]
 refine enter (args := [_, _]) (fn := Tryz.f107) ⟨Tryz.func107, rfl, by kernel_rfl, by kernel_rfl⟩ 65 rfl <| zr <| as0 rfl rfl <| zq <| zr <| mvS rfl rfl <| tl_e rfl <| e_call' rfl (RPair_spec hk (by omega)) ?_
 rintro _ _ _ _ ⟨rfl, rfl, rfl⟩
 rw [hx0]
 refine mvU rfl rfl <| zx rfl rfl <| zx rfl rfl <| tl_e rfl <| e_alloc <| fun b1 => tl_e rfl <| e_st rfl rfl (by rfl) (by rfl) <| asI rfl rfl <| zq <| .s2 0 5 rfl rfl <| zr <| tl_y rfl (y_lg rfl rfl) ?_
 refine tl_e rfl <| e_call' rfl (RSizes_spec (pairC k)) ?_
 rintro _ _ _ _ ⟨rfl, rfl, rfl⟩
 rw [szS, if_pos hok]
 refine mvU rfl rfl <| zx rfl rfl <| zx rfl rfl <| asI rfl rfl <| asI rfl rfl <| zq <| .s2 0 8 rfl rfl <| zr2 <| mvP rfl rfl <| zc rfl rfl ?_
 refine tl_y rfl (y_fieldAddr rfl) <| tl_y rfl (y_ld rfl rfl) <| tl_y rfl (y_len rfl) <| mvI rfl rfl <| tl_y rfl (y_lss rfl rfl) <| zq <| .s3 0 8 28 rfl rfl rfl <| x_cond rfl (fun hc1 => ?_) (fun hc1 => ?_)
 ·
  refine zr <| mvP rfl rfl <| zc rfl rfl <| tl_y rfl (y_fieldAddr rfl) <| tl_e rfl <| e_st rfl rfl (by rfl) (by rfl) <| zq <| .s0 <| zr <| as0 rfl rfl <| zq ?_
  refine x_ret (.then_ret (.dropTo ((br, .cells (List.toArray (rdC A m c QA qn qc ok 2)) 139 (0, 0)) :: (EQ ++ L)) inferInstance (ret1 rfl rfl (Le.refl _) ⟨_, _, _, _, _, _, _, _, _, _, _, _, rfl, rfl, hQ, .inl ⟨by omega, rfl⟩⟩)))
 ·
  have hle : sigN (pairC k) ≤ m := by omega
  have hT : Bytes M (sl A 0 c 1) (sigN (pairC k)) c (sgT k bs) := Bytes.take h _ hle
  have hD : Bytes M (sl A (sigN (pairC k)) c 1) (m - sigN (pairC k)) (c - sigN (pairC k)) (sgD k bs) := Bytes.drop h _ hle
  refine x_skip <| .then_normal <| zr <| mvP rfl rfl <| zc rfl rfl <| tl_y rfl (y_fieldAddr rfl) <| tl_y rfl (y_ld rfl rfl) <| mvI rfl rfl <| tl_y rfl (y_sliceH rfl rfl (by omega) (by omega)) <| asS rfl rfl <| zq ?_
  refine .s3 0 8 9 rfl rfl rfl <| zr <| mvP rfl rfl <| mvP rfl rfl <| zc rfl rfl <| tl_y rfl (y_fieldAddr rfl) <| tl_y rfl (y_ld rfl rfl) <| mvI rfl rfl <| tl_y rfl (y_sliceL rfl rfl (by omega)) <| zc rfl rfl ?_
  refine tl_y rfl (y_fieldAddr rfl) <| tl_e rfl <| e_st rfl rfl (by rfl) (by rfl) <| zq <| .s2 0 9 rfl rfl <| zr <| mvS rfl rfl <| tl_y rfl (y_sliceH rfl rfl (by omega) (by omega)) <| tl_e rfl <| e_call' rfl (RGet_spec (Bytes.take hT 4 (by omega)) (by omega)) ?_
  rintro _ _ _ _ ⟨rfl, rfl, y, hy, rfl⟩
  have hgl := getB_lt ((sgT k bs).take 4)
  have hsz := hT.size
  rw [List.length_take, Nat.min_eq_left (by omega)] at hgl
  refine mvU rfl rfl <| zx rfl rfl <| zx rfl rfl <| asI rfl rfl <| asB rfl rfl <| zq <| .s3 0 9 10 rfl rfl rfl <| zr <| mvP rfl rfl <| mvP rfl rfl ?_
  refine zc rfl rfl <| tl_y rfl (y_fieldAddr rfl) <| tl_y rfl (y_ld rfl rfl) <| mvI rfl rfl <| tl_y rfl (y_convE (b := ((getB ((sgT k bs).take 4) : Nat) : Int)) rfl (by rw [wrapU32, hy]; omega)) <| tl_e rfl <| e_buildSlice rfl (by decide) <| fun b2 => .pub b2 inferInstance <| fun M5 hM5 hb5 => .bringE EQ inferInstance <| tl_e rfl <| e_append (by decide) rfl rfl hQ (.row (Row.whole (s := 1) (vs := [Value.int .u32 ((getB ((sgT k bs).take 4) : Nat) : Int)]) hb5 rfl (by omega))) rfl (by omega) (by omega) <| fun A9 c9 E9 hE9 => ?_
  have hrr : u32r qs ++ [Value.int .u32 ((getB ((sgT k bs).take 4) : Nat) : Int)] = u32r (qs ++ [getB ((sgT k bs).take 4)]) := by simp [u32r]
  rw [hrr] at hE9
  simp only [Int.toNat_natCast]
  refine zc rfl rfl <| tl_y rfl (y_fieldAddr rfl) <| tl_e rfl <| e_st rfl rfl (by rfl) (by rfl) <| zq <| .s1 9 rfl <| zr <| mvS rfl rfl <| asS rfl rfl <| zq <| x_ret (.dropTo ((br, .cells (List.toArray (rdC (sl A (sigN (pairC k)) c 1) (m - sigN (pairC k)) (c - sigN (pairC k)) A9 (qn + 1) c9 ok 0)) 139 (0, 0)) :: (E9 ++ L)) inferInstance (ret1 rfl rfl hM5 ⟨_, _, _, _, _, _, _, _, _, _, _, _, rfl, rfl, hE9, .inr ⟨hle, rfl, rfl, rfl, hT.mono hM5, hD.mono hM5⟩⟩))
end
end Go.Proofs.YtiimjodbaogjbaaGreatDoor
set_option linter.unusedVariables false
set_option linter.unusedSimpArgs false
set_option linter.constructorNameAsVariable false
namespace Go.Proofs.YtiimjodbaogjbaaGreatDoor
open Go Go.Eng
theorem parse_zero {k b : List UInt8} (h1 : sigN (pairC k) ≤ b.length) : (b.length = sigN (pairC k) → parse 0 k b = (0, [⟨k, sgT k b, []⟩])) ∧ (b.length ≠ sigN (pairC k) → parse 0 k b = (5, [])) :=
 ⟨fun h => by rw [parse, if_neg (by omega), if_neg (by omega)], fun h => by rw [parse, if_neg (by omega), if_pos h]⟩
theorem parse_short (m : Nat) {k b : List UInt8} (h1 : b.length < sigN (pairC k)) : parse m k b = (2, []) := by
 cases m with
 | zero => rw [parse, if_pos h1]
 | succ m => rw [parse, if_pos h1]
theorem redV_no {pub sig : List UInt8} (h : (readP pub sig).1 ≠ 0) : redV pub sig = [] := by rw [redV, if_neg h]
section
variable {G : World} {M : Mem} {L : Own} {PA TA A : Option Addr} {pl pc tl tc m c : Nat} {pub text sig : List UInt8}
theorem noRead {M' : Mem} {e : Int} (h : (readP pub sig).1 = e) (h0 : e ≠ 0) : ∃ A n c, Value.tuple #[.slice none 0 0, .bool false, .int .i64 e] = .tuple #[.slice A n c, .bool (decide (hfit pub text sig)), .int .i64 (readP pub sig).1] ∧ Row M' 1 A n c (u32r (redV pub sig)) := by
 have hno : (readP pub sig).1 ≠ 0 := by rw [h]; exact h0
 refine ⟨none, 0, 0, ?_, by rw [redV_no hno]; exact Row.nil _ _⟩
 rw [decide_eq_false (fun h' => hno h'.1), h]
theorem RRead_spec (hpub : Bytes M PA pl pc pub) (htext : Bytes M TA tl tc text) (hsig : Bytes M A m c sig) (hpb : pl ≤ 1000000000000) (hmb : m ≤ 1000000000000) :
    Con Tryz.prog 47 #[.slice PA pl pc, .slice TA tl tc, .slice A m c, .bool true] G M L (fun v M' L' => L' = L ∧ ∃ A' n' c', v = .tuple #[.slice A' n' c', .bool (decide (hfit pub text sig)), .int .i64 (readP pub sig).1] ∧ Row M' 1 A' n' c' (u32r (redV pub sig))) noPanic := by
  have hps := hpub.size
  have hms := hsig.size
  have hts := htext.size
  have hpc := hpub.le
  have hmc := hsig.le
  refine enter (args := [_, _, _, _]) (fn := Tryz.f47) ⟨Tryz.func47, rfl, by kernel_rfl, by kernel_rfl⟩ 160 rfl <| zr <| as0 rfl rfl <| as0 rfl rfl <| as0 rfl rfl <| zq <| zr2 <| mvS rfl rfl <| tl_y rfl (y_len rfl) <| tl_y rfl (y_lss rfl rfl) ?_
  refine zq <| x_cond rfl (fun hc1 => ?_) (fun hc1 => ?_)
  ·
    refine zr <| as0 rfl rfl <| as0 rfl rfl <| as0 rfl rfl <| zq <| .s3 8 9 10 rfl rfl rfl <| x_ret (.then_ret (ret3 rfl rfl rfl rfl (Le.refl _) ⟨rfl, noRead (by rw [readP, if_pos (by omega)]) (by decide)⟩))
  ·
    have h4 : 4 ≤ pl := by omega
    have hgl := getB_lt (pub.take 4)
    rw [List.length_take, Nat.min_eq_left (by omega)] at hgl
    refine x_skip <| .then_normal <| zr <| mvS rfl rfl <| tl_y rfl (y_sliceH rfl rfl (by omega) (by omega)) <| tl_e rfl <| e_call' rfl (RGet_spec (Bytes.take hpub 4 h4) (by omega)) ?_
    rintro _ _ _ _ ⟨rfl, rfl, x, hx, rfl⟩
    obtain ⟨p4, hp4e⟩ : ∃ p4, p4 = pub.drop 4 := ⟨_, rfl⟩
    have hp4 : Bytes M (sl PA 4 pc 1) (pl - 4) (pc - 4) p4 := by rw [hp4e]; exact Bytes.drop hpub 4 h4
    have hp4l : p4.length = pl - 4 := by rw [hp4e, List.length_drop]; omega
    refine mvU rfl rfl <| zx rfl rfl <| zx rfl rfl <| asI rfl rfl <| asB rfl rfl <| zq <| .s8 0 1 2 3 8 9 10 11 rfl rfl rfl rfl rfl rfl rfl rfl <| zr <| mvS rfl rfl <| tl_y rfl (y_sliceL rfl rfl (by omega)) ?_
    refine tl_e rfl <| e_call' rfl (RKey13_spec hp4) ?_
    rintro _ _ _ _ ⟨rfl, rfl, A2, n2, c2, rfl, hkb⟩
    refine mvU rfl rfl <| zx rfl rfl <| zx rfl rfl <| asS rfl rfl <| asI rfl rfl <| zq <| .sub (F' := [(0, _), (1, _), (2, _), (3, _), (8, _), (9, _), (10, _), (11, _), (13, _), (14, _)]) (.cons rfl (.cons rfl (.cons rfl (.cons rfl (.cons rfl (.cons rfl (.cons rfl (.cons rfl (.cons rfl (.cons rfl .nil)))))))))) <| zr2 <| mvI rfl rfl <| tl_y rfl (y_neq rfl rfl) ?_
    refine zq <| x_cond rfl (fun hc2 => ?_) (fun hc2 => ?_)
    ·
      refine zr <| mvI rfl rfl <| as0 rfl rfl <| as0 rfl rfl <| asI rfl rfl <| zq <| .s3 8 9 10 rfl rfl rfl <| x_ret (.then_ret (ret3 rfl rfl rfl rfl (Le.refl _) ⟨rfl, noRead (by rw [readP, if_neg (by omega), ← hp4e, if_pos hc2]) hc2⟩))
    ·
      have hk0 : keyE p4 = 0 := Classical.not_not.1 hc2
      obtain ⟨kt1, kt2, kt3, kt4, kt5⟩ := keyT_pair hk0
      rw [if_pos hk0] at hkb
      have hs2 := hkb.size
      have hge := (keyE_zero hk0).2.2
      refine x_skip <| .then_normal <| zr2 <| mvS rfl rfl <| tl_y rfl (y_len rfl) <| mvS rfl rfl <| tl_y rfl (y_len rfl) <| tl_y rfl (y_addI rfl rfl (by omega)) <| tl_y rfl (y_neq rfl rfl) <| zq <| .sub (F' := [(1, _), (2, _), (3, _), (8, _), (9, _), (10, _), (11, _), (13, _), (45, _)]) (.cons rfl (.cons rfl (.cons rfl (.cons rfl (.cons rfl (.cons rfl (.cons rfl (.cons rfl (.cons rfl .nil))))))))) ?_
      refine x_cond rfl (fun hc3 => ?_) (fun hc3 => ?_)
      ·
        refine zr <| as0 rfl rfl <| as0 rfl rfl <| as0 rfl rfl <| zq <| .s3 8 9 10 rfl rfl rfl <| x_ret (.then_ret (ret3 rfl rfl rfl rfl (Le.refl _) ⟨rfl, noRead (by rw [readP, if_neg (by omega), ← hp4e, if_neg (fun h => h hk0), if_pos (by omega)]) (by decide)⟩))
      ·
        have hpl : p4.length = pubN (pairC p4) := by omega
        have hkp : keyT p4 = p4 := by rw [keyT]; exact List.take_of_length_le (by omega)
        rw [hkp] at kt1 kt2 kt3 hkb
        obtain ⟨lv, hlv⟩ : ∃ lv, lv = getB (pub.take 4) := ⟨_, rfl⟩
        have hxl : x.toNat = lv := by rw [hlv, hx]
        rw [← hlv] at hgl
        rw [hxl]
        refine x_skip <| .then_normal <| zr2 <| mvI rfl rfl <| tl_y rfl (y_lss rfl rfl) <| mvB rfl rfl <| tl_cases (s := 48) rfl (fun hk1 => ?_) (fun hk1 => ?_)
        ·
          refine tl_skip rfl <| tl_skip rfl <| tl_y rfl (y_pickT rfl rfl) <| zq <| .sub (F' := [(1, _), (2, _), (3, _), (8, _), (9, _), (10, _), (11, _), (13, _), (51, _)]) (.cons rfl (.cons rfl (.cons rfl (.cons rfl (.cons rfl (.cons rfl (.cons rfl (.cons rfl (.cons rfl .nil))))))))) <| x_true rfl rfl <| zr <| as0 rfl rfl <| as0 rfl rfl <| as0 rfl rfl ?_
          refine zq <| .s3 8 9 10 rfl rfl rfl <| x_ret (.then_ret (ret3 rfl rfl rfl rfl (Le.refl _) ⟨rfl, noRead (by rw [readP, if_neg (by omega), ← hp4e, if_neg (fun h => h hk0), if_neg (fun h => h hpl), if_pos (by omega)]) (by decide)⟩))
        ·
          refine mvI rfl rfl <| tl_y rfl (y_gtr rfl rfl) <| tl_y rfl (y_pickF rfl rfl) <| zq <| .sub (F' := [(1, _), (2, _), (3, _), (8, _), (9, _), (10, _), (11, _), (13, _), (51, _)]) (.cons rfl (.cons rfl (.cons rfl (.cons rfl (.cons rfl (.cons rfl (.cons rfl (.cons rfl (.cons rfl .nil))))))))) <| x_cond rfl (fun hc4 => ?_) (fun hc4 => ?_)
          ·
            refine zr <| as0 rfl rfl <| as0 rfl rfl <| as0 rfl rfl <| zq <| .s3 8 9 10 rfl rfl rfl <| x_ret (.then_ret (ret3 rfl rfl rfl rfl (Le.refl _) ⟨rfl, noRead (by rw [readP, if_neg (by omega), ← hp4e, if_neg (fun h => h hk0), if_neg (fun h => h hpl), if_pos (by omega)]) (by decide)⟩))
          ·
            refine x_skip <| .then_normal <| zr2 <| mvS rfl rfl <| tl_y rfl (y_len rfl) <| tl_y rfl (y_lss rfl rfl) <| zq <| x_cond rfl (fun hc5 => ?_) (fun hc5 => ?_)
            ·
              refine zr <| as0 rfl rfl <| as0 rfl rfl <| as0 rfl rfl <| zq <| .s3 8 9 10 rfl rfl rfl <| x_ret (.then_ret (ret3 rfl rfl rfl rfl (Le.refl _) ⟨rfl, noRead (by rw [readP, if_neg (by omega), ← hp4e, if_neg (fun h => h hk0), if_neg (fun h => h hpl), if_neg (by omega), if_pos (by omega)]) (by decide)⟩))
            ·
              have hs4 : 4 ≤ m := by omega
              have hgl2 := getB_lt (sig.take 4)
              rw [List.length_take, Nat.min_eq_left (by omega)] at hgl2
              refine x_skip <| .then_normal <| .s8 1 2 3 8 9 10 11 13 rfl rfl rfl rfl rfl rfl rfl rfl <| zr <| mvS rfl rfl <| tl_y rfl (y_sliceH rfl rfl (by omega) (by omega)) <| tl_e rfl <| e_call' rfl (RGet_spec (Bytes.take hsig 4 hs4) (by omega)) ?_
              rintro _ _ _ _ ⟨rfl, rfl, y, hy, rfl⟩
              refine mvU rfl rfl <| zx rfl rfl <| zx rfl rfl <| asI rfl rfl <| asB rfl rfl <| zq <| .sub (F' := [(1, _), (2, _), (3, _), (8, _), (9, _), (10, _), (11, _), (13, _), (15, _)]) (.cons rfl (.cons rfl (.cons rfl (.cons rfl (.cons rfl (.cons rfl (.cons rfl (.cons rfl (.cons rfl .nil))))))))) <| zr2 <| mvI rfl rfl <| mvI rfl rfl ?_
              refine tl_y rfl (y_subN64 rfl rfl (by omega)) ?_
              rw [show ((lv : Nat) : Int) - 1 = ((lv - 1 : Nat) : Int) by omega]
              refine tl_y rfl (y_neq rfl rfl) <| zq <| .sub (F' := [(1, _), (2, _), (3, _), (8, _), (9, _), (10, _), (11, _), (13, _), (64, _)]) (.cons rfl (.cons rfl (.cons rfl (.cons rfl (.cons rfl (.cons rfl (.cons rfl (.cons rfl (.cons rfl .nil))))))))) <| x_cond rfl (fun hc6 => ?_) (fun hc6 => ?_)
              ·
                refine zr <| as0 rfl rfl <| as0 rfl rfl <| as0 rfl rfl <| zq <| .s3 8 9 10 rfl rfl rfl <| x_ret (.then_ret (ret3 rfl rfl rfl rfl (Le.refl _) ⟨rfl, noRead (by rw [readP, if_neg (by omega), ← hp4e, if_neg (fun h => h hk0), if_neg (fun h => h hpl), if_neg (by omega), if_neg (by omega), if_pos (by omega)]) (by decide)⟩))
              ·
                have hs4b : Bytes M (sl A 4 c 1) (m - 4) (c - 4) (sig.drop 4) := Bytes.drop hsig 4 hs4
                have hR : readP pub sig = parse (lv - 1) p4 (sig.drop 4) := by
                  rw [readP_eq (by omega) (by rw [← hp4e]; exact hk0) (by rw [← hp4e]; exact hpl) (by omega) (by omega) (by omega), ← hlv, ← hp4e]
                refine x_skip <| .then_normal <| zr <| mvS rfl rfl <| tl_y rfl (y_sliceL rfl rfl (by omega)) <| tl_y rfl (y_build rfl) <| tl_e rfl <| e_box rfl <| fun b1 => asP rfl rfl <| zq <| .s8 1 3 8 9 10 11 13 17 rfl rfl rfl rfl rfl rfl rfl rfl <| zr2 ?_
                refine as0 rfl rfl <| zq <| x_block ?_
                refine x_loop (I := fun m' F D M5 L5 => ∃ (i : Nat) (KA : Option Addr) (kl kc : Nat) (k : List UInt8) (BA : Option Addr) (bl bc : Nat) (b : List UInt8) (QA : Option Addr) (qc : Nat) (EQ : Own) (done : List PartB) (ok : Bool), m' = lv - i ∧ i < lv ∧ Le M M5 ∧ Bytes M5 KA kl kc k ∧ Bytes M5 BA bl bc b ∧ bl ≤ 1000000000000 ∧ pairE k = 0 ∧ OwnRow 22 1 QA i qc (u32r (done.map partQ)) EQ ∧ ok = decide (∀ x ∈ done, partF text x) ∧ (readP pub sig).1 = (parse (lv - 1 - i) k b).1 ∧ ((readP pub sig).1 = 0 → (readP pub sig).2 = done ++ (parse (lv - 1 - i) k b).2) ∧ D = [] ∧ L5 = (b1, .cells (List.toArray (rdC BA bl bc QA i qc ok 0)) 139 (0, 0)) :: (EQ ++ L) ∧ F = [(1, .slice TA tl tc), (3, .bool true), (8, .slice none 0 0), (9, .bool false), (10, .int .i64 0), (11, .int .u64 (lv : Nat)), (13, .slice KA kl kc), (17, .pointer (some ⟨b1, 0, none⟩)), (18, .int .u64 (i : Nat))]) (lv) (F0 := [(1, _), (3, _), (8, _), (9, _), (10, _), (11, _), (13, _), (17, _), (18, _)]) ?_ (.cons rfl (.cons rfl (.cons rfl (.cons rfl (.cons rfl (.cons rfl (.cons rfl (.cons rfl (.cons rfl .nil))))))))) ?_  -- slots [1, 3, 8, 9, 10, 11, 13, 17, 18], written [8, 9, 10, 13, 18]
                · exact ⟨0, _, _, _, p4, _, _, _, sig.drop 4, none, 0, [], [], true, rfl, by omega, Le.refl _, hkb, hs4b, by omega, kt1, .nil, rfl, by rw [hR, Nat.sub_zero], fun _ => by rw [hR, Nat.sub_zero, List.nil_append], rfl, rfl, rfl⟩
                rintro m _ _ M5 _ ⟨i, KA, kl, kc, k, BA, bl, bc, b, QA, qc, EQ, done, ok, rfl, hi, hM5, hkk, hbb, hbl, hpk, hQ, hok, hr1, hr2, rfl, rfl, rfl⟩
                refine zr2 <| mvI rfl rfl <| mvI rfl rfl <| tl_y rfl (y_lss rfl rfl) <| zq <| x_cond rfl (fun hc7 => ?_) (fun hc7 => ?_)
                ·
                  have hkl := hkk.size
                  have hkl2 := pairE_len hpk
                  have hbs := hbb.size
                  refine x_skip <| .then_normal <| x_seq <| x_block <| zr <| mvP rfl rfl <| mvS rfl rfl <| tl_e rfl <| e_call' rfl (RSigned_spec hbb hkk hpk hQ (by omega)) ?_
                  rintro _ M6 _ hM6 ⟨VA, vn, vc, BA', bl', bc', QA', qn', qc', qs', EQ', e', rfl, rfl, hQ', hcase⟩
                  have hd6 := hM5.trans hM6
                  refine asS rfl rfl <| zq <| .sub (F' := [(1, _), (3, _), (8, _), (9, _), (10, _), (11, _), (13, _), (17, _), (18, _), (19, _)]) (.cons rfl (.cons rfl (.cons rfl (.cons rfl (.cons rfl (.cons rfl (.cons rfl (.cons rfl (.cons rfl (.cons rfl .nil)))))))))) <| zr2 <| mvP rfl rfl <| zc rfl rfl <| tl_y rfl (y_fieldAddr rfl) <| tl_y rfl (y_ld rfl rfl) <| tl_y rfl (y_neq rfl rfl) <| zq ?_
                  refine .sub (F' := [(1, _), (3, _), (8, _), (9, _), (10, _), (11, _), (13, _), (17, _), (18, _), (19, _), (81, _)]) (.cons rfl (.cons rfl (.cons rfl (.cons rfl (.cons rfl (.cons rfl (.cons rfl (.cons rfl (.cons rfl (.cons rfl (.cons rfl .nil))))))))))) <| x_cond rfl (fun hc8 => ?_) (fun hc8 => ?_)
                  ·
                    have hsh : bl < sigN (pairC k) ∧ e' = 2 := by
                      rcases hcase with h | ⟨_, rfl, _⟩
                      · exact h
                      · exact absurd rfl hc8
                    obtain ⟨hsh, rfl⟩ := hsh
                    refine x_seq <| x_draw 7 hmix rfl <| zp 0 rfl rfl (y_move (v := .pointer _) rfl) <| zp 1 rfl rfl (y_nilCheck rfl) <| zp 2 rfl rfl (y_fieldAddr rfl) <| zy 3 rfl rfl (y_ld rfl rfl) <| zp 4 rfl rfl (y_assign rfl) <| zp 5 rfl rfl (y_assign rfl) <| zp 6 rfl rfl (y_assign (v := .int _ _) rfl) <| zz <| .then_normal ?_
                    refine .sub (F' := [(1, _), (3, _), (8, _), (9, _), (10, _), (11, _), (13, _), (17, _), (18, _)]) (.cons rfl (.cons rfl (.cons rfl (.cons rfl (.cons rfl (.cons rfl (.cons rfl (.cons rfl (.cons rfl .nil))))))))) <| x_ret (.then_ret (.block_ret (.then_ret (.loop_ret (.block_ret (.then_ret (.dropTo L inferInstance (ret3 rfl rfl rfl rfl hd6 ⟨rfl, noRead (by rw [hr1, parse_short _ (by omega)]) (by decide)⟩))))))))
                  ·
                    have hsh : sigN (pairC k) ≤ bl ∧ e' = 0 ∧ qn' = i + 1 ∧ qs' = done.map partQ ++ [getB ((sgT k b).take 4)] ∧ Bytes M6 VA vn vc (sgT k b) ∧ Bytes M6 BA' bl' bc' (sgD k b) := by
                      rcases hcase with ⟨_, rfl⟩ | h
                      · exact absurd (by decide) hc8
                      · exact h
                    obtain ⟨hsn, rfl, rfl, rfl, hsT, hsD⟩ := hsh
                    have hst := hsT.size
                    have hsd := hsD.size
                    have hsd' := hsd
                    rw [sgD, List.length_drop] at hsd'
                    have hsl : (sgT k b).length = sigN (pairC k) := by rw [sgT, List.length_take]; omega
                    refine x_skip <| .then_normal <| zr2 <| mvI rfl rfl <| tl_y rfl (y_addN64 rfl rfl (by omega)) <| mvI rfl rfl <| tl_y rfl (y_eql rfl rfl) <| zq <| .sub (F' := [(1, _), (3, _), (8, _), (9, _), (10, _), (11, _), (13, _), (17, _), (18, _), (19, _), (89, _)]) (.cons rfl (.cons rfl (.cons rfl (.cons rfl (.cons rfl (.cons rfl (.cons rfl (.cons rfl (.cons rfl (.cons rfl (.cons rfl .nil))))))))))) <| x_cond rfl (fun hc9 => ?_) (fun hc9 => ?_)
                    ·
                      have hil : i = lv - 1 := by omega
                      rw [show lv - 1 - i = 0 by omega] at hr1 hr2
                      obtain ⟨pz1, pz2⟩ := parse_zero (k := k) (b := b) (by omega)
                      have hfx : partF text ⟨k, sgT k b, []⟩ ↔ fitK k tl text (sgT k b) := by rw [partF, if_pos rfl, if_pos rfl, hts]
                      refine x_join (I := fun F D M7 L7 => ∃ ok' : Bool, Le M6 M7 ∧ ok' = decide (∀ x ∈ done ++ [⟨k, sgT k b, []⟩], partF text x) ∧ D = [] ∧ L7 = (b1, .cells (List.toArray (rdC BA' bl' bc' QA' (i + 1) qc' ok' 0)) 139 (0, 0)) :: (EQ' ++ L) ∧ F = [(1, .slice TA tl tc), (3, .bool true), (8, .slice none 0 0), (9, .bool false), (10, .int .i64 0), (11, .int .u64 (lv : Nat)), (13, .slice KA kl kc), (17, .pointer (some ⟨b1, 0, none⟩)), (18, .int .u64 (i : Nat)), (19, .slice VA vn vc)]) ?_ (fun Jq24 => ?_)
                      ·
                        rintro _ _ M7 _ ⟨ok', hM7, hok', rfl, rfl, rfl⟩  -- slots [1, 3, 8, 9, 10, 11, 13, 17, 18, 19]
                        refine x_exit <| .then_exit <| .block_exit_ne (by decide) <| .then_exit <| .loop_exit <| .block_exit <| .then_normal <| .s1 17 rfl <| zr2 <| mvP rfl rfl <| zc rfl rfl <| tl_y rfl (y_fieldAddr rfl) <| tl_y rfl (y_ld rfl rfl) ?_
                        have hd7 := hd6.trans hM7
                        refine tl_y rfl (y_len rfl) <| tl_y rfl (y_gtr rfl rfl) <| zq <| .s2 17 151 rfl rfl <| x_cond rfl (fun hc10 => ?_) (fun hc10 => ?_)
                        ·
                          refine zr <| as0 rfl rfl <| as0 rfl rfl <| as0 rfl rfl <| zq <| x_ret (.then_ret (.dropTo L inferInstance (ret3 rfl rfl rfl rfl hd7 ⟨rfl, noRead (by rw [hr1, pz2 (by omega)]) (by decide)⟩)))
                        ·
                          refine .bringE EQ' inferInstance <| .pubRow hQ' <| fun M8 hM8 hr8 => ?_
                          have h0 : (readP pub sig).1 = 0 := by rw [hr1, pz1 (by omega)]
                          have h2 : (readP pub sig).2 = done ++ [⟨k, sgT k b, []⟩] := by rw [hr2 h0, pz1 (by omega)]
                          have hek : ok' = decide (hfit pub text sig) := by
                            rw [hok', decide_eq_decide, hfit, h2]
                            exact ⟨fun h => ⟨h0, h⟩, fun h => h.2⟩
                          refine x_skip <| .then_normal <| x_seq <| x_draw 11 hmix rfl <| zp 0 rfl rfl (y_move (v := .pointer _) rfl) <| zp 1 rfl rfl (y_nilCheck rfl) <| zp 2 rfl rfl (y_fieldAddr rfl) <| zy 3 rfl rfl (y_ld rfl rfl) <| zp 4 rfl rfl (y_move (v := .pointer _) rfl) <| zp 5 rfl rfl (y_nilCheck rfl) <| zp 6 rfl rfl (y_fieldAddr rfl) ?_
                          refine zy 7 rfl rfl (y_ld rfl rfl) <| zp 8 rfl rfl (y_assign (v := .slice _ _ _) rfl) <| zp 9 rfl rfl (y_assign (v := .bool _) rfl) <| zp 10 rfl rfl (y_assign rfl) <| zz <| .then_normal <| .s3 8 9 10 rfl rfl rfl <| x_ret (.dropTo L inferInstance (ret3 rfl rfl rfl rfl (hd7.trans hM8) ⟨rfl, _, _, _, by rw [h0, hek], by rw [redV, if_pos h0, h2, List.map_append]; exact hr8⟩))
                      ·
                        refine x_region <| mvP rfl rfl <| mvP rfl rfl <| zc rfl rfl <| tl_y rfl (y_fieldAddr rfl) <| tl_y rfl (y_ld rfl rfl) <| mvB rfl rfl <| tl_casesb (s := 95) rfl (fun hk2 => ?_) (fun hk2 => ?_)
                        ·
                          refine mvB rfl rfl <| tl_y rfl (y_not rfl) <| mvB rfl rfl <| tl_set (s := 98) (u := .bool false) rfl (rfl) <| mvS rfl rfl <| mvS rfl rfl <| mvS rfl rfl <| tl_e rfl <| e_call' rfl (RFits_lspec (hkk.mono hM6) (htext.mono hd6) hsT (by omega) (by omega)) ?_
                          rintro _ M7 _ hM7 ⟨rfl, rfl⟩
                          have hres : decide (fitK k tl text (sgT k b)) = decide (∀ x ∈ done ++ [⟨k, sgT k b, []⟩], partF text x) := by
                            rw [decide_eq_decide, ← hfx]
                            have hdn := of_decide_eq_true (hok.symm.trans hk2)
                            constructor
                            · intro h x hx
                              rcases List.mem_append.1 hx with hx | hx
                              · exact hdn x hx
                              · obtain rfl := List.mem_singleton.1 hx; exact h
                            · intro h; exact h _ (by simp)
                          refine tl_y rfl (y_pickF rfl rfl) <| tl_y rfl (y_pickT rfl rfl) <| zc rfl rfl <| tl_y rfl (y_fieldAddr rfl) <| tl_e rfl <| e_st rfl rfl (by rfl) (by rfl) <| zq <| .sub (F' := [(1, _), (3, _), (8, _), (9, _), (10, _), (11, _), (13, _), (17, _), (18, _), (19, _)]) (.cons rfl (.cons rfl (.cons rfl (.cons rfl (.cons rfl (.cons rfl (.cons rfl (.cons rfl (.cons rfl (.cons rfl .nil)))))))))) <| Jq24 _ _ _ _ ?_
                          exact ⟨_, hM7, hres, rfl, rfl, rfl⟩
                        ·
                          have hM7 : Le M6 M6 := Le.refl _
                          have hres : false = decide (∀ x ∈ done ++ [⟨k, sgT k b, []⟩], partF text x) := by
                            rw [eq_comm, decide_eq_false_iff_not]
                            have hdn := of_decide_eq_false (hok.symm.trans hk2)
                            exact fun h => hdn (fun x hx => h x (List.mem_append_left _ hx))
                          refine tl_skip rfl <| tl_skip rfl <| tl_skip rfl <| tl_skip rfl <| tl_skip rfl <| tl_skip rfl <| tl_skip rfl <| tl_skip rfl <| tl_y rfl (y_pickF rfl rfl) <| zc rfl rfl ?_
                          refine tl_y rfl (y_fieldAddr rfl) <| tl_e rfl <| e_st rfl rfl (by rfl) (by rfl) <| zq <| .sub (F' := [(1, _), (3, _), (8, _), (9, _), (10, _), (11, _), (13, _), (17, _), (18, _), (19, _)]) (.cons rfl (.cons rfl (.cons rfl (.cons rfl (.cons rfl (.cons rfl (.cons rfl (.cons rfl (.cons rfl (.cons rfl .nil)))))))))) <| Jq24 _ _ _ _ ?_
                          exact ⟨_, hM7, hres, rfl, rfl, rfl⟩
                    ·
                      obtain ⟨j, hj⟩ : ∃ j, lv - 1 - i = j + 1 := ⟨lv - 1 - i - 1, by omega⟩
                      rw [hj] at hr1 hr2
                      refine x_skip <| .then_normal <| zr <| mvP rfl rfl <| zc rfl rfl <| tl_y rfl (y_fieldAddr rfl) <| tl_y rfl (y_ld rfl rfl) <| tl_e rfl <| e_call' rfl (RKey13_spec hsD) ?_
                      rintro _ _ _ _ ⟨rfl, rfl, A9, n9, c9, rfl, hkb9⟩
                      refine mvU rfl rfl <| zx rfl rfl <| zx rfl rfl <| asS rfl rfl <| asI rfl rfl <| zq <| .sub (F' := [(1, _), (3, _), (8, _), (9, _), (10, _), (11, _), (13, _), (17, _), (18, _), (19, _), (20, _), (21, _)]) (.cons rfl (.cons rfl (.cons rfl (.cons rfl (.cons rfl (.cons rfl (.cons rfl (.cons rfl (.cons rfl (.cons rfl (.cons rfl (.cons rfl .nil)))))))))))) <| zr2 <| mvI rfl rfl <| tl_y rfl (y_neq rfl rfl) ?_
                      refine zq <| x_cond rfl (fun hc11 => ?_) (fun hc11 => ?_)
                      ·
                        refine zr <| mvI rfl rfl <| as0 rfl rfl <| as0 rfl rfl <| asI rfl rfl <| zq <| .sub (F' := [(1, _), (3, _), (8, _), (9, _), (10, _), (11, _), (13, _), (17, _), (18, _)]) (.cons rfl (.cons rfl (.cons rfl (.cons rfl (.cons rfl (.cons rfl (.cons rfl (.cons rfl (.cons rfl .nil))))))))) <| x_ret (.then_ret (.block_ret (.then_ret (.loop_ret (.block_ret (.then_ret (.dropTo L inferInstance (ret3 rfl rfl rfl rfl hd6 ⟨rfl, noRead (by rw [hr1, parse, if_neg (by omega), if_pos hc11]) hc11⟩))))))))
                      ·
                        have hke : keyE (sgD k b) = 0 := Classical.not_not.1 hc11
                        rw [if_pos hke] at hkb9
                        obtain ⟨u1, u2, u3, u4, u5⟩ := keyT_pair hke
                        obtain ⟨ps1, ps2⟩ := parse_succ (j := j) (k := k) (b := b) (by omega) hke
                        have hn9 := hkb9.size
                        have hge9 := (keyE_zero hke).2.2
                        have hbc' := hsD.le
                        have hD9 : Bytes M6 (sl BA' n9 bc' 1) (bl' - n9) (bc' - n9) (keyD (sgD k b)) := by rw [keyD, ← u3, hn9]; exact Bytes.drop hsD n9 (by omega)
                        have hfx : partF text ⟨k, sgT k b, keyT (sgD k b)⟩ ↔ fitK k n9 (keyT (sgD k b)) (sgT k b) := by
                          have hne : keyT (sgD k b) ≠ [] := fun h => by have h2 := congrArg List.length h; simp only [u3, List.length_nil] at h2; omega
                          rw [partF, if_neg hne, if_neg hne, hn9]
                        refine x_skip <| .then_normal <| zr <| mvP rfl rfl <| mvP rfl rfl <| zc rfl rfl <| tl_y rfl (y_fieldAddr rfl) <| tl_y rfl (y_ld rfl rfl) <| mvS rfl rfl <| tl_y rfl (y_len rfl) <| tl_y rfl (y_sliceL rfl rfl (by omega)) ?_
                        refine zc rfl rfl <| tl_y rfl (y_fieldAddr rfl) <| tl_e rfl <| e_st rfl rfl (by rfl) (by rfl) <| zq <| .sub (F' := [(1, _), (3, _), (8, _), (9, _), (10, _), (11, _), (13, _), (17, _), (18, _), (19, _), (20, _)]) (.cons rfl (.cons rfl (.cons rfl (.cons rfl (.cons rfl (.cons rfl (.cons rfl (.cons rfl (.cons rfl (.cons rfl (.cons rfl .nil))))))))))) <| x_join (I := fun F D M7 L7 => ∃ ok' : Bool, Le M6 M7 ∧ ok' = decide (∀ x ∈ done ++ [⟨k, sgT k b, keyT (sgD k b)⟩], partF text x) ∧ D = [] ∧ L7 = (b1, .cells (List.toArray (rdC (sl BA' n9 bc' 1) (bl' - n9) (bc' - n9) QA' (i + 1) qc' ok' 0)) 139 (0, 0)) :: (EQ' ++ L) ∧ F = [(1, .slice TA tl tc), (3, .bool true), (8, .slice none 0 0), (9, .bool false), (10, .int .i64 0), (11, .int .u64 (lv : Nat)), (13, .slice KA kl kc), (17, .pointer (some ⟨b1, 0, none⟩)), (18, .int .u64 (i : Nat)), (20, .slice A9 n9 c9)]) ?_ (fun Jq29 => ?_)
                        ·
                          rintro _ _ M7 _ ⟨ok', hM7, hok', rfl, rfl, rfl⟩  -- slots [1, 3, 8, 9, 10, 11, 13, 17, 18, 20]
                          refine x_region <| mvS rfl rfl <| asS rfl rfl <| tl_nil <| .block_normal <| .then_normal <| x_region <| mvI rfl rfl <| tl_y rfl (y_addN64 rfl rfl (by omega)) <| asI rfl rfl <| tl_nil <| .loop_next (m' := lv - (i + 1)) (by omega) (F' := [(1, _), (3, _), (8, _), (9, _), (10, _), (11, _), (13, _), (17, _), (18, _)]) (.cons rfl (.cons rfl (.cons rfl (.cons rfl (.cons rfl (.cons rfl (.cons rfl (.cons rfl (.cons rfl .nil))))))))) ?_
                          exact ⟨i + 1, _, _, _, keyT (sgD k b), _, _, _, keyD (sgD k b), QA', qc', EQ', done ++ [⟨k, sgT k b, keyT (sgD k b)⟩], ok', rfl, by omega, hd6.trans hM7, hkb9.mono hM7, hD9.mono hM7, by omega, u1, by rw [List.map_append]; exact hQ', hok', by rw [hr1, ps1]; congr 2; omega, fun h0 => by
                            rw [hr2 h0, ps2 (by rw [← hr1]; exact h0), show lv - 1 - (i + 1) = j by omega, List.append_assoc]; rfl, rfl, rfl, rfl⟩
                        ·
                          refine x_region <| mvP rfl rfl <| mvP rfl rfl <| zc rfl rfl <| tl_y rfl (y_fieldAddr rfl) <| tl_y rfl (y_ld rfl rfl) <| mvB rfl rfl <| tl_casesb (s := 133) rfl (fun hk4 => ?_) (fun hk4 => ?_)
                          ·
                            refine mvB rfl rfl <| tl_y rfl (y_not rfl) <| mvB rfl rfl <| tl_set (s := 136) (u := .bool false) rfl (rfl) <| mvS rfl rfl <| mvS rfl rfl <| mvS rfl rfl <| tl_e rfl <| e_call' rfl (RFits_lspec (hkk.mono hM6) hkb9 hsT (by omega) (by omega)) ?_
                            rintro _ M7 _ hM7 ⟨rfl, rfl⟩
                            have hres : decide (fitK k n9 (keyT (sgD k b)) (sgT k b)) = decide (∀ x ∈ done ++ [⟨k, sgT k b, keyT (sgD k b)⟩], partF text x) := by
                              rw [decide_eq_decide, ← hfx]
                              have hdn := of_decide_eq_true (hok.symm.trans hk4)
                              constructor
                              · intro h x hx
                                rcases List.mem_append.1 hx with hx | hx
                                · exact hdn x hx
                                · obtain rfl := List.mem_singleton.1 hx; exact h
                              · intro h; exact h _ (by simp)
                            refine tl_y rfl (y_pickF rfl rfl) <| tl_y rfl (y_pickT rfl rfl) <| zc rfl rfl <| tl_y rfl (y_fieldAddr rfl) <| tl_e rfl <| e_st rfl rfl (by rfl) (by rfl) <| zq <| .sub (F' := [(1, _), (3, _), (8, _), (9, _), (10, _), (11, _), (13, _), (17, _), (18, _), (20, _)]) (.cons rfl (.cons rfl (.cons rfl (.cons rfl (.cons rfl (.cons rfl (.cons rfl (.cons rfl (.cons rfl (.cons rfl .nil)))))))))) <| Jq29 _ _ _ _ ?_
                            exact ⟨_, hM7, hres, rfl, rfl, rfl⟩
                          ·
                            have hM7 : Le M6 M6 := Le.refl _
                            have hres : false = decide (∀ x ∈ done ++ [⟨k, sgT k b, keyT (sgD k b)⟩], partF text x) := by
                              rw [eq_comm, decide_eq_false_iff_not]
                              have hdn := of_decide_eq_false (hok.symm.trans hk4)
                              exact fun h => hdn (fun x hx => h x (List.mem_append_left _ hx))
                            refine tl_skip rfl <| tl_skip rfl <| tl_skip rfl <| tl_skip rfl <| tl_skip rfl <| tl_skip rfl <| tl_skip rfl <| tl_skip rfl <| tl_y rfl (y_pickF rfl rfl) <| zc rfl rfl ?_
                            refine tl_y rfl (y_fieldAddr rfl) <| tl_e rfl <| e_st rfl rfl (by rfl) (by rfl) <| zq <| .sub (F' := [(1, _), (3, _), (8, _), (9, _), (10, _), (11, _), (13, _), (17, _), (18, _), (20, _)]) (.cons rfl (.cons rfl (.cons rfl (.cons rfl (.cons rfl (.cons rfl (.cons rfl (.cons rfl (.cons rfl (.cons rfl .nil)))))))))) <| Jq29 _ _ _ _ ?_
                            exact ⟨_, hM7, hres, rfl, rfl, rfl⟩
                ·
                  exact absurd hi (by omega)
end
end Go.Proofs.YtiimjodbaogjbaaGreatDoor
set_option linter.unusedVariables false
set_option linter.unusedSimpArgs false
set_option linter.constructorNameAsVariable false
namespace Go.Proofs.YtiimjodbaogjbaaGreatDoor
open Go Go.Eng
section
variable {G : World} {M : Mem} {L : Own} {NA SA TA PA A : Option Addr} {nl nc sl_ sc tl tc pl pc m c : Nat} {name sec text pub sig : List UInt8}
theorem light13_spec (hpub : Bytes M PA pl pc pub) (hsig : Bytes M A m c sig) (hpb : pl ≤ 1000) (hmb : m ≤ 100000) :
    Con Tryz.prog 45 #[.slice PA pl pc, .slice A m c] G M L (fun v M' L' => M = M' ∧ L = L' ∧ ∃ b, v = .bool b) noPanic := by
  have hps := hpub.size
  have hms := hsig.size
  have hpc := hpub.le
  have hmc := hsig.le
  refine enter (args := [_, _]) (fn := Tryz.f45) ⟨Tryz.func45, rfl, by kernel_rfl, by kernel_rfl⟩ 81 rfl <| zr <| as0 rfl rfl <| zq <| zr2 <| as0 rfl rfl <| zq <| x_block ?_
  refine x_loop (I := fun m' F D M1 L1 => ∃ k : Nat, m' = m + 1 - k ∧ k ≤ m ∧ D = [] ∧ M = M1 ∧ L = L1 ∧ F = [(0, .slice PA pl pc), (1, .slice A m c), (4, .bool false), (5, .int .i64 k)]) (m + 1) (F0 := [(0, _), (1, _), (4, _), (5, _)]) ?_ (.cons rfl (.cons rfl (.cons rfl (.cons rfl .nil)))) ?_  -- slots [0, 1, 4, 5], written [4, 5]
  · exact ⟨0, rfl, by omega, rfl, rfl, rfl, rfl⟩
  rintro m _ _ _ _ ⟨k, rfl, hk, rfl, rfl, rfl, rfl⟩
  refine zr2 <| mvI rfl rfl <| tl_y rfl (y_addI rfl rfl (by omega)) <| mvS rfl rfl <| tl_y rfl (y_len rfl) <| tl_y rfl (y_leq rfl rfl) <| zq <| .s5 0 1 4 5 22 rfl rfl rfl rfl rfl <| x_cond rfl (fun hc1 => ?_) (fun hc1 => ?_)
  ·
    have hkn : k + 8 ≤ m := by omega
    refine x_skip <| .then_normal <| x_seq <| x_block <| zr <| mvS rfl rfl <| mvI rfl rfl <| mvI rfl rfl <| tl_y rfl (y_addI rfl rfl (by omega)) <| tl_y rfl (y_sliceLH (l := k) (h := k + 4) rfl rfl rfl (by omega) (by omega)) <| tl_e rfl <| e_call' rfl (RGet_spec (Bytes.sub hsig k (k + 4) (by omega) (by omega)) (by omega)) ?_
    rintro _ _ _ _ ⟨rfl, rfl, x, hx, rfl⟩
    refine mvU rfl rfl <| zx rfl rfl <| zx rfl rfl <| asI rfl rfl <| asB rfl rfl <| zq <| .s5 0 1 4 5 6 rfl rfl rfl rfl rfl <| zr <| mvS rfl rfl <| mvI rfl rfl ?_
    refine tl_y rfl (y_addI rfl rfl (by omega)) <| mvI rfl rfl <| tl_y rfl (y_addI rfl rfl (by omega)) <| tl_y rfl (y_sliceLH (l := k + 4) (h := k + 8) rfl rfl rfl (by omega) (by omega)) <| tl_e rfl <| e_call' rfl (RGet_spec (Bytes.sub hsig (k + 4) (k + 8) (by omega) (by omega)) (by omega)) ?_
    rintro _ _ _ _ ⟨rfl, rfl, y, hy, rfl⟩
    refine mvU rfl rfl <| zx rfl rfl <| zx rfl rfl <| asI rfl rfl <| asB rfl rfl <| zq <| .s6 0 1 4 5 6 8 rfl rfl rfl rfl rfl rfl <| zr <| mvI rfl rfl <| tl_y rfl (y_convE (b := ((UInt32.ofNat y.toNat).toNat : Int)) rfl (by rw [wrapU32, UInt32.toNat_ofNat']; omega)) ?_
    refine mvI rfl rfl <| tl_y rfl (y_convE (b := ((UInt32.ofNat x.toNat).toNat : Int)) rfl (by rw [wrapU32, UInt32.toNat_ofNat']; omega)) <| tl_y rfl (y_build rfl) <| tl_e rfl <| e_call' rfl (RSets12_spec ⟨UInt32.ofNat y.toNat, UInt32.ofNat x.toNat⟩) ?_
    rintro _ _ _ _ ⟨rfl, rfl, rfl⟩
    refine mvU rfl rfl <| zx rfl rfl <| zx rfl rfl <| zx rfl rfl <| tl_e rfl <| e_alloc <| fun b1 => tl_e rfl <| e_alloc <| fun b2 => tl_e rfl <| e_st rfl rfl (by rfl) (by rfl) <| tl_e rfl <| e_st rfl rfl (by rfl) (by rfl) <| asB rfl rfl <| zq ?_
    refine .s6 0 1 4 5 10 12 rfl rfl rfl rfl rfl rfl <| zr <| mvB rfl rfl <| mvB rfl rfl <| tl_cases (s := 55) rfl (fun hk1 => ?_) (fun hk1 => ?_)
    ·
      refine tl_y rfl (y_lg rfl rfl) <| tl_e rfl <| e_call' rfl (RoLight_spec _) ?_
      rintro _ _ _ _ ⟨rfl, rfl, rfl⟩
      refine tl_y rfl (y_notd rfl) <| tl_y rfl (y_pickT rfl rfl) <| zq <| .s5 0 1 4 5 59 rfl rfl rfl rfl rfl <| x_cond rfl (fun hc2 => ?_) (fun hc2 => ?_)
      ·
        refine zr <| as0 rfl rfl <| zq <| x_ret (.block_ret (.then_ret (.loop_ret (.block_ret (.then_ret (.dropTo L inferInstance (ret1 rfl rfl (Le.refl _) ⟨rfl, rfl, _, rfl⟩)))))))
      ·
        refine x_skip <| .block_normal <| .then_normal <| x_region <| mvI rfl rfl <| tl_y rfl (y_addI rfl rfl (by omega)) <| asI rfl rfl <| .dropTo L inferInstance <| tl_nil <| .loop_next (m' := m + 1 - (k + 1)) (by omega) (F' := [(0, _), (1, _), (4, _), (5, _)]) (.cons rfl (.cons rfl (.cons rfl (.cons rfl .nil)))) ?_
        exact ⟨k + 1, rfl, by omega, rfl, rfl, rfl, rfl⟩
    ·
      refine tl_skip rfl <| tl_skip rfl <| tl_skip rfl <| tl_y rfl (y_pickF rfl rfl) <| zq <| .s5 0 1 4 5 59 rfl rfl rfl rfl rfl <| x_false rfl rfl <| x_skip <| .block_normal <| .then_normal <| x_region <| mvI rfl rfl ?_
      refine tl_y rfl (y_addI rfl rfl (by omega)) <| asI rfl rfl <| .dropTo L inferInstance <| tl_nil <| .loop_next (m' := m + 1 - (k + 1)) (by omega) (F' := [(0, _), (1, _), (4, _), (5, _)]) (.cons rfl (.cons rfl (.cons rfl (.cons rfl .nil)))) ?_
      exact ⟨k + 1, rfl, by omega, rfl, rfl, rfl, rfl⟩
  ·
    refine x_exit <| .then_exit <| .loop_exit <| .block_exit <| .then_normal <| .s1 0 rfl <| zr2 <| mvS rfl rfl <| tl_y rfl (y_len rfl) <| tl_y rfl (y_lss rfl rfl) <| zq <| x_cond rfl (fun hc3 => ?_) (fun hc3 => ?_)
    ·
      refine zr <| as0 rfl rfl <| zq <| .s1 4 rfl <| x_ret (.then_ret (.dropTo L inferInstance (ret1 rfl rfl (Le.refl _) ⟨rfl, rfl, _, rfl⟩)))
    ·
      refine x_skip <| .then_normal <| zr <| mvS rfl rfl <| tl_y rfl (y_sliceL rfl rfl (by omega)) <| tl_e rfl <| e_call' rfl (RPair_spec (Bytes.drop hpub 4 (by omega)) (by omega)) ?_
      rintro _ _ L _ ⟨rfl, rfl, rfl⟩
      refine mvU rfl rfl <| zx rfl rfl <| zx rfl rfl <| tl_e rfl <| e_alloc <| fun b3 => tl_e rfl <| e_st rfl rfl (by rfl) (by rfl) <| asI rfl rfl <| zq <| .s1 13 rfl <| zr <| tl_y rfl (y_lg rfl rfl) ?_
      refine tl_e rfl <| e_call' rfl (RSets12_spec _) ?_
      rintro _ _ _ _ ⟨rfl, rfl, rfl⟩
      refine mvU rfl rfl <| zx rfl rfl <| zx rfl rfl <| zx rfl rfl <| tl_e rfl <| e_alloc <| fun b4 => tl_e rfl <| e_alloc <| fun b5 => tl_e rfl <| e_st rfl rfl (by rfl) (by rfl) <| tl_e rfl <| e_st rfl rfl (by rfl) (by rfl) <| asB rfl rfl <| zq ?_
      refine .s2 15 17 rfl rfl <| zr <| mvB rfl rfl <| tl_y rfl (y_notd rfl) <| mvB rfl rfl <| tl_cases (s := 77) rfl (fun hk2 => ?_) (fun hk2 => ?_)
      ·
        refine tl_skip rfl <| tl_skip rfl <| tl_y rfl (y_pickT rfl rfl) <| asB rfl rfl <| zq <| .s1 4 rfl <| x_ret (.dropTo L inferInstance (ret1 rfl rfl (Le.refl _) ⟨rfl, rfl, _, rfl⟩))
      ·
        refine tl_y rfl (y_lg rfl rfl) <| tl_e rfl <| e_call' rfl (RoLight_spec _) ?_
        rintro _ _ _ _ ⟨rfl, rfl, rfl⟩
        refine tl_y rfl (y_pickF rfl rfl) <| asB rfl rfl <| zq <| .s1 4 rfl <| x_ret (.dropTo L inferInstance (ret1 rfl rfl (Le.refl _) ⟨rfl, rfl, _, rfl⟩))
theorem HssFits_spec (hg : LmG M) (hpub : Bytes M PA pl pc pub) (htext : Bytes M TA tl tc text) (hsig : Bytes M A m c sig) :
  Con Tryz.prog 10 #[.slice PA pl pc, .slice TA tl tc, .slice A m c] G M L (fun v M' L' => v = .bool true) noPanic := by
 refine enter (args := [_, _, _]) (fn := Tryz.f10) ⟨Tryz.func10, rfl, by kernel_rfl, by kernel_rfl⟩ 67 rfl <| zr <| as0 rfl rfl <| zq <| zr2 <| tl_e rfl <| e_call' rfl (awake13_spec hg.hs) ?_
 rintro _ M1 _ hM1 ⟨rfl, rfl⟩
 have hd := hM1
 refine tl_y rfl (y_not rfl) <| zq <| x_false rfl (rfl) <| x_skip <| .then_normal <| zr2 <| mvS rfl rfl <| tl_y rfl (y_len rfl) <| tl_y rfl (y_gtr rfl rfl) <| mvB rfl rfl <| tl_cases (s := 17) rfl (fun hk1 => ?_) (fun hk1 => ?_)
 ·
  refine tl_skip rfl <| tl_skip rfl <| tl_skip rfl <| tl_y rfl (y_pickT rfl rfl) <| mvB rfl rfl <| tl_skip rfl <| tl_skip rfl <| tl_skip rfl <| tl_y rfl (y_pickT rfl rfl) <| mvB rfl rfl ?_
  refine tl_skip rfl <| tl_skip rfl <| tl_skip rfl <| tl_skip rfl <| tl_y rfl (y_pickT rfl rfl) <| zq <| .s4 0 1 2 32 rfl rfl rfl rfl <| x_true rfl rfl <| zr <| as0 rfl rfl ?_
  refine zq <| .s1 6 rfl <| x_ret (.then_ret (ret1 rfl rfl hd rfl))
 ·
  refine mvS rfl rfl <| tl_y rfl (y_len rfl) <| tl_y rfl (y_gtr rfl rfl) <| tl_y rfl (y_pickF rfl rfl) <| mvB rfl rfl <| tl_cases (s := 22) rfl (fun hk2 => ?_) (fun hk2 => ?_)
  ·
   refine tl_skip rfl <| tl_skip rfl <| tl_skip rfl <| tl_y rfl (y_pickT rfl rfl) <| mvB rfl rfl <| tl_skip rfl <| tl_skip rfl <| tl_skip rfl <| tl_skip rfl <| tl_y rfl (y_pickT rfl rfl) ?_
   refine zq <| .s4 0 1 2 32 rfl rfl rfl rfl <| x_true rfl rfl <| zr <| as0 rfl rfl <| zq <| .s1 6 rfl <| x_ret (.then_ret (ret1 rfl rfl hd rfl))
  ·
   refine mvS rfl rfl <| tl_y rfl (y_len rfl) <| tl_y rfl (y_gtr rfl rfl) <| tl_y rfl (y_pickF rfl rfl) <| mvB rfl rfl <| tl_cases (s := 27) rfl (fun hk3 => ?_) (fun hk3 => ?_)
   ·
    refine tl_skip rfl <| tl_skip rfl <| tl_skip rfl <| tl_skip rfl <| tl_y rfl (y_pickT rfl rfl) <| zq <| .s4 0 1 2 32 rfl rfl rfl rfl <| x_true rfl rfl <| zr <| as0 rfl rfl ?_
    refine zq <| .s1 6 rfl <| x_ret (.then_ret (ret1 rfl rfl hd rfl))
   ·
    refine mvS rfl rfl <| mvS rfl rfl <| tl_e rfl <| e_call' rfl (light13_spec (hpub.mono hd) (hsig.mono hd) (by omega) (by omega)) ?_
    rintro _ _ _ _ ⟨rfl, rfl, lb, rfl⟩
    refine tl_y rfl (y_not rfl) <| tl_y rfl (y_pickF rfl rfl) <| zq <| .s4 0 1 2 32 rfl rfl rfl rfl <| x_condb rfl (fun hc2 => ?_) (fun hc2 => ?_)
    ·
     refine zr <| as0 rfl rfl <| zq <| .s1 6 rfl <| x_ret (.then_ret (ret1 rfl rfl hd rfl))
    ·
     refine x_skip <| .then_normal <| zr <| mvS rfl rfl <| mvS rfl rfl <| tl_e rfl <| e_call' rfl (Read_hspec (hg.mono hd) (hpub.mono hd) (hsig.mono hd) (by omega) (by omega)) ?_
     rintro _ M3 _ hM3 ⟨rfl, A3, m3, c3, rfl, hA3⟩
     replace hd := hd.trans hM3
     refine mvU rfl rfl <| zx rfl rfl <| zx rfl rfl <| asS rfl rfl <| asI rfl rfl <| zq <| .s5 0 1 2 7 8 rfl rfl rfl rfl rfl <| zr <| mvS rfl rfl <| mvS rfl rfl ?_
     refine mvS rfl rfl <| tl_e rfl <| e_call' rfl (RRead_spec (hpub.mono hd) (htext.mono hd) (hsig.mono hd) (by omega) (by omega)) ?_
     rintro _ M4 _ hM4 ⟨rfl, A4, m4, c4, rfl, hA4⟩
     replace hd := hd.trans hM4
     replace hA3 := hA3.mono hM4
     refine mvU rfl rfl <| zx rfl rfl <| zx rfl rfl <| zx rfl rfl <| asS rfl rfl <| asB rfl rfl <| asI rfl rfl <| zq <| .s8 0 1 2 7 8 9 10 11 rfl rfl rfl rfl rfl rfl rfl rfl <| zr ?_
     refine mvS rfl rfl <| mvS rfl rfl <| tl_e rfl <| e_call' rfl (Words_spec hA3 hA4 rfl) ?_
     rintro _ _ _ _ ⟨rfl, rfl, rfl⟩
     refine mvB rfl rfl <| tl_set (s := 50) (u := .bool true) rfl (rfl) <| mvI rfl rfl <| mvI rfl rfl <| tl_y rfl (y_eql rfl rfl) <| tl_y rfl (y_pickT rfl rfl) <| mvB rfl rfl <| tl_set (s := 55) (u := .bool true) rfl (congrArg Value.bool (decide_eq_true rfl)) <| mvS rfl rfl <| mvS rfl rfl ?_
     refine mvS rfl rfl <| tl_e rfl <| e_call' rfl (Fits_hspec (hg.mono hd) (hpub.mono hd) (htext.mono hd) (hsig.mono hd) (by omega) (by omega)) ?_
     rintro _ M5 _ hM5 ⟨rfl, rfl⟩
     replace hd := hd.trans hM5
     refine mvI rfl rfl <| tl_y rfl (y_eql rfl rfl) <| mvB rfl rfl <| tl_cases (s := 62) rfl (fun hk6 => ?_) (fun hk6 => ?_)
     ·
      refine mvB rfl rfl <| tl_y rfl (y_pickT rfl rfl) <| tl_y rfl (y_eqlBool rfl rfl) <| tl_y rfl (y_pickT rfl rfl) <| asB rfl rfl <| zq <| .s1 6 rfl <| x_ret (ret1 rfl rfl hd (congrArg Value.bool (by simp)))
     ·
      refine tl_skip rfl <| tl_y rfl (y_pickF rfl rfl) <| tl_y rfl (y_eqlBool rfl rfl) <| tl_y rfl (y_pickT rfl rfl) <| asB rfl rfl <| zq <| .s1 6 rfl <| x_ret (ret1 rfl rfl hd (congrArg Value.bool (by
       rw [decide_eq_false (fun h => hk6 h.1)]; rfl)))
end
end Go.Proofs.YtiimjodbaogjbaaGreatDoor
set_option linter.unusedVariables false
set_option linter.unusedSimpArgs false
namespace Go.Eng
open Go.ChangeShapes Go.WideShapes Go.ChangeAt Go.RowKit
def memOf (W : World) : Mem := fun b => W.heap[b]?
theorem st_start (W : World) : St W (memOf W) [] W := ⟨rfl, rfl, rfl, fun b o h => h, fun p hp => (by cases hp), by simp⟩
theorem below_of {W W' : World} {M' : Mem} {L' : Own} (hle : Le (memOf W) M') (h : St W M' L' W') : Below W.heap.size W W' := by
  have hb : ∀ k, k < W.heap.size → W'.heap[k]? = W.heap[k]? := fun k hk => by
    have h1 : W.heap[k]? = some W.heap[k] := Array.getElem?_eq_getElem hk
    rw [h1]
    exact h.ro k _ (hle k _ h1)
  refine ⟨h.os, h.tape, h.output, ?_, hb⟩
  rcases Nat.eq_zero_or_pos W.heap.size with h0 | h0
  · omega
  · have h2 := hb (W.heap.size - 1) (by omega)
    have hlt : W.heap.size - 1 < W.heap.size := by omega
    rw [Array.getElem?_eq_getElem hlt] at h2
    have h3 := (Array.getElem?_eq_some_iff.1 h2).1
    omega
theorem calls_of_con {P : Program} {f : FuncId} {args : Array Value} {W : World} (h : Con P f args W (memOf W) [] (fun v _ _ => v = .bool true) noPanic) : Calls P f args W fun e W' => e = .returned (.bool true) ∧ Below W.heap.size W W' :=
 (h.calls W (st_start W)).mono fun e W' he => by
  cases e with
  | returned v => obtain ⟨M', L', a, b, rfl⟩ := he; exact ⟨rfl, below_of a b⟩
  | panicked c => obtain ⟨M', L', a, b, c⟩ := he; exact c.elim
  | outgrown => exact he.elim
section
variable {H : Type} {enc : TypeId × Value → H} {P : Program} {W : World} {t : TypeId} {cs : List Value}
def Rd (enc : TypeId × Value → H) (P : Program) (W : World) (t : TypeId) (cs : List Value) : Prop := ∃ fuel x, DataW.trod enc P W 0 (fun _ => true) true fuel t cs = some x
theorem TI.cellsOf {d : TypeDesc} {z : Value} {s b : Nat} (h : TI P t d z s b) : P.cellsOf t = s := by
 obtain ⟨i, hi, _, hs, _⟩ := h.parts
 simp [Program.cellsOf, hi, hs]
theorem Rd.int {k : IntKind} {z : Value} {s b : Nat} [ti : TI P t (.int k) z s b] (h : Rd enc P W t cs) : ∃ n, cs = [.int k n] ∧ (Lit.int k n).wf = true := by
 obtain ⟨fuel, x, h⟩ := h
 cases fuel with
 | zero => cases h
 | succ fuel =>
  unfold DataW.trod at h
  simp only [ti.und] at h
  split at h <;> simp_all
theorem Rd.bool {z : Value} {s b : Nat} [ti : TI P t .bool z s b] (h : Rd enc P W t cs) : ∃ n, cs = [.bool n] := by
 obtain ⟨fuel, x, h⟩ := h
 cases fuel with
 | zero => cases h
 | succ fuel =>
  unfold DataW.trod at h
  simp only [ti.und] at h
  split at h <;> simp_all
theorem Rd.string {z : Value} {s b : Nat} [ti : TI P t .string z s b] (h : Rd enc P W t cs) : ∃ n : ByteArray, cs = [.string n] ∧ n.size ≤ maxLen := by
 obtain ⟨fuel, x, h⟩ := h
 cases fuel with
 | zero => cases h
 | succ fuel =>
  unfold DataW.trod at h
  simp only [ti.und] at h
  split at h <;> simp_all
theorem mapM_some {α β : Type} {f : α → Option β} : ∀ {l : List α} {r : List β}, l.mapM f = some r → ∀ a ∈ l, ∃ b, f a = some b
  | [], _, _, a, ha => by cases ha
  | x :: l, r, h, a, ha => by
    rw [List.mapM_cons] at h
    simp only [Option.bind_eq_bind, Option.bind_eq_some_iff] at h
    obtain ⟨b, hb, rs, hrs, _⟩ := h
    rcases List.mem_cons.1 ha with rfl | ha
    · exact ⟨b, hb⟩
    · exact mapM_some hrs a ha
theorem Rd.array {m : Nat} {e : TypeId} {z z' : Value} {s b s' b' : Nat} {d' : TypeDesc} [ti : TI P t (.array m e) z s b] [te : TI P e d' z' s' b'] (h : Rd enc P W t cs) : cs.length = s ∧ ∀ i, i < m → Rd enc P W e ((cs.drop (i * s')).take s') := by
  obtain ⟨fuel, x, h⟩ := h
  cases fuel with
  | zero => cases h
  | succ fuel =>
    unfold DataW.trod at h
    simp only [ti.und, ti.cellsOf, te.cellsOf] at h
    split at h
    · rename_i hl
      obtain ⟨y, hy, _⟩ := Option.map_eq_some_iff.1 h
      refine ⟨hl, fun i hi => ?_⟩
      obtain ⟨b, hb⟩ := mapM_some hy i (List.mem_range.2 hi)
      exact ⟨fuel, b, hb⟩
    · cases h
theorem Rd.struct {fs : Array Field} {z : Value} {s b : Nat} [ti : TI P t (.struct fs) z s b] (h : Rd enc P W t cs) : cs.length = s ∧ ∀ f ∈ fs.toList, Rd enc P W f.type ((cs.drop f.offset).take (P.cellsOf f.type)) := by
  obtain ⟨fuel, x, h⟩ := h
  cases fuel with
  | zero => cases h
  | succ fuel =>
    unfold DataW.trod at h
    simp only [ti.und, ti.cellsOf] at h
    split at h
    · rename_i hl
      obtain ⟨y, hy, _⟩ := Option.map_eq_some_iff.1 h
      refine ⟨hl, fun f hf => ?_⟩
      obtain ⟨b, hb⟩ := mapM_some hy f hf
      exact ⟨fuel, b, hb⟩
    · cases h
theorem Rd.slice {e : TypeId} {z z' : Value} {s b s' b' : Nat} {d' : TypeDesc} [ti : TI P t (.slice e) z s b] [te : TI P e d' z' s' b'] (hs : 0 < s') (h : Rd enc P W t cs) :
    ∃ A len cap vs, cs = [.slice A len cap] ∧ Row (memOf W) s' A len cap vs ∧ ∀ i, i < len → Rd enc P W e ((vs.drop (i * s')).take s') := by
  obtain ⟨fuel, x, h⟩ := h
  rcases Deep.open_slice ti.und h with ⟨rfl, _⟩ | ⟨a, len, cap, m, n, D, Pl, rfl, hb, hl, hm, hmm, _, hx⟩
  · exact ⟨none, 0, 0, [], rfl, Row.nil _ _, fun i hi => by omega⟩
  · rw [te.cellsOf] at hx
    have hcap : cap ≤ 9223372036854775807 := by unfold maxLen at hm; omega
    have hlm : len ≤ m := by rw [hmm]; split <;> omega
    have hx : ∀ i, i < len → ∃ cs', W.cells? 0 (a.add (i * s')) s' = some cs' ∧ DataW.trod enc P W 0 (fun _ => true) true n e cs' = some (D i, Pl i) := fun i hi => hx i (by omega)
    rcases Nat.eq_zero_or_pos len with h0 | h0
    · subst h0
      exact ⟨some a, 0, cap, [], rfl, Row.empty _ _ _ hcap, fun i hi => by omega⟩
    · have hspot : a.spot = none := by
        obtain ⟨cs', h1, _⟩ := hx 0 h0
        obtain ⟨_, hlen, hc⟩ := World.cells?_some h1
        have := hc 0 hs
        have hg : cs'[0]? = some (cs'[0]'(by omega)) := List.getElem?_eq_getElem (by omega)
        rw [hg] at this
        have := World.cell?_spot this
        revert this
        unfold Addr.add
        simp
      obtain ⟨bl, off, sp⟩ := a
      simp only at hspot
      subst hspot
      simp only [add_plain] at hx
      -- the cells
      have hcell : ∀ i, i < len * s' → ∃ v, W.cell? ⟨bl, off + i, none⟩ = some v := fun i hi => by
        obtain ⟨cs', h1, _⟩ := hx (i / s') (Nat.div_lt_of_lt_mul (by rwa [Nat.mul_comm]))
        obtain ⟨_, hlen, hc⟩ := World.cells?_some h1
        have hmod := Nat.mod_lt i hs
        have := hc (i % s') hmod
        rw [add_plain, Nat.add_assoc, Nat.add_comm (i / s' * s'), Nat.mod_add_div' i s', List.getElem?_eq_getElem (by omega)] at this
        exact ⟨_, this⟩
      have hblock : ∃ c T fr, W.heap[bl]? = some (.cells c T fr) := by
        obtain ⟨v, hv⟩ := hcell 0 (Nat.mul_pos h0 hs)
        unfold World.cell? at hv
        split at hv
        · rename_i c T fr hh; exact ⟨c, T, fr, hh⟩
        · cases hv
      obtain ⟨c, T, fr, hh⟩ := hblock
      have hc : ∀ i, i < len * s' → c[off + i]? = some (c.getD (off + i) default) ∧ W.cell? ⟨bl, off + i, none⟩ = some (c.getD (off + i) default) := fun i hi => by
        obtain ⟨v, hv⟩ := hcell i hi
        have hv' := hv
        unfold World.cell? at hv
        simp only [hh, Option.isSome_none, Bool.false_eq_true, if_false] at hv
        have : c.getD (off + i) default = v := by simp [Array.getD_eq_getD_getElem?, hv]
        rw [this]
        exact ⟨hv, hv'⟩
      refine ⟨some ⟨bl, off, none⟩, len, cap, (List.range (len * s')).map fun i => c.getD (off + i) default, rfl, ⟨by simp, hl, hcap, fun _ => ⟨bl, off, c, T, fr, rfl, hh, fun j v hj => ?_⟩⟩, fun i hi => ?_⟩
      · rw [List.getElem?_map] at hj
        obtain ⟨k, hk, rfl⟩ := Option.map_eq_some_iff.1 hj
        have hlt := (List.getElem?_eq_some_iff.1 hk).1
        rw [List.getElem?_range (by simpa using hlt)] at hk
        cases hk
        exact (hc _ (by simpa using hlt)).1
      · obtain ⟨cs', h1, h2⟩ := hx i hi
        have : ((((List.range (len * s')).map fun i => c.getD (off + i) default).drop (i * s')).take s') = cs' := by
          obtain ⟨_, hlen, hcc⟩ := World.cells?_some h1
          have hle : (i + 1) * s' ≤ len * s' := Nat.mul_le_mul_right _ hi
          rw [Nat.add_mul, Nat.one_mul] at hle
          apply List.ext_getElem?
          intro j
          rw [List.getElem?_take]
          split
          · rename_i hj
            rw [List.getElem?_drop, List.getElem?_map, List.getElem?_range (by omega)]
            have h3 := hcc j hj
            rw [add_plain, Nat.add_assoc] at h3
            rw [← h3, (hc (i * s' + j) (by omega)).2]
            rfl
          · rw [List.getElem?_eq_none (by omega)]
        rw [this]
        exact ⟨n, _, h2⟩
theorem one_of {v : Value} {base : Nat} {r : Reach} {d : TypeDesc} {z : Value} {s b : Nat} [ti : TI P t d z s b] (hd : aggD d = false) (h : Value.okWide P W r base t v) {x : Value} (hc : v.cells.toList = [x]) : v = x := by
 cases v with
 | agg c =>
  exfalso
  simp only [Value.okWide, ti.und] at h
  cases d <;> simp_all [aggD, Cell.okWide, Cell.ok]
 | _ => simpa [Value.cells] using hc
theorem u8_of {n : Int} (h : (Lit.int .u8 n).wf = true) : ∃ c : UInt8, n = (c.toNat : Int) := by
 simp [Lit.wf, IntKind.min, IntKind.max, IntKind.signed, IntKind.bits] at h
 exact ⟨UInt8.ofNat n.toNat, by simp [UInt8.toNat_ofNat']; omega⟩
theorem ints_of {k : IntKind} : ∀ (vs : List Value), (∀ i, i < vs.length → ∃ n, (vs.drop i).take 1 = [.int k n] ∧ (Lit.int k n).wf = true) → ∃ ts : List Int, vs = ts.map (.int k) ∧ ∀ t ∈ ts, (Lit.int k t).wf = true
  | [], _ => ⟨[], rfl, fun t h => by cases h⟩
  | v :: vs, h => by
    obtain ⟨n, h1, h2⟩ := h 0 (by simp)
    obtain ⟨ts, rfl, ht⟩ := ints_of vs (fun i hi => by simpa using h (i + 1) (by simpa using hi))
    refine ⟨n :: ts, by simpa using h1, fun t hm => ?_⟩
    rcases List.mem_cons.1 hm with rfl | hm
    · exact h2
    · exact ht t hm
theorem Rd.ints {k : IntKind} {e : TypeId} {z z' : Value} {s b b' : Nat} [ti : TI P t (.slice e) z s b] [te : TI P e (.int k) z' 1 b'] (h : Rd enc P W t cs) :
  ∃ (A : Option Addr) (len cap : Nat) (ts : List Int), cs = [.slice A len cap] ∧ Row (memOf W) 1 A len cap (ts.map (.int k)) ∧ ∀ n ∈ ts, (Lit.int k n).wf = true := by
 obtain ⟨A, len, cap, vs, rfl, hr, hx⟩ := h.slice (by omega)
 have hl := hr.len
 obtain ⟨ts, rfl, ht⟩ := ints_of (k := k) vs (fun i hi => by
  have := (hx i (by omega)).int
  simpa using this)
 exact ⟨A, len, cap, ts, rfl, hr, ht⟩
theorem u8s_of : ∀ (ts : List Int), (∀ t ∈ ts, (Lit.int .u8 t).wf = true) → ∃ bs : List UInt8, ts.map (Value.int .u8) = bs.map bv
 | [], _ => ⟨[], rfl⟩
 | t :: ts, h => by
  obtain ⟨c, rfl⟩ := u8_of (h t List.mem_cons_self)
  obtain ⟨bs, hb⟩ := u8s_of ts (fun x hx => h x (List.mem_cons_of_mem _ hx))
  exact ⟨c :: bs, by rw [List.map_cons, List.map_cons, hb]; rfl⟩
theorem Rd.bytes {e : TypeId} {z z' : Value} {s b b' : Nat} [ti : TI P t (.slice e) z s b] [te : TI P e (.int .u8) z' 1 b'] (h : Rd enc P W t cs) :
  ∃ (A : Option Addr) (len cap : Nat) (bs : List UInt8), cs = [.slice A len cap] ∧ Bytes (memOf W) A len cap bs := by
 obtain ⟨A, len, cap, ts, rfl, hr, ht⟩ := h.ints (k := .u8)
 obtain ⟨bs, hb⟩ := u8s_of ts ht
 exact ⟨A, len, cap, bs, rfl, by rw [Bytes, ← hb]; exact hr⟩
end
end Go.Eng
set_option linter.unusedVariables false
set_option linter.unusedSimpArgs false
namespace Go.Eng
open Go.ChangeShapes Go.WideShapes Go.ChangeAt Go.RowKit
section
variable {P : Program} {W : World}
theorem laidVars_mem : ∀ {laid : List (String × DataW Unit)} {ps : List MemPlace}, DataW.LaidVars P W laid ps → ∀ {n d}, (n, d) ∈ laid → ∃ g t cs fuel p, P.globalNamed n = some g ∧ (P.globals[g]?).map (·.type) = some t ∧ W.var? P n = some cs ∧ DataW.trod (fun _ => ()) P W 0 (fun _ => true) false fuel t cs.toList = some (d, p)
  | [], _, _, n, d, hm => by cases hm
  | (n0, d0) :: r, ps, h, n, d, hm => by
    obtain ⟨g, t, cs, fuel, p, q, h1, h2, h3, h4, h5, _⟩ := h
    rcases List.mem_cons.1 hm with he | hm
    · cases he; exact ⟨g, t, cs, fuel, p, h1, h2, h3, h4⟩
    · exact laidVars_mem h5 hm
theorem var_heap {n : String} {g : Nat} {cs : Array Value} (hg : P.globalNamed n = some g) (h : W.var? P n = some cs) : ∃ T fr, memOf W g = some (.cells cs T fr) := by
  simp only [World.var?, hg, Option.bind_some] at h
  unfold memOf
  split at h
  · rename_i c t fr hb
    cases h
    exact ⟨t, fr, hb⟩
  · cases h
theorem map_lits {k : IntKind} : ∀ {ns : List Int} {cs : List Value}, cs.length = ns.length → (∀ i, i < ns.length → ∃ x, (cs.drop i).take 1 = [Value.int k x] ∧ ns[i]? = some x) → cs = ns.map (.int k)
 | [], [], _, _ => rfl
 | [], _ :: _, h, _ => by simp at h
 | _ :: _, [], h, _ => by simp at h
 | n :: ns, c :: cs, h, hx => by
  obtain ⟨x, h1, h2⟩ := hx 0 (by simp)
  simp at h1 h2
  have h3 := map_lits (k := k) (ns := ns) (cs := cs) (by simpa using h) (fun i hi => by simpa using hx (i + 1) (by simpa using hi))
  rw [h1, h2, h3]
  rfl
theorem trod_ints {t e : TypeId} {m : Nat} {k : IntKind} {z z' : Value} {s b b' fuel : Nat} [ti : TI P t (.array m e) z s b] [te : TI P e (.int k) z' 1 b'] {ns : List Int} {cs : List Value} {p : List MemPlace} {sp : Nat → Bool} {held : Bool} {enc : TypeId × Value → Unit}
  (h : DataW.trod enc P W 0 sp held fuel t cs = some (.agg (ns.map fun x => .lit (.int k x)), p)) (hs : s = m) : cs = ns.map (.int k) := by
 obtain ⟨xs, m', rfl, hx, hl, hn, hel⟩ := DataW.trod_array ti.und h
 rw [ti.cellsOf, hs] at hl
 simp only [Prod.mk.injEq, DataW.agg.injEq] at hx
 have hln : ns.length = m := by rw [← hn]; simpa using congrArg List.length hx.1
 refine map_lits (by omega) (fun i hi => ?_)
 have h1 := hel i (by omega)
 rw [te.cellsOf, Nat.mul_one] at h1
 rw [List.getElem?_eq_getElem (show i < xs.length by omega)] at h1
 obtain ⟨x, e1, e2, _⟩ := DataW.trod_int te.und h1
 refine ⟨x, e1, ?_⟩
 have h2 := congrArg (fun l => l[i]?) hx.1
 simp only [List.getElem?_map] at h2
 rw [List.getElem?_eq_getElem (show i < xs.length by omega), List.getElem?_eq_getElem hi] at h2
 simp only [Option.map_some, Option.some.injEq, e2, DataW.lit.injEq, Lit.int.injEq, true_and] at h2
 rw [List.getElem?_eq_getElem hi, h2]
theorem laid_ints {laid : List (String × DataW Unit)} (h : laidMet P laid W) {n : String} {g : Nat} {t e : TypeId} {m : Nat} {k : IntKind} {z z' : Value} {s b b' : Nat} (ns : List Int) (hm : (n, DataW.agg (ns.map fun x => .lit (.int k x))) ∈ laid) (hg : P.globalNamed n = some g)
  (ht : (P.globals[g]?).map (·.type) = some t) (ti : TI P t (.array m e) z s b) (te : TI P e (.int k) z' 1 b') (hs : s = m) : ∃ T fr, memOf W g = some (.cells (ns.map (.int k)).toArray T fr) := by
 obtain ⟨ps, hv, _⟩ := h
 obtain ⟨g', t', cs, fuel, p, h1, h2, h3, h4⟩ := laidVars_mem hv hm
 obtain rfl := Option.some.inj (hg.symm.trans h1)
 obtain rfl := Option.some.inj (ht.symm.trans h2)
 obtain ⟨T, fr, hh⟩ := var_heap hg h3
 have := trod_ints h4 hs
 refine ⟨T, fr, ?_⟩
 rw [hh, ← this]
end
end Go.Eng
set_option linter.unusedVariables false
namespace Go.Proofs.YtiimjodbaogjbaaGreatDoor
open Go Go.Eng Go.ChangeShapes Go.WideShapes Go.ChangeAt Go.RowKit
theorem own : ownKnob Tryz.prog.godebug = none := by kernel_rfl
theorem laidOut : laidOutB Tryz.prog = true := by kernel_rfl
set_option maxRecDepth 100000 in
theorem shutBool {H : Type} {enc : TypeId × Value → H} {W : World} {base : Nat} {sp : Nat → Bool} {held : Bool} (b : Bool) : DataW.Trod enc Tryz.prog W base sp held 4 (.bool b) (.lit (.bool b)) [] := ⟨1, by simp [DataW.trod, Value.cells, Tryz.underlying4]⟩
end Go.Proofs.YtiimjodbaogjbaaGreatDoor
set_option linter.unusedVariables false
namespace Go.Proofs.YtiimjodbaogjbaaGreatDoor
open Go Go.Eng Go.ChangeShapes Go.WideShapes Go.ChangeAt Go.RowKit
section
variable {W : World}
theorem shaG_of {laid : List (String × DataW Unit)} (h : laidMet Tryz.prog laid W) (h1 : ("tearoff/sha2.k", Rows.laid_tearoff_sha2_k) ∈ laid) (h2 : ("tearoff/sha2.first", Rows.laid_tearoff_sha2_first) ∈ laid) : ShaG (memOf W) := by
  refine ⟨?_, ?_⟩
  · obtain ⟨T, fr, hc⟩ := laid_ints h (kT.map fun x => (x.toNat : Int)) h1 (show Tryz.prog.globalNamed "tearoff/sha2.k" = some 6 by kernel_rfl) (show (Tryz.prog.globals[6]?).map (·.type) = some 244 by kernel_rfl) ti244 ti22 rfl
    refine ⟨_, T, fr, hc, fun j hj => ?_⟩
    rw [List.getElem?_toArray, List.map_map]
    exact get_u32' kT j hj
  · obtain ⟨T, fr, hc⟩ := laid_ints h (H8.init.list.map fun x => (x.toNat : Int)) h2 (show Tryz.prog.globalNamed "tearoff/sha2.first" = some 5 by kernel_rfl) (show (Tryz.prog.globals[5]?).map (·.type) = some 230 by kernel_rfl) ti230 ti22 rfl
    exact ⟨T, fr, hc⟩
end
end Go.Proofs.YtiimjodbaogjbaaGreatDoor
