/-
From a contract to a statement; what came in. What is listed of package-level variables.
-/
import Derived.Test.YtiimjodbaogjbaaGreatDoorHss15Etc
import Derived.Test.YtiimjodbaogjbaaGreatDoorEngIEtc
import Derived.WalkKit
import Derived.ProofKit
import Derived.OpenShut
import Derived.ShutString
import Derived.ChangeOld
import Derived.Below
import Derived.Deep.Slices
import Derived.LaidMore
import Derived.LaidLaws
import Derived.MakeChecks
import Derived.Stop.Joined
import Derived.SevenTiedAt
import Derived.Test.YtiimjodbaogjbaaGreatDoorTypes1
import Derived.Test.YtiimjodbaogjbaaGreatDoorShaEtc
import Derived.Test.YtiimjodbaogjbaaGreatDoorChecked
import Derived.Test.YtiimjodbaogjbaaGreatDoorRows
import Derived.Test.YtiimjodbaogjbaaGreatDoorDig1Etc
import Derived.ChangeSame
import Derived.SizedLaws
import Derived.Deep.Strs
import Derived.Test.YtiimjodbaogjbaaGreatDoorOnce3Etc
import Derived.Test.YtiimjodbaogjbaaGreatDoorMerkle5Etc
import Derived.Test.YtiimjodbaogjbaaGreatDoorLms5Etc
import Derived.Test.YtiimjodbaogjbaaGreatDoorHss7Etc
import Derived.Test.YtiimjodbaogjbaaGreatDoorChain3Etc
import Derived.Test.YtiimjodbaogjbaaGreatDoorShakeEtc
import Derived.Test.YtiimjodbaogjbaaGreatDoorEngWEtc
import Derived.Test.YtiimjodbaogjbaaGreatDoorHss2Etc
import Derived.Test.YtiimjodbaogjbaaGreatDoorLms1Etc
import Derived.Test.YtiimjodbaogjbaaGreatDoorLms4Etc
set_option linter.unusedVariables false
set_option linter.unusedSimpArgs false
set_option linter.constructorNameAsVariable false
namespace Go.Proofs.YtiimjodbaogjbaaGreatDoor
open Go Go.Eng
def one13 : PairV := ⟨7, 4026531845⟩
theorem f13b : okL [one13, one13] ∧ totN [one13, one13] = 4 ∧ canE [one13, one13] 16 24 = 0 ∧ canE [one13] 16 24 = 0 ∧ belE one13 16 24 = 0 ∧ totN [one13] = 2 ∧ sigN one13 = 1284 ∧ pubN one13 = 48 ∧ okP one13 := by
  decide +kernel
theorem hsig_two (at_ : List Nat) (name sec text : List UInt8) : hsigB [one13, one13] at_ name sec text = putB 1 4 ++ (sgR [one13, one13] at_ name sec text 0 ++ (pubR [one13, one13] at_ name sec 1 ++ sgR [one13, one13] at_ name sec text 1)) := by
  have e0 : levR [one13, one13] at_ name sec text 0 = sgR [one13, one13] at_ name sec text 0 ++ pubR [one13, one13] at_ name sec 1 := by rw [levR, if_pos (by simp)]
  have e1 : levR [one13, one13] at_ name sec text 1 = sgR [one13, one13] at_ name sec text 1 := by rw [levR, if_neg (by simp), List.append_nil]
  rw [hsigB, show [one13, one13].length = 2 from rfl, catR_succ, catR_succ, catR_zero, List.nil_append, e0, e1, List.append_assoc]
section
variable {G : World} {M : Mem} {L : Own} {NA SA TA PA A : Option Addr} {nl nc sl_ sc tl tc pl pc m c : Nat} {name sec text pub sig : List UInt8}
theorem HssLevels_spec (hg : LmG M) (hname : Bytes M NA nl nc name) (hsec : Bytes M SA sl_ sc sec) (x : UInt64) (htext : Bytes M TA tl tc text) :
    Con Tryz.prog 14 #[.agg (List.toArray (seedC NA nl nc SA sl_ sc)), .int .u64 (x.toNat : Int), .slice TA tl tc] G M L (fun v M' L' => v = .bool true) noPanic := by
  obtain ⟨hok, htot, hcan2, hcan1, hbel, htot1, hsz, hpz, hokp⟩ := f13b
  have hns := hname.size
  have hss := hsec.size
  have hts := htext.size
  refine enter (args := [_, _, _]) (fn := Tryz.f14) ⟨Tryz.func14, rfl, by kernel_rfl, by kernel_rfl⟩ 150 rfl ?_
  refine x_seq (x_region ?_)
  refine tl_e rfl (e_box rfl (fun b1 => ?_))
  refine tl_y rfl (y_assign rfl) ?_
  refine tl_nil (.then_normal ?_)
  refine x_seq (x_seq (x_region ?_))
  refine tl_e rfl (e_call' rfl (awake13_spec hg.hs) ?_)
  rintro _ M1 _ hM1 ⟨rfl, rfl⟩
  have hd := hM1
  refine tl_y rfl (y_not rfl) ?_
  refine tl_nil (.then_normal ?_)
  refine x_false rfl (rfl) ?_
  refine x_skip (.then_normal ?_)
  refine .sub (F' := [(1, _), (2, _), (3, _)]) (.cons rfl (.cons rfl (.cons rfl .nil))) ?_
  refine x_seq (x_region ?_)
  refine tl_y rfl (y_build rfl) ?_
  refine tl_e rfl (e_alloc (fun b2 => ?_))
  refine tl_e rfl (e_store rfl rfl (by rfl) (by rfl) inferInstance inferInstance inferInstance ?_)
  refine tl_nil (.then_normal ?_)
  refine x_seq (x_region ?_)
  refine tl_y rfl (y_loadAgg rfl rfl (.own inferInstance inferInstance)) ?_
  refine tl_y rfl (y_loadAgg rfl rfl (.own inferInstance inferInstance)) ?_
  refine tl_e rfl (e_buildSlice rfl (by decide) (fun b3 => ?_))
  refine .pub b3 inferInstance (fun M2 hM2 hb3 => ?_)
  have hrow : Row M2 2 (some ⟨b3, 0, none⟩) 2 2 (prow [one13, one13]) := Row.whole (vs := prow [one13, one13]) hb3 rfl (by omega)
  replace hd := hd.trans hM2
  refine tl_y rfl (y_assign (v := .slice _ _ _) rfl) ?_
  refine tl_nil (.then_normal ?_)
  refine .sub (F' := [(1, _), (2, _), (3, _), (7, _), (8, _)]) (.cons rfl (.cons rfl (.cons rfl (.cons rfl (.cons rfl .nil))))) ?_
  refine x_seq (x_seq (x_region ?_))
  refine tl_y rfl (y_fieldAddr rfl) ?_
  refine tl_y rfl (y_load rfl rfl (.own inferInstance inferInstance)) ?_
  refine tl_y rfl (y_len rfl) ?_
  refine tl_y rfl (y_neq rfl rfl) ?_
  refine tl_y rfl (y_move (v := .bool _) rfl) ?_
  refine tl_cases (s := 32) rfl (fun hk1 => ?_) (fun hk1 => ?_)
  ·
    refine tl_skip rfl ?_
    refine tl_skip rfl ?_
    refine tl_skip rfl ?_
    refine tl_skip rfl ?_
    refine tl_y rfl (y_pickT rfl rfl) ?_
    refine tl_y rfl (y_move (v := .bool _) rfl) ?_
    refine tl_skip rfl ?_
    refine tl_skip rfl ?_
    refine tl_skip rfl ?_
    refine tl_y rfl (y_pickT rfl rfl) ?_
    refine tl_nil (.then_normal ?_)
    refine .sub (F' := [(1, _), (2, _), (3, _), (7, _), (8, _), (42, _)]) (.cons rfl (.cons rfl (.cons rfl (.cons rfl (.cons rfl (.cons rfl .nil)))))) ?_
    refine x_true rfl rfl ?_
    refine x_seq (x_region ?_)
    refine tl_y rfl (y_assign rfl) ?_
    refine tl_nil (.then_normal ?_)
    refine .sub (F' := [(6, _)]) (.cons rfl .nil) ?_
    refine x_ret (.then_ret (ret1 rfl rfl hd rfl))
  ·
    refine tl_y rfl (y_fieldAddr rfl) ?_
    refine tl_y rfl (y_load rfl rfl (.own inferInstance inferInstance)) ?_
    refine tl_y rfl (y_len rfl) ?_
    refine tl_y rfl (y_neq rfl rfl) ?_
    refine tl_y rfl (y_pickF rfl rfl) ?_
    refine tl_y rfl (y_move (v := .bool _) rfl) ?_
    refine tl_cases (s := 38) rfl (fun hk2 => ?_) (fun hk2 => ?_)
    ·
      refine tl_skip rfl ?_
      refine tl_skip rfl ?_
      refine tl_skip rfl ?_
      refine tl_y rfl (y_pickT rfl rfl) ?_
      refine tl_nil (.then_normal ?_)
      refine .sub (F' := [(1, _), (2, _), (3, _), (7, _), (8, _), (42, _)]) (.cons rfl (.cons rfl (.cons rfl (.cons rfl (.cons rfl (.cons rfl .nil)))))) ?_
      refine x_true rfl rfl ?_
      refine x_seq (x_region ?_)
      refine tl_y rfl (y_assign rfl) ?_
      refine tl_nil (.then_normal ?_)
      refine .sub (F' := [(6, _)]) (.cons rfl .nil) ?_
      refine x_ret (.then_ret (ret1 rfl rfl hd rfl))
    ·
      refine tl_y rfl (y_move (v := .slice _ _ _) rfl) ?_
      refine tl_y rfl (y_len rfl) ?_
      refine tl_y rfl (y_gtr rfl rfl) ?_
      refine tl_y rfl (y_pickF rfl rfl) ?_
      refine tl_nil (.then_normal ?_)
      refine .sub (F' := [(1, _), (2, _), (3, _), (7, _), (8, _), (42, _)]) (.cons rfl (.cons rfl (.cons rfl (.cons rfl (.cons rfl (.cons rfl .nil)))))) ?_
      refine x_cond rfl (fun hc2 => ?_) (fun hc2 => ?_)
      ·
        refine x_seq (x_region ?_)
        refine tl_y rfl (y_assign rfl) ?_
        refine tl_nil (.then_normal ?_)
        refine .sub (F' := [(6, _)]) (.cons rfl .nil) ?_
        refine x_ret (.then_ret (ret1 rfl rfl hd rfl))
      ·
        obtain rfl : nl = 16 := by omega
        obtain rfl : sl_ = 24 := by omega
        obtain ⟨y, hy1, hy2, hy3⟩ := mod_tot x hok
        rw [htot] at hy1 hy2 hy3
        refine x_skip (.then_normal ?_)
        refine x_seq (x_region ?_)
        refine tl_y rfl (y_move (v := .int _ _) rfl) ?_
        refine tl_y rfl (y_remI rfl rfl ⟨by omega, by omega⟩) ?_
        rw [show (x.toNat : Int) % 4 = ((y.toNat : Nat) : Int) from hy3]
        refine tl_y rfl (y_assign (v := .int _ _) rfl) ?_
        refine tl_nil (.then_normal ?_)
        refine .sub (F' := [(2, _), (3, _), (7, _), (8, _), (9, _)]) (.cons rfl (.cons rfl (.cons rfl (.cons rfl (.cons rfl .nil))))) ?_
        refine x_seq (x_region ?_)
        refine tl_y rfl (y_move (v := .slice _ _ _) rfl) ?_
        refine tl_y rfl (y_loadAgg rfl rfl (.own inferInstance inferInstance)) ?_
        refine tl_e rfl (e_call' rfl (Public_hspec (hg.mono hd) hrow (hname.mono hd) (hsec.mono hd)) ?_)
        rintro _ M3 _ hM3 ⟨rfl, A3, m3, c3, rfl, hA3⟩
        replace hd := hd.trans hM3
        rw [hcan2]
        rw [hpubV, if_pos hcan2] at hA3
        have hs3 := hA3.size
        refine tl_y rfl (y_move (v := .tuple _) rfl) ?_
        refine tl_y rfl (y_extract rfl) ?_
        refine tl_y rfl (y_extract rfl) ?_
        refine tl_y rfl (y_assign (v := .slice _ _ _) rfl) ?_
        refine tl_y rfl (y_assign (v := .int _ _) rfl) ?_
        refine tl_nil (.then_normal ?_)
        refine .sub (F' := [(2, _), (3, _), (7, _), (8, _), (9, _), (10, _), (11, _)]) (.cons rfl (.cons rfl (.cons rfl (.cons rfl (.cons rfl (.cons rfl (.cons rfl .nil))))))) ?_
        refine x_seq (x_region ?_)
        refine tl_y rfl (y_move (v := .slice _ _ _) rfl) ?_
        refine tl_y rfl (y_loadAgg rfl rfl (.own inferInstance inferInstance)) ?_
        refine tl_y rfl (y_move (v := .int _ _) rfl) ?_
        refine tl_y rfl (y_move (v := .slice _ _ _) rfl) ?_
        refine tl_e rfl (e_call' rfl (Sign_hspec (hg.mono hd) (hrow.mono hM3) (hname.mono hd) (hsec.mono hd) y (htext.mono hd)) ?_)
        rintro _ M4 _ hM4 ⟨rfl, A4, m4, c4, rfl, hA4⟩
        replace hd := hd.trans hM4
        replace hA3 := hA3.mono hM4
        have hE0 : hsigE [one13, one13] 16 24 y.toNat tl = 0 := by rw [hsigE, if_neg (fun h => h hcan2), if_neg (by omega), plE, if_pos hok, if_pos (by rw [htot]; exact hy2)]
        rw [hE0]
        rw [hsigV, if_pos hE0] at hA4
        have hs4 := hA4.size
        refine tl_y rfl (y_move (v := .tuple _) rfl) ?_
        refine tl_y rfl (y_extract rfl) ?_
        refine tl_y rfl (y_extract rfl) ?_
        refine tl_y rfl (y_assign (v := .slice _ _ _) rfl) ?_
        refine tl_y rfl (y_assign (v := .int _ _) rfl) ?_
        refine tl_nil (.then_normal ?_)
        refine .sub (F' := [(2, _), (3, _), (7, _), (8, _), (9, _), (10, _), (11, _), (12, _), (13, _)]) (.cons rfl (.cons rfl (.cons rfl (.cons rfl (.cons rfl (.cons rfl (.cons rfl (.cons rfl (.cons rfl .nil))))))))) ?_
        refine x_seq (x_region ?_)
        refine tl_y rfl (y_move (v := .slice _ _ _) rfl) ?_
        refine tl_y rfl (y_move (v := .int _ _) rfl) ?_
        refine tl_e rfl (e_call' rfl (Places_spec (hg.mono hd).hs (hrow.mono (hM3.trans hM4)) y) ?_)
        rintro _ M5 _ hM5 ⟨rfl, A5, m5, c5, rfl, hA5⟩
        replace hd := hd.trans hM5
        replace hA3 := hA3.mono hM5
        replace hA4 := hA4.mono hM5
        have hE1 : plE [one13, one13] y.toNat = 0 := by rw [plE, if_pos hok, if_pos (by rw [htot]; exact hy2)]
        rw [hE1]
        rw [plV, if_pos ⟨hok, by rw [htot]; exact hy2⟩] at hA5
        obtain ⟨at_, hatd⟩ : ∃ at_, at_ = atsN ([one13, one13].map tv) y.toNat := ⟨_, rfl⟩
        rw [← hatd] at hA5 hA4 hs4
        have hal : at_.length = 2 := by rw [hatd, atsN_len]; rfl
        have hm5 : m5 = 2 := by have := hA5.len; simp [u32r] at this; omega
        subst hm5
        obtain ⟨hcok, hcn⟩ := canE_zero hcan2
        obtain ⟨z1, z2, z3, z4⟩ := lv_len hcok hcn at_ text hns hss (i := 0) (by decide) hatd
        obtain ⟨y1, y2, y3, y4⟩ := lv_len hcok hcn at_ text hns hss (i := 1) (by decide) hatd
        rw [show [one13, one13].getD 0 p0 = one13 from rfl, hsz] at z1
        rw [show [one13, one13].getD 1 p0 = one13 from rfl, hsz] at y1
        rw [show [one13, one13].getD 1 p0 = one13 from rfl] at y3
        obtain ⟨n1, w1, p1, H1, hx1, h161, k1, k2, k3, k4, k5⟩ := pubR_facts (at_ := at_) (name := name) (sec := sec) hcok hcn hns hss (i := 1) (by decide)
        rw [show [one13, one13].getD 1 p0 = one13 from rfl, hpz] at k3
        obtain ⟨n0, w0, p0', H0, hx0, h160, j1, j2, j3, j4, j5⟩ := pubR_facts (at_ := at_) (name := name) (sec := sec) hcok hcn hns hss (i := 0) (by decide)
        rw [show [one13, one13].getD 0 p0 = one13 from rfl, hpz] at j3
        have hsl := hs4
        rw [hsig_two, List.length_append, List.length_append, List.length_append, putB_length, z1, y1, k1] at hsl
        have hpl3 := hs3
        rw [hpubB, List.length_append, putB_length, show pubB ([one13, one13].getD 0 p0) name sec = pubR [one13, one13] at_ name sec 0 from rfl, j1] at hpl3
        obtain ⟨q, hq⟩ : ∃ q : UInt32, q.toNat = at_.getD 0 0 := ⟨UInt32.ofNat (at_.getD 0 0), by rw [UInt32.toNat_ofNat', Nat.mod_eq_of_lt (by omega)]⟩
        have haq : at_[0]? = some q.toNat := by rw [hq, List.getD_eq_getElem?_getD, List.getElem?_eq_getElem (by omega)]; rfl
        obtain ⟨g2, o2, rfl, hcell2⟩ := hA5.addr (by omega)
        have hft2 := hss_fits hcan2 hns hss (text := text) (x := y.toNat) hatd (by omega)
        refine tl_y rfl (y_move (v := .tuple _) rfl) ?_
        refine tl_y rfl (y_extract rfl) ?_
        refine tl_y rfl (y_extract rfl) ?_
        refine tl_y rfl (y_assign (v := .slice _ _ _) rfl) ?_
        refine tl_y rfl (y_assign (v := .int _ _) rfl) ?_
        refine tl_nil (.then_normal ?_)
        refine .sub (F' := [(2, _), (3, _), (7, _), (8, _), (10, _), (11, _), (12, _), (13, _), (14, _), (15, _)]) (.cons rfl (.cons rfl (.cons rfl (.cons rfl (.cons rfl (.cons rfl (.cons rfl (.cons rfl (.cons rfl (.cons rfl .nil)))))))))) ?_
        refine x_seq (x_seq (x_region ?_))
        refine tl_y rfl (y_move (v := .int _ _) rfl) ?_
        refine tl_y rfl (y_neq rfl rfl) ?_
        refine tl_y rfl (y_move (v := .bool _) rfl) ?_
        refine tl_set (s := 67) (u := .bool false) rfl (rfl) ?_
        refine tl_y rfl (y_move (v := .int _ _) rfl) ?_
        refine tl_y rfl (y_neq rfl rfl) ?_
        refine tl_y rfl (y_pickF rfl rfl) ?_
        refine tl_y rfl (y_move (v := .bool _) rfl) ?_
        refine tl_set (s := 71) (u := .bool false) rfl (rfl) ?_
        refine tl_y rfl (y_move (v := .int _ _) rfl) ?_
        refine tl_y rfl (y_neq rfl rfl) ?_
        refine tl_y rfl (y_pickF rfl rfl) ?_
        refine tl_y rfl (y_move (v := .bool _) rfl) ?_
        refine tl_set (s := 75) (u := .bool false) rfl (rfl) ?_
        refine tl_y rfl (y_move (v := .slice _ _ _) rfl) ?_
        refine tl_y rfl (y_len rfl) ?_
        refine tl_y rfl (y_neq rfl rfl) ?_
        refine tl_y rfl (y_pickF rfl rfl) ?_
        refine tl_nil (.then_normal ?_)
        refine .sub (F' := [(2, _), (3, _), (7, _), (8, _), (10, _), (12, _), (14, _), (79, _)]) (.cons rfl (.cons rfl (.cons rfl (.cons rfl (.cons rfl (.cons rfl (.cons rfl (.cons rfl .nil)))))))) ?_
        refine x_false rfl (rfl) ?_
        refine x_skip (.then_normal ?_)
        refine x_seq ?_
        refine x_meet (I := fun F D M6 L6 => ∃ (b4 : Nat) (u z : SlV), F = [(2, .slice TA tl tc), (7, .pointer (some ⟨b2, 0, none⟩)), (8, .slice (some ⟨b3, 0, none⟩) 2 2), (10, .slice A3 m3 c3), (12, .slice A4 m4 c4), (16, .pointer (some ⟨b4, 0, none⟩)), (17, .int .i64 0)] ∧ D = [] ∧ Le M5 M6 ∧ Bytes M6 u.a u.n u.c (belN one13 name sec q.toNat) ∧ Bytes M6 z.a z.n z.c (belS one13 name sec q.toNat) ∧ L6 = (b4, .cells (List.toArray (seedC u.a u.n u.c z.a z.n z.c)) 49 (0, 0)) :: (b2, .cells (List.toArray one13.cells) 24 (0, 0)) :: (b1, .cells (List.toArray (seedC NA 16 nc SA 24 sc)) 49 (0, 0)) :: L) ?_ (fun Jd13 => ?_)
        ·
          rintro _ _ M6 _ ⟨b4, u, z, rfl, rfl, hM6, hu, hz, rfl⟩  -- slots [2, 7, 8, 10, 12, 16, 17]
          replace hd := hd.trans hM6
          replace hA3 := hA3.mono hM6
          replace hA4 := hA4.mono hM6
          have hx0' : PF one13 n0 w0 p0' H0 := hx0
          obtain ⟨lo1, lo2⟩ := bel_len hx0' name sec q.toNat
          have hun := hu.size
          have hzn := hz.size
          rw [lo1] at hun
          rw [lo2] at hzn
          have hn24 : n0 = 24 := by omega
          obtain ⟨un, hune⟩ : ∃ un, un = u.n := ⟨_, rfl⟩
          obtain ⟨zn, hzne⟩ : ∃ zn, zn = z.n := ⟨_, rfl⟩
          obtain ⟨ua, una, uc⟩ := u
          obtain ⟨za, zna, zc⟩ := z
          simp only at hu hz hun hzn hune hzne ⊢
          obtain rfl : una = 16 := by omega
          obtain rfl : zna = 24 := by omega
          have hse1 : seedR [one13, one13] at_ name sec 1 = (belN one13 name sec q.toNat, belS one13 name sec q.toNat) := by rw [hq]; rfl
          generalize belN one13 name sec q.toNat = low1 at hu hse1 lo1
          generalize belS one13 name sec q.toNat = low2 at hz hse1 lo2
          have hpr1 : pubR [one13, one13] at_ name sec 1 = pubB one13 low1 low2 := by rw [pubR, hse1]; rfl
          have hsr1 : sgR [one13, one13] at_ name sec text 1 = lsigB one13 low1 low2 (at_.getD 1 0) text := by
            rw [sgR, hse1, nextR, if_neg (by simp)]; rfl
          have hd1 : (hsigB [one13, one13] at_ name sec text).drop 1336 = lsigB one13 low1 low2 (at_.getD 1 0) text := by
            rw [hsig_two, ← hsr1, show 1336 = 4 + (1284 + 48) from rfl, ← List.drop_drop, drop_at (putB_length 4 _), ← List.drop_drop, drop_at z1]
            exact drop_at (by rw [k1]; omega)
          have hd2 : ((hsigB [one13, one13] at_ name sec text).drop 1288).take 48 = pubB one13 low1 low2 := by
            rw [hsig_two, ← hpr1, show 1288 = 4 + 1284 from rfl, ← List.drop_drop, drop_at (putB_length 4 _), drop_at z1]
            exact take_at (by rw [k1]; omega)
          have hat1 : at_.getD 1 0 < totN [one13] := by rw [leaves_one hokp]; exact y3
          have hin := hsigB_one one13 (at_.getD 1 0) low1 low2 text
          have hft1 := hss_fits hcan1 lo1 (by rw [lo2]; exact hn24) (text := text) (x := at_.getD 1 0) rfl (by omega)
          rw [at_one hokp hat1, hin] at hft1
          have hc4 := hA4.le
          have hdr := Bytes.drop hA4 1336 (by omega)
          rw [hd1] at hdr
          have hsb := Bytes.sub hA4 1288 1336 (by omega) (by omega)
          rw [show 1336 - 1288 = 48 from rfl, hd2] at hsb
          refine x_seq (x_region ?_)
          refine tl_y rfl (y_loadAgg rfl rfl (.own inferInstance inferInstance)) ?_
          refine tl_e rfl (e_buildSlice rfl (by decide) (fun b5 => ?_))
          refine .pub b5 inferInstance (fun M7 hM7 hb5 => ?_)
          have hrow1 : Row M7 2 (some ⟨b5, 0, none⟩) 1 1 (prow [one13]) := Row.whole (vs := prow [one13]) hb5 rfl (by omega)
          replace hd := hd.trans hM7
          refine tl_y rfl (y_loadAgg rfl rfl (.own inferInstance inferInstance)) ?_
          refine tl_e rfl (e_call' rfl (Public_hspec (hg.mono hd) hrow1 (hu.mono hM7) (hz.mono hM7)) ?_)
          rintro _ M8 _ hM8 ⟨rfl, A8, m8, c8, rfl, hA8⟩
          replace hd := hd.trans hM8
          rw [hcan1]
          rw [hpubV, if_pos hcan1] at hA8
          have hs8 := hA8.size
          have hc8 := hA8.le
          have hp8 : (hpubB [one13] low1 low2).drop 4 = pubB one13 low1 low2 := drop_at (putB_length 4 _)
          have hl8 := congrArg List.length hp8
          rw [List.length_drop, ← hpr1, k1] at hl8
          have hdr8 := Bytes.drop hA8 4 (by omega)
          rw [hp8] at hdr8
          refine tl_y rfl (y_move (v := .tuple _) rfl) ?_
          refine tl_y rfl (y_extract rfl) ?_
          refine tl_y rfl (y_extract rfl) ?_
          refine tl_y rfl (y_assign (v := .slice _ _ _) rfl) ?_
          refine tl_y rfl (y_assign (v := .int _ _) rfl) ?_
          refine tl_nil (.then_normal ?_)
          refine .sub (F' := [(2, _), (8, _), (10, _), (12, _), (17, _), (18, _), (19, _)]) (.cons rfl (.cons rfl (.cons rfl (.cons rfl (.cons rfl (.cons rfl (.cons rfl .nil))))))) ?_
          refine x_seq (x_region ?_)
          refine tl_y rfl (y_assign rfl) ?_
          refine tl_nil (.then_normal ?_)
          refine x_seq (x_seq (x_region ?_))
          refine tl_y rfl (y_move (v := .int _ _) rfl) ?_
          refine tl_y rfl (y_neq rfl rfl) ?_
          refine tl_y rfl (y_move (v := .bool _) rfl) ?_
          refine tl_set (s := 98) (u := .bool false) rfl (rfl) ?_
          refine tl_y rfl (y_move (v := .int _ _) rfl) ?_
          refine tl_y rfl (y_neq rfl rfl) ?_
          refine tl_y rfl (y_pickF rfl rfl) ?_
          refine tl_y rfl (y_move (v := .bool _) rfl) ?_
          refine tl_set (s := 102) (u := .bool false) rfl (rfl) ?_
          refine tl_y rfl (y_move (v := .slice _ _ _) rfl) ?_
          refine tl_y rfl (y_len rfl) ?_
          refine tl_y rfl (y_move (v := .int _ _) rfl) ?_
          refine tl_y rfl (y_addI rfl rfl (by omega)) ?_
          refine tl_y rfl (y_addI rfl rfl (by omega)) ?_
          refine tl_y rfl (y_move (v := .int _ _) rfl) ?_
          refine tl_y rfl (y_addI rfl rfl (by omega)) ?_
          refine tl_y rfl (y_neq rfl rfl) ?_
          refine tl_y rfl (y_pickF rfl rfl) ?_
          refine tl_y rfl (y_move (v := .bool _) rfl) ?_
          refine tl_set (s := 112) (u := .bool false) rfl (congrArg Value.bool (decide_eq_false (fun h => h (by omega)))) ?_
          refine tl_y rfl (y_move (v := .slice _ _ _) rfl) ?_
          refine tl_y rfl (y_len rfl) ?_
          refine tl_y rfl (y_neq rfl rfl) ?_
          refine tl_y rfl (y_pickF rfl rfl) ?_
          refine tl_nil (.then_normal ?_)
          refine .sub (F' := [(2, _), (8, _), (10, _), (12, _), (18, _), (20, _), (116, _)]) (.cons rfl (.cons rfl (.cons rfl (.cons rfl (.cons rfl (.cons rfl (.cons rfl .nil))))))) ?_
          refine x_false rfl (decide_eq_false (fun h => h (by omega))) ?_
          refine x_skip (.then_normal ?_)
          refine x_seq (x_region ?_)
          refine tl_e rfl (e_buildSlice rfl (by decide) (fun b4 => ?_))
          refine tl_y rfl (y_move (v := .slice _ _ _) rfl) ?_
          refine tl_y rfl (y_move (v := .int _ _) rfl) ?_
          refine tl_y rfl (y_addI rfl rfl (by omega)) ?_
          refine tl_y rfl (y_addI rfl rfl (by omega)) ?_
          refine tl_y rfl (y_sliceL (l := 1336) rfl rfl (by omega)) ?_
          refine tl_e rfl (e_append1 (by decide) rfl rfl (OwnRow.made (n := 4) rfl (by omega)) (.row (hdr.mono (hM7.trans hM8))) (all_one_bv _) (by omega) (by omega) (fun A9 c9 E9 hE9 => ?_))
          have e9 : [Value.int .u8 0, .int .u8 0, .int .u8 0, .int .u8 0] ++ (lsigB one13 low1 low2 (at_.getD 1 0) text).map bv = (putB 0 4 ++ lsigB one13 low1 low2 (at_.getD 1 0) text).map bv := by rw [List.map_append, put0]
          rw [e9] at hE9
          refine .pubRow hE9 (fun M9 hM9 hr9 => ?_)
          replace hd := hd.trans hM9
          have hM69 := hM7.trans (hM8.trans hM9)
          have hf : Le M9 M9 := Le.refl _
          refine tl_y rfl (y_assign (v := .slice _ _ _) rfl) ?_
          refine tl_nil (.then_normal ?_)
          refine .sub (F' := [(2, _), (8, _), (10, _), (12, _), (18, _), (20, _), (21, _)]) (.cons rfl (.cons rfl (.cons rfl (.cons rfl (.cons rfl (.cons rfl (.cons rfl .nil))))))) ?_
          refine x_seq ?_
          refine x_draw 27 hmix rfl ?_
          refine to_p 0 rfl (by kernel_rfl) rfl (y_move (v := .slice _ _ _) rfl) ?_
          refine to_p 1 rfl (by kernel_rfl) rfl (y_move (v := .int _ _) rfl) ?_
          refine to_p 2 rfl (by kernel_rfl) rfl (y_addI rfl rfl (by omega)) ?_
          refine to_p 3 rfl (by kernel_rfl) rfl (y_move (v := .int _ _) rfl) ?_
          refine to_p 4 rfl (by kernel_rfl) rfl (y_addI rfl rfl (by omega)) ?_
          refine to_p 5 rfl (by kernel_rfl) rfl (y_addI rfl rfl (by omega)) ?_
          refine to_p 6 rfl (by kernel_rfl) rfl (y_sliceLH (l := 1288) (h := 1336) rfl rfl rfl (by omega) (by omega)) ?_
          refine to_p 7 rfl (by kernel_rfl) rfl (y_move (v := .slice _ _ _) rfl) ?_
          refine to_p 8 rfl (by kernel_rfl) rfl (y_sliceL rfl rfl (by omega)) ?_
          refine to_e 9 rfl (by kernel_rfl) rfl (e_call' rfl (same_spec (hsb.mono hM69) (hdr8.mono hM9)) ?_)
          rintro _ _ _ _ ⟨rfl, rfl, rfl⟩
          refine ⟨⟨(by first | exact Le.refl _ | assumption), Keeps.mem⟩, ?_⟩
          refine to_p 10 rfl (by kernel_rfl) rfl (y_move (v := .bool _) rfl) ?_
          refine to_set (s := 134) (u := .bool true) rfl (by first | rfl | exact congrArg Value.bool (decide_eq_true rfl) | exact congrArg Value.bool (decide_eq_true hft1) | exact congrArg Value.bool (decide_eq_true hft2)) ?_
          refine to_p 11 rfl (by kernel_rfl) rfl (y_move (v := .slice _ _ _) rfl) ?_
          refine to_p 12 rfl (by kernel_rfl) rfl (y_move (v := .slice _ _ _) rfl) ?_
          refine to_p 13 rfl (by kernel_rfl) rfl (y_move (v := .slice _ _ _) rfl) ?_
          refine to_e 14 rfl (by kernel_rfl) rfl (e_call' rfl (Fits_hspec (hg.mono hd) (hA8.mono hM9) (htext.mono hd) hr9 (by omega) (by omega)) ?_)
          rintro _ M10 _ hM10 ⟨rfl, rfl⟩
          replace hd := hd.trans hM10
          replace hf := hf.trans hM10
          refine ⟨⟨hf, Keeps.mem⟩, ?_⟩
          refine to_p 15 rfl (by kernel_rfl) rfl (y_pickT rfl rfl) ?_
          refine to_p 16 rfl (by kernel_rfl) rfl (y_move (v := .bool _) rfl) ?_
          refine to_set (s := 140) (u := .bool true) rfl (by first | rfl | exact congrArg Value.bool (decide_eq_true rfl) | exact congrArg Value.bool (decide_eq_true hft1) | exact congrArg Value.bool (decide_eq_true hft2)) ?_
          refine to_p 17 rfl (by kernel_rfl) rfl (y_move (v := .slice _ _ _) rfl) ?_
          refine to_p 18 rfl (by kernel_rfl) rfl (y_move (v := .slice _ _ _) rfl) ?_
          refine to_p 19 rfl (by kernel_rfl) rfl (y_move (v := .slice _ _ _) rfl) ?_
          refine to_e 20 rfl (by kernel_rfl) rfl (e_call' rfl (Fits_hspec (hg.mono hd) (hA3.mono (hM69.trans hM10)) (htext.mono hd) (hA4.mono (hM69.trans hM10)) (by omega) (by omega)) ?_)
          rintro _ M11 _ hM11 ⟨rfl, rfl⟩
          replace hd := hd.trans hM11
          replace hf := hf.trans hM11
          refine ⟨⟨hf, Keeps.mem⟩, ?_⟩
          refine to_p 21 rfl (by kernel_rfl) rfl (y_pickT rfl rfl) ?_
          refine to_p 22 rfl (by kernel_rfl) rfl (y_move (v := .bool _) rfl) ?_
          refine to_set (s := 146) (u := .bool true) rfl (by first | rfl | exact congrArg Value.bool (decide_eq_true rfl) | exact congrArg Value.bool (decide_eq_true hft1) | exact congrArg Value.bool (decide_eq_true hft2)) ?_
          refine to_p 23 rfl (by kernel_rfl) rfl (y_move (v := .slice _ _ _) rfl) ?_
          refine to_e 24 rfl (by kernel_rfl) rfl (e_call' rfl (RMay13_spec (hrow.mono (hM3.trans (hM4.trans (hM5.trans (hM6.trans (hM69.trans (hM10.trans hM11)))))))) ?_)
          rintro _ _ _ _ ⟨rfl, rfl, rfl⟩
          refine ⟨⟨hf, Keeps.mem⟩, ?_⟩
          refine to_p 25 rfl (by kernel_rfl) rfl (y_pickT rfl rfl) ?_
          refine to_p 26 rfl (by kernel_rfl) rfl (y_assign (v := .bool _) rfl) ?_
          refine to_nil (by kernel_rfl) (.then_normal ?_)
          refine .sub (F' := [(6, _)]) (.cons rfl .nil) ?_
          refine x_ret (ret1 rfl rfl hd (congrArg Value.bool (decide_eq_true hok)))
        ·
          have he : Le M5 M5 := Le.refl _
          refine x_draw 10 hmix rfl ?_
          refine to_y 0 rfl (by kernel_rfl) rfl (y_loadAgg rfl rfl (.own inferInstance inferInstance)) ?_
          refine to_y 1 rfl (by kernel_rfl) rfl (y_loadAgg rfl rfl (.own inferInstance inferInstance)) ?_
          refine to_p 2 rfl (by kernel_rfl) rfl (y_move (v := .slice _ _ _) rfl) ?_
          refine to_p 3 rfl (by kernel_rfl) rfl (y_indexAddr rfl rfl (by omega)) ?_
          refine to_y 4 rfl (by kernel_rfl) rfl (y_load rfl rfl (.at_ (hcell2 _ 0 _ (u32r_get haq)) (by omega))) ?_
          refine to_two 5 9 (by kernel_rfl) ?_ ?_
          ·
            refine two_e 5 rfl rfl (e_call' rfl (Below_spec (hg.mono hd) one13 (hname.mono hd) (hsec.mono hd) q) ?_)
            rintro _ M6 _ hM6 ⟨rfl, u, z, rfl, hu, hz⟩
            rw [hbel]
            rw [belNV, if_pos hbel] at hu
            rw [belSV, if_pos hbel] at hz
            replace he := he.trans hM6
            refine ⟨⟨he, Keeps.mem⟩, ?_⟩
            refine to_p 6 rfl (by kernel_rfl) rfl (y_move (v := .tuple _) rfl) ?_
            refine to_p 7 rfl (by kernel_rfl) rfl (y_extract rfl) ?_
            refine to_p 8 rfl (by kernel_rfl) rfl (y_extract rfl) ?_
            refine to_e 9 rfl (by kernel_rfl) rfl (e_alloc (fun b5 => ?_))
            refine ⟨⟨he, Keeps.mem⟩, ?_⟩
            refine to_t 10 rfl (by kernel_rfl) (by kernel_rfl) rfl (e_store rfl rfl (by rfl) (by rfl) inferInstance inferInstance inferInstance ?_)
            refine to_p 11 rfl (by kernel_rfl) rfl (y_assign (v := .int _ _) rfl) ?_
            refine to_nil (by kernel_rfl) (.then_normal (.sub (F' := [(2, _), (7, _), (8, _), (10, _), (12, _), (16, _), (17, _)]) (.cons rfl (.cons rfl (.cons rfl (.cons rfl (.cons rfl (.cons rfl (.cons rfl .nil))))))) (Jd13 _ _ _ _ ?_)))
            exact ⟨_, u, z, rfl, rfl, he, hu, hz, rfl⟩
          ·
            refine two_e 9 rfl rfl (e_alloc (fun b6 => ?_))
            refine ⟨⟨he, Keeps.mem⟩, ?_⟩
            refine to_e 5 rfl (by kernel_rfl) rfl (e_call' rfl (Below_spec (hg.mono hd) one13 (hname.mono hd) (hsec.mono hd) q) ?_)
            rintro _ M6 _ hM6 ⟨rfl, u, z, rfl, hu, hz⟩
            rw [hbel]
            rw [belNV, if_pos hbel] at hu
            rw [belSV, if_pos hbel] at hz
            replace he := he.trans hM6
            refine ⟨⟨he, Keeps.mem⟩, ?_⟩
            refine to_p 6 rfl (by kernel_rfl) rfl (y_move (v := .tuple _) rfl) ?_
            refine to_p 7 rfl (by kernel_rfl) rfl (y_extract rfl) ?_
            refine to_p 8 rfl (by kernel_rfl) rfl (y_extract rfl) ?_
            refine to_t 10 rfl (by kernel_rfl) (by kernel_rfl) rfl (e_store rfl rfl (by rfl) (by rfl) inferInstance inferInstance inferInstance ?_)
            refine to_p 11 rfl (by kernel_rfl) rfl (y_assign (v := .int _ _) rfl) ?_
            refine to_nil (by kernel_rfl) (.then_normal (.sub (F' := [(2, _), (7, _), (8, _), (10, _), (12, _), (16, _), (17, _)]) (.cons rfl (.cons rfl (.cons rfl (.cons rfl (.cons rfl (.cons rfl (.cons rfl .nil))))))) (Jd13 _ _ _ _ ?_)))
            exact ⟨_, u, z, rfl, rfl, he, hu, hz, rfl⟩
end
end Go.Proofs.YtiimjodbaogjbaaGreatDoor
set_option linter.unusedVariables false
set_option linter.unusedSimpArgs false
namespace Go.Eng
open Go.ChangeShapes Go.WideShapes Go.ChangeAt Go.RowKit
def memOf (W : World) : Mem := fun b => W.heap[b]?
theorem st_start (W : World) : St W (memOf W) [] W := ⟨rfl, rfl, rfl, fun b o h => h, fun p hp => (by cases hp), by simp⟩
theorem below_of {W W' : World} {M' : Mem} {L' : Own} (hle : Le (memOf W) M') (h : St W M' L' W') : Below W.heap.size W W' := by
  have hb : ∀ k, k < W.heap.size → W'.heap[k]? = W.heap[k]? := fun k hk => by
    have h1 : W.heap[k]? = some W.heap[k] := Array.getElem?_eq_getElem hk
    rw [h1]
    exact h.ro k _ (hle k _ h1)
  refine ⟨h.os, h.tape, h.output, ?_, hb⟩
  rcases Nat.eq_zero_or_pos W.heap.size with h0 | h0
  · omega
  · have h2 := hb (W.heap.size - 1) (by omega)
    have hlt : W.heap.size - 1 < W.heap.size := by omega
    rw [Array.getElem?_eq_getElem hlt] at h2
    have h3 := (Array.getElem?_eq_some_iff.1 h2).1
    omega
theorem calls_of_con {P : Program} {f : FuncId} {args : Array Value} {W : World} (h : Con P f args W (memOf W) [] (fun v _ _ => v = .bool true) noPanic) : Calls P f args W fun e W' => e = .returned (.bool true) ∧ Below W.heap.size W W' :=
  (h.calls W (st_start W)).mono fun e W' he => by
    cases e with
    | returned v => obtain ⟨M', L', a, b, rfl⟩ := he; exact ⟨rfl, below_of a b⟩
    | panicked c => obtain ⟨M', L', a, b, c⟩ := he; exact c.elim
    | outgrown => exact he.elim
section
variable {H : Type} {enc : TypeId × Value → H} {P : Program} {W : World} {t : TypeId} {cs : List Value}
def Rd (enc : TypeId × Value → H) (P : Program) (W : World) (t : TypeId) (cs : List Value) : Prop := ∃ fuel x, DataW.trod enc P W 0 (fun _ => true) true fuel t cs = some x
theorem TI.cellsOf {d : TypeDesc} {z : Value} {s b : Nat} (h : TI P t d z s b) : P.cellsOf t = s := by
  obtain ⟨i, hi, _, hs, _⟩ := h.parts
  simp [Program.cellsOf, hi, hs]
theorem Rd.int {k : IntKind} {z : Value} {s b : Nat} [ti : TI P t (.int k) z s b] (h : Rd enc P W t cs) : ∃ n, cs = [.int k n] ∧ (Lit.int k n).wf = true := by
  obtain ⟨fuel, x, h⟩ := h
  cases fuel with
  | zero => cases h
  | succ fuel =>
    unfold DataW.trod at h
    simp only [ti.und] at h
    split at h <;> simp_all
theorem Rd.bool {z : Value} {s b : Nat} [ti : TI P t .bool z s b] (h : Rd enc P W t cs) : ∃ n, cs = [.bool n] := by
  obtain ⟨fuel, x, h⟩ := h
  cases fuel with
  | zero => cases h
  | succ fuel =>
    unfold DataW.trod at h
    simp only [ti.und] at h
    split at h <;> simp_all
theorem Rd.string {z : Value} {s b : Nat} [ti : TI P t .string z s b] (h : Rd enc P W t cs) : ∃ n : ByteArray, cs = [.string n] ∧ n.size ≤ maxLen := by
  obtain ⟨fuel, x, h⟩ := h
  cases fuel with
  | zero => cases h
  | succ fuel =>
    unfold DataW.trod at h
    simp only [ti.und] at h
    split at h <;> simp_all
theorem mapM_some {α β : Type} {f : α → Option β} : ∀ {l : List α} {r : List β}, l.mapM f = some r → ∀ a ∈ l, ∃ b, f a = some b
  | [], _, _, a, ha => by cases ha
  | x :: l, r, h, a, ha => by
    rw [List.mapM_cons] at h
    simp only [Option.bind_eq_bind, Option.bind_eq_some_iff] at h
    obtain ⟨b, hb, rs, hrs, _⟩ := h
    rcases List.mem_cons.1 ha with rfl | ha
    · exact ⟨b, hb⟩
    · exact mapM_some hrs a ha
theorem Rd.array {m : Nat} {e : TypeId} {z z' : Value} {s b s' b' : Nat} {d' : TypeDesc} [ti : TI P t (.array m e) z s b] [te : TI P e d' z' s' b'] (h : Rd enc P W t cs) : cs.length = s ∧ ∀ i, i < m → Rd enc P W e ((cs.drop (i * s')).take s') := by
  obtain ⟨fuel, x, h⟩ := h
  cases fuel with
  | zero => cases h
  | succ fuel =>
    unfold DataW.trod at h
    simp only [ti.und, ti.cellsOf, te.cellsOf] at h
    split at h
    · rename_i hl
      obtain ⟨y, hy, _⟩ := Option.map_eq_some_iff.1 h
      refine ⟨hl, fun i hi => ?_⟩
      obtain ⟨b, hb⟩ := mapM_some hy i (List.mem_range.2 hi)
      exact ⟨fuel, b, hb⟩
    · cases h
theorem Rd.struct {fs : Array Field} {z : Value} {s b : Nat} [ti : TI P t (.struct fs) z s b] (h : Rd enc P W t cs) : cs.length = s ∧ ∀ f ∈ fs.toList, Rd enc P W f.type ((cs.drop f.offset).take (P.cellsOf f.type)) := by
  obtain ⟨fuel, x, h⟩ := h
  cases fuel with
  | zero => cases h
  | succ fuel =>
    unfold DataW.trod at h
    simp only [ti.und, ti.cellsOf] at h
    split at h
    · rename_i hl
      obtain ⟨y, hy, _⟩ := Option.map_eq_some_iff.1 h
      refine ⟨hl, fun f hf => ?_⟩
      obtain ⟨b, hb⟩ := mapM_some hy f hf
      exact ⟨fuel, b, hb⟩
    · cases h
theorem Rd.slice {e : TypeId} {z z' : Value} {s b s' b' : Nat} {d' : TypeDesc} [ti : TI P t (.slice e) z s b] [te : TI P e d' z' s' b'] (hs : 0 < s') (h : Rd enc P W t cs) :
    ∃ A len cap vs, cs = [.slice A len cap] ∧ Row (memOf W) s' A len cap vs ∧ ∀ i, i < len → Rd enc P W e ((vs.drop (i * s')).take s') := by
  obtain ⟨fuel, x, h⟩ := h
  rcases Deep.open_slice ti.und h with ⟨rfl, _⟩ | ⟨a, len, cap, m, n, D, Pl, rfl, hb, hl, hm, hmm, _, hx⟩
  · exact ⟨none, 0, 0, [], rfl, Row.nil _ _, fun i hi => by omega⟩
  · rw [te.cellsOf] at hx
    have hcap : cap ≤ 9223372036854775807 := by unfold maxLen at hm; omega
    have hlm : len ≤ m := by rw [hmm]; split <;> omega
    have hx : ∀ i, i < len → ∃ cs', W.cells? 0 (a.add (i * s')) s' = some cs' ∧ DataW.trod enc P W 0 (fun _ => true) true n e cs' = some (D i, Pl i) := fun i hi => hx i (by omega)
    rcases Nat.eq_zero_or_pos len with h0 | h0
    · subst h0
      exact ⟨some a, 0, cap, [], rfl, Row.empty _ _ _ hcap, fun i hi => by omega⟩
    · have hspot : a.spot = none := by
        obtain ⟨cs', h1, _⟩ := hx 0 h0
        obtain ⟨_, hlen, hc⟩ := World.cells?_some h1
        have := hc 0 hs
        have hg : cs'[0]? = some (cs'[0]'(by omega)) := List.getElem?_eq_getElem (by omega)
        rw [hg] at this
        have := World.cell?_spot this
        revert this
        unfold Addr.add
        simp
      obtain ⟨bl, off, sp⟩ := a
      simp only at hspot
      subst hspot
      simp only [add_plain] at hx
      -- the cells
      have hcell : ∀ i, i < len * s' → ∃ v, W.cell? ⟨bl, off + i, none⟩ = some v := fun i hi => by
        obtain ⟨cs', h1, _⟩ := hx (i / s') (Nat.div_lt_of_lt_mul (by rwa [Nat.mul_comm]))
        obtain ⟨_, hlen, hc⟩ := World.cells?_some h1
        have hmod := Nat.mod_lt i hs
        have := hc (i % s') hmod
        rw [add_plain, Nat.add_assoc, Nat.add_comm (i / s' * s'), Nat.mod_add_div' i s', List.getElem?_eq_getElem (by omega)] at this
        exact ⟨_, this⟩
      have hblock : ∃ c T fr, W.heap[bl]? = some (.cells c T fr) := by
        obtain ⟨v, hv⟩ := hcell 0 (Nat.mul_pos h0 hs)
        unfold World.cell? at hv
        split at hv
        · rename_i c T fr hh; exact ⟨c, T, fr, hh⟩
        · cases hv
      obtain ⟨c, T, fr, hh⟩ := hblock
      have hc : ∀ i, i < len * s' → c[off + i]? = some (c.getD (off + i) default) ∧ W.cell? ⟨bl, off + i, none⟩ = some (c.getD (off + i) default) := fun i hi => by
        obtain ⟨v, hv⟩ := hcell i hi
        have hv' := hv
        unfold World.cell? at hv
        simp only [hh, Option.isSome_none, Bool.false_eq_true, if_false] at hv
        have : c.getD (off + i) default = v := by simp [Array.getD_eq_getD_getElem?, hv]
        rw [this]
        exact ⟨hv, hv'⟩
      refine ⟨some ⟨bl, off, none⟩, len, cap, (List.range (len * s')).map fun i => c.getD (off + i) default, rfl, ⟨by simp, hl, hcap, fun _ => ⟨bl, off, c, T, fr, rfl, hh, fun j v hj => ?_⟩⟩, fun i hi => ?_⟩
      · rw [List.getElem?_map] at hj
        obtain ⟨k, hk, rfl⟩ := Option.map_eq_some_iff.1 hj
        have hlt := (List.getElem?_eq_some_iff.1 hk).1
        rw [List.getElem?_range (by simpa using hlt)] at hk
        cases hk
        exact (hc _ (by simpa using hlt)).1
      · obtain ⟨cs', h1, h2⟩ := hx i hi
        have : ((((List.range (len * s')).map fun i => c.getD (off + i) default).drop (i * s')).take s') = cs' := by
          obtain ⟨_, hlen, hcc⟩ := World.cells?_some h1
          have hle : (i + 1) * s' ≤ len * s' := Nat.mul_le_mul_right _ hi
          rw [Nat.add_mul, Nat.one_mul] at hle
          apply List.ext_getElem?
          intro j
          rw [List.getElem?_take]
          split
          · rename_i hj
            rw [List.getElem?_drop, List.getElem?_map, List.getElem?_range (by omega)]
            have h3 := hcc j hj
            rw [add_plain, Nat.add_assoc] at h3
            rw [← h3, (hc (i * s' + j) (by omega)).2]
            rfl
          · rw [List.getElem?_eq_none (by omega)]
        rw [this]
        exact ⟨n, _, h2⟩
theorem one_of {v : Value} {base : Nat} {r : Reach} {d : TypeDesc} {z : Value} {s b : Nat} [ti : TI P t d z s b] (hd : aggD d = false) (h : Value.okWide P W r base t v) {x : Value} (hc : v.cells.toList = [x]) : v = x := by
  cases v with
  | agg c =>
    exfalso
    simp only [Value.okWide, ti.und] at h
    cases d <;> simp_all [aggD, Cell.okWide, Cell.ok]
  | _ => simpa [Value.cells] using hc
theorem agg_of {v : Value} {base : Nat} {r : Reach} {d : TypeDesc} {z : Value} {s b : Nat} [ti : TI P t d z s b] (hd : aggD d = true) (h : Value.okWide P W r base t v) : v = .agg v.cells.toList.toArray := by
  simp only [Value.okWide, ti.und] at h
  cases d <;> simp_all [aggD]
  all_goals (obtain ⟨cs, rfl, _⟩ := h; simp [Value.cells])
theorem u8_of {n : Int} (h : (Lit.int .u8 n).wf = true) : ∃ c : UInt8, n = (c.toNat : Int) := by
  simp [Lit.wf, IntKind.min, IntKind.max, IntKind.signed, IntKind.bits] at h
  exact ⟨UInt8.ofNat n.toNat, by simp [UInt8.toNat_ofNat']; omega⟩
theorem ints_of {k : IntKind} : ∀ (vs : List Value), (∀ i, i < vs.length → ∃ n, (vs.drop i).take 1 = [.int k n] ∧ (Lit.int k n).wf = true) → ∃ ts : List Int, vs = ts.map (.int k) ∧ ∀ t ∈ ts, (Lit.int k t).wf = true
  | [], _ => ⟨[], rfl, fun t h => by cases h⟩
  | v :: vs, h => by
    obtain ⟨n, h1, h2⟩ := h 0 (by simp)
    obtain ⟨ts, rfl, ht⟩ := ints_of vs (fun i hi => by simpa using h (i + 1) (by simpa using hi))
    refine ⟨n :: ts, by simpa using h1, fun t hm => ?_⟩
    rcases List.mem_cons.1 hm with rfl | hm
    · exact h2
    · exact ht t hm
theorem Rd.ints {k : IntKind} {e : TypeId} {z z' : Value} {s b b' : Nat} [ti : TI P t (.slice e) z s b] [te : TI P e (.int k) z' 1 b'] (h : Rd enc P W t cs) :
    ∃ (A : Option Addr) (len cap : Nat) (ts : List Int), cs = [.slice A len cap] ∧ Row (memOf W) 1 A len cap (ts.map (.int k)) ∧ ∀ n ∈ ts, (Lit.int k n).wf = true := by
  obtain ⟨A, len, cap, vs, rfl, hr, hx⟩ := h.slice (by omega)
  have hl := hr.len
  obtain ⟨ts, rfl, ht⟩ := ints_of (k := k) vs (fun i hi => by
    have := (hx i (by omega)).int
    simpa using this)
  exact ⟨A, len, cap, ts, rfl, hr, ht⟩
theorem u8s_of : ∀ (ts : List Int), (∀ t ∈ ts, (Lit.int .u8 t).wf = true) → ∃ bs : List UInt8, ts.map (Value.int .u8) = bs.map bv
  | [], _ => ⟨[], rfl⟩
  | t :: ts, h => by
    obtain ⟨c, rfl⟩ := u8_of (h t List.mem_cons_self)
    obtain ⟨bs, hb⟩ := u8s_of ts (fun x hx => h x (List.mem_cons_of_mem _ hx))
    exact ⟨c :: bs, by rw [List.map_cons, List.map_cons, hb]; rfl⟩
theorem Rd.bytes {e : TypeId} {z z' : Value} {s b b' : Nat} [ti : TI P t (.slice e) z s b] [te : TI P e (.int .u8) z' 1 b'] (h : Rd enc P W t cs) :
    ∃ (A : Option Addr) (len cap : Nat) (bs : List UInt8), cs = [.slice A len cap] ∧ Bytes (memOf W) A len cap bs := by
  obtain ⟨A, len, cap, ts, rfl, hr, ht⟩ := h.ints (k := .u8)
  obtain ⟨bs, hb⟩ := u8s_of ts ht
  exact ⟨A, len, cap, bs, rfl, by rw [Bytes, ← hb]; exact hr⟩
end
end Go.Eng
set_option linter.unusedVariables false
set_option linter.unusedSimpArgs false
namespace Go.Eng
open Go.ChangeShapes Go.WideShapes Go.ChangeAt Go.RowKit
section
variable {P : Program} {W : World}
theorem laidVars_mem : ∀ {laid : List (String × DataW Unit)} {ps : List MemPlace}, DataW.LaidVars P W laid ps → ∀ {n d}, (n, d) ∈ laid → ∃ g t cs fuel p, P.globalNamed n = some g ∧ (P.globals[g]?).map (·.type) = some t ∧ W.var? P n = some cs ∧ DataW.trod (fun _ => ()) P W 0 (fun _ => true) false fuel t cs.toList = some (d, p)
  | [], _, _, n, d, hm => by cases hm
  | (n0, d0) :: r, ps, h, n, d, hm => by
    obtain ⟨g, t, cs, fuel, p, q, h1, h2, h3, h4, h5, _⟩ := h
    rcases List.mem_cons.1 hm with he | hm
    · cases he; exact ⟨g, t, cs, fuel, p, h1, h2, h3, h4⟩
    · exact laidVars_mem h5 hm
theorem var_heap {n : String} {g : Nat} {cs : Array Value} (hg : P.globalNamed n = some g) (h : W.var? P n = some cs) : ∃ T fr, memOf W g = some (.cells cs T fr) := by
  simp only [World.var?, hg, Option.bind_some] at h
  unfold memOf
  split at h
  · rename_i c t fr hb
    cases h
    exact ⟨t, fr, hb⟩
  · cases h
theorem map_lits {k : IntKind} : ∀ {ns : List Int} {cs : List Value}, cs.length = ns.length → (∀ i, i < ns.length → ∃ x, (cs.drop i).take 1 = [Value.int k x] ∧ ns[i]? = some x) → cs = ns.map (.int k)
  | [], [], _, _ => rfl
  | [], _ :: _, h, _ => by simp at h
  | _ :: _, [], h, _ => by simp at h
  | n :: ns, c :: cs, h, hx => by
    obtain ⟨x, h1, h2⟩ := hx 0 (by simp)
    simp at h1 h2
    have h3 := map_lits (k := k) (ns := ns) (cs := cs) (by simpa using h) (fun i hi => by simpa using hx (i + 1) (by simpa using hi))
    rw [h1, h2, h3]
    rfl
theorem trod_ints {t e : TypeId} {m : Nat} {k : IntKind} {z z' : Value} {s b b' fuel : Nat} [ti : TI P t (.array m e) z s b] [te : TI P e (.int k) z' 1 b'] {ns : List Int} {cs : List Value} {p : List MemPlace} {sp : Nat → Bool} {held : Bool} {enc : TypeId × Value → Unit}
    (h : DataW.trod enc P W 0 sp held fuel t cs = some (.agg (ns.map fun x => .lit (.int k x)), p)) (hs : s = m) : cs = ns.map (.int k) := by
  obtain ⟨xs, m', rfl, hx, hl, hn, hel⟩ := DataW.trod_array ti.und h
  rw [ti.cellsOf, hs] at hl
  simp only [Prod.mk.injEq, DataW.agg.injEq] at hx
  have hln : ns.length = m := by rw [← hn]; simpa using congrArg List.length hx.1
  refine map_lits (by omega) (fun i hi => ?_)
  have h1 := hel i (by omega)
  rw [te.cellsOf, Nat.mul_one] at h1
  rw [List.getElem?_eq_getElem (show i < xs.length by omega)] at h1
  obtain ⟨x, e1, e2, _⟩ := DataW.trod_int te.und h1
  refine ⟨x, e1, ?_⟩
  have h2 := congrArg (fun l => l[i]?) hx.1
  simp only [List.getElem?_map] at h2
  rw [List.getElem?_eq_getElem (show i < xs.length by omega), List.getElem?_eq_getElem hi] at h2
  simp only [Option.map_some, Option.some.injEq, e2, DataW.lit.injEq, Lit.int.injEq, true_and] at h2
  rw [List.getElem?_eq_getElem hi, h2]
theorem laid_ints {laid : List (String × DataW Unit)} (h : laidMet P laid W) {n : String} {g : Nat} {t e : TypeId} {m : Nat} {k : IntKind} {z z' : Value} {s b b' : Nat} (ns : List Int) (hm : (n, DataW.agg (ns.map fun x => .lit (.int k x))) ∈ laid) (hg : P.globalNamed n = some g)
    (ht : (P.globals[g]?).map (·.type) = some t) (ti : TI P t (.array m e) z s b) (te : TI P e (.int k) z' 1 b') (hs : s = m) : ∃ T fr, memOf W g = some (.cells (ns.map (.int k)).toArray T fr) := by
  obtain ⟨ps, hv, _⟩ := h
  obtain ⟨g', t', cs, fuel, p, h1, h2, h3, h4⟩ := laidVars_mem hv hm
  obtain rfl := Option.some.inj (hg.symm.trans h1)
  obtain rfl := Option.some.inj (ht.symm.trans h2)
  obtain ⟨T, fr, hh⟩ := var_heap hg h3
  have := trod_ints h4 hs
  refine ⟨T, fr, ?_⟩
  rw [hh, ← this]
end
end Go.Eng
set_option linter.unusedVariables false
namespace Go.Proofs.YtiimjodbaogjbaaGreatDoor
open Go Go.Eng Go.ChangeShapes Go.WideShapes Go.ChangeAt Go.RowKit
theorem own : ownKnob Tryz.prog.godebug = none := by kernel_rfl
theorem laidOut : laidOutB Tryz.prog = true := by kernel_rfl
set_option maxRecDepth 100000 in
theorem shutBool {H : Type} {enc : TypeId × Value → H} {W : World} {base : Nat} {sp : Nat → Bool} {held : Bool} (b : Bool) : DataW.Trod enc Tryz.prog W base sp held 4 (.bool b) (.lit (.bool b)) [] := ⟨1, by simp [DataW.trod, Value.cells, Tryz.underlying4]⟩
end Go.Proofs.YtiimjodbaogjbaaGreatDoor
set_option linter.unusedVariables false
namespace Go.Proofs.YtiimjodbaogjbaaGreatDoor
open Go Go.Eng Go.ChangeShapes Go.WideShapes Go.ChangeAt Go.RowKit
section
variable {W : World}
theorem shaG_of {laid : List (String × DataW Unit)} (h : laidMet Tryz.prog laid W) (h1 : ("tearoff/sha2.k", Rows.laid_tearoff_sha2_k) ∈ laid) (h2 : ("tearoff/sha2.first", Rows.laid_tearoff_sha2_first) ∈ laid) : ShaG (memOf W) := by
  refine ⟨?_, ?_⟩
  · obtain ⟨T, fr, hc⟩ := laid_ints h (kT.map fun x => (x.toNat : Int)) h1 (show Tryz.prog.globalNamed "tearoff/sha2.k" = some 6 by kernel_rfl) (show (Tryz.prog.globals[6]?).map (·.type) = some 244 by kernel_rfl) ti244 ti22 rfl
    refine ⟨_, T, fr, hc, fun j hj => ?_⟩
    rw [List.getElem?_toArray, List.map_map]
    exact get_u32' kT j hj
  · obtain ⟨T, fr, hc⟩ := laid_ints h (H8.init.list.map fun x => (x.toNat : Int)) h2 (show Tryz.prog.globalNamed "tearoff/sha2.first" = some 5 by kernel_rfl) (show (Tryz.prog.globals[5]?).map (·.type) = some 230 by kernel_rfl) ti230 ti22 rfl
    exact ⟨T, fr, hc⟩
end
end Go.Proofs.YtiimjodbaogjbaaGreatDoor
set_option linter.unusedVariables false
set_option maxRecDepth 100000
namespace Go.Proofs.YtiimjodbaogjbaaGreatDoor
open Go Go.Eng Go.ChangeShapes Go.WideShapes Go.ChangeAt Go.RowKit
section
variable {H : Type} {enc : TypeId × Value → H} {W : World}
theorem kecG_of {laid : List (String × DataW Unit)} (h : laidMet Tryz.prog laid W) (h1 : ("tearoff/keccak.rc", Rows.laid_tearoff_keccak_rc) ∈ laid) (h2 : ("tearoff/keccak.turns", Rows.laid_tearoff_keccak_turns) ∈ laid) : KecG (memOf W) := by
  refine ⟨?_, ?_⟩
  · obtain ⟨T, fr, hc⟩ := laid_ints h (kRc.map fun x => (x.toNat : Int)) h1 (show Tryz.prog.globalNamed "tearoff/keccak.rc" = some 8 by kernel_rfl) (show (Tryz.prog.globals[8]?).map (·.type) = some 232 by kernel_rfl) ti232 ti37 rfl
    refine ⟨_, T, fr, hc, fun j hj => ?_⟩
    rw [List.getElem?_toArray, List.map_map]
    exact get_u64' kRc j hj
  · obtain ⟨T, fr, hc⟩ := laid_ints h (kTurns.map fun (x : Nat) => (x : Int)) h2 (show Tryz.prog.globalNamed "tearoff/keccak.turns" = some 7 by kernel_rfl) (show (Tryz.prog.globals[7]?).map (·.type) = some 273 by kernel_rfl) ti273 ti3 rfl
    refine ⟨_, T, fr, hc, fun j hj => ?_⟩
    rw [List.getElem?_toArray, List.map_map, List.getElem?_map, List.getElem?_eq_getElem (show j < kTurns.length from hj), List.getD_eq_getElem?_getD, List.getElem?_eq_getElem (show j < kTurns.length from hj)]
    rfl
theorem trod_pair {t it : TypeId} {z z' : Value} {b b' fuel : Nat} {f0 f1 : Field} {cs : List Value} {a c : Int} {p : List MemPlace} {sp : Nat → Bool} {held : Bool} {enc : TypeId × Value → Unit} [ti : TI Tryz.prog t (.struct #[f0, f1]) z 2 b] [te : TI Tryz.prog it (.int .i64) z' 1 b']
    (e0 : f0.type = it ∧ f0.offset = 0) (e1 : f1.type = it ∧ f1.offset = 1) (h : DataW.trod enc Tryz.prog W 0 sp held fuel t cs = some (.agg [.lit (.int .i64 a), .lit (.int .i64 c)], p)) : cs = [.int .i64 a, .int .i64 c] := by
  obtain ⟨y0, y1, n, hx, hl, h0, h1⟩ := trod_struct2 ti.und h
  rw [ti.cellsOf] at hl
  rw [e0.1, e0.2, te.cellsOf] at h0
  rw [e1.1, e1.2, te.cellsOf] at h1
  obtain ⟨x, g1, g2, _⟩ := DataW.trod_int te.und h0
  obtain ⟨x', g1', g2', _⟩ := DataW.trod_int te.und h1
  simp only [Prod.mk.injEq, DataW.agg.injEq, List.cons.injEq, and_true] at hx
  match cs, hl with
  | [c0, c1], _ =>
    simp at g1 g1'
    rw [g2, g2'] at hx
    simp only [DataW.lit.injEq, Lit.int.injEq, true_and] at hx
    rw [g1, g1', hx.1.1, hx.1.2]
theorem setG_of {laid : List (String × DataW Unit)} (h : laidMet Tryz.prog laid W) (h1 : ("tearoff/sets.sums", Rows.laid_tearoff_sets_sums) ∈ laid) (h2 : ("tearoff/sets.widths", Rows.laid_tearoff_sets_widths) ∈ laid) : SetG (memOf W) := by
  refine ⟨?_, ?_⟩
  · obtain ⟨ps, hv, _⟩ := h
    obtain ⟨g', t', cs, fuel, p, e1, e2, e3, e4⟩ := laidVars_mem hv h1
    obtain rfl := Option.some.inj ((show Tryz.prog.globalNamed "tearoff/sets.sums" = some 3 by kernel_rfl).symm.trans e1)
    obtain rfl := Option.some.inj ((show (Tryz.prog.globals[3]?).map (·.type) = some 228 by kernel_rfl).symm.trans e2)
    obtain ⟨T, fr, hh⟩ := var_heap e1 e3
    obtain ⟨xs, m', hx', hx, hl, hn, hel⟩ := DataW.trod_array (ti228 : TI Tryz.prog 228 _ _ _ _).und e4
    rw [TI.cellsOf (ti228 : TI Tryz.prog 228 _ _ _ _)] at hl
    rw [TI.cellsOf (ti195 : TI Tryz.prog 195 _ _ _ _)] at hel
    unfold Rows.laid_tearoff_sets_sums at hx
    refine ⟨T, fr, ?_⟩
    rw [hh]
    obtain ⟨cl, rfl⟩ : ∃ cl : List Value, cs = cl.toArray := ⟨cs.toList, by simp⟩
    match xs, hn with
    | [x0, x1, x2, x3], _ =>
      simp only [Prod.mk.injEq, DataW.agg.injEq, List.map_cons, List.map_nil, List.cons.injEq, and_true] at hx
      have k0 := hel 0 (by omega)
      have k1 := hel 1 (by omega)
      have k2 := hel 2 (by omega)
      have k3 := hel 3 (by omega)
      match cl, hl with
      | [c0, c1, c2, c3, c4, c5, c6, c7], _ =>
        simp at k0 k1 k2 k3
        obtain ⟨q0, q0'⟩ := x0
        obtain ⟨q1, q1'⟩ := x1
        obtain ⟨q2, q2'⟩ := x2
        obtain ⟨q3, q3'⟩ := x3
        obtain ⟨⟨rfl, rfl, rfl, rfl⟩, _⟩ := hx
        have r0 := trod_pair (te := ti3) ⟨rfl, rfl⟩ ⟨rfl, rfl⟩ k0
        have r1 := trod_pair (te := ti3) ⟨rfl, rfl⟩ ⟨rfl, rfl⟩ k1
        have r2 := trod_pair (te := ti3) ⟨rfl, rfl⟩ ⟨rfl, rfl⟩ k2
        have r3 := trod_pair (te := ti3) ⟨rfl, rfl⟩ ⟨rfl, rfl⟩ k3
        simp only [List.cons.injEq, and_true] at r0 r1 r2 r3
        rw [r0.1, r0.2, r1.1, r1.2, r2.1, r2.2, r3.1, r3.2]
  · obtain ⟨T, fr, hc⟩ := laid_ints h [1, 2, 4, 8] h2 (show Tryz.prog.globalNamed "tearoff/sets.widths" = some 0 by kernel_rfl) (show (Tryz.prog.globals[0]?).map (·.type) = some 198 by kernel_rfl) ti198 ti3 rfl
    exact ⟨T, fr, hc⟩
theorem bytes_arg' {v : Value} {r : Reach} {b : Nat} (k : Value.okWide Tryz.prog W r b 35 v) (h : Rd enc Tryz.prog W 35 v.cells.toList) : ∃ A n c g, v = .slice A n c ∧ Bytes (memOf W) A n c g := by
  obtain ⟨A, n, c, g, e0, h0⟩ := Rd.bytes (te := ti5) h
  exact ⟨A, n, c, g, one_of (ti := ti35) rfl k e0, h0⟩
end
end Go.Proofs.YtiimjodbaogjbaaGreatDoor
set_option linter.unusedVariables false
set_option linter.unusedSimpArgs false
set_option linter.constructorNameAsVariable false
namespace Go.Proofs.YtiimjodbaogjbaaGreatDoor
open Go Go.Eng Go.ChangeShapes Go.WideShapes Go.ChangeAt Go.RowKit
section
variable {H : Type} {enc : TypeId × Value → H} {P : Program} {W : World} {t : TypeId} {cs : List Value}
def RdW (enc : TypeId × Value → H) (P : Program) (W : World) (t : TypeId) (cs : List Value) : Prop := ∃ fuel d ps, DataW.trod enc P W 0 (fun _ => true) true fuel t cs = some (d, ps) ∧ ∀ n ∈ d.weights P t, n ≤ reachBytes
theorem RdW.rd (h : RdW enc P W t cs) : Rd enc P W t cs := let ⟨n, d, ps, h, _⟩ := h; ⟨n, _, h⟩
theorem rdW_of {v : Value} {d : DataW H} {ps : List MemPlace} (h : DataW.Trod enc P W 0 (fun _ => true) true t v d ps) (hw : ∀ n ∈ d.weights P t, n ≤ reachBytes) : RdW enc P W t v.cells.toList := let ⟨n, h⟩ := h; ⟨n, _, _, h, hw⟩
theorem rdW_at {ts : List TypeId} {ds : List (DataW H)} (hz : (DataW.weightsEach P ts ds).all (· ≤ reachBytes) = true) (j : Nat) {v : Value} {d : DataW H} {ps : List MemPlace} (ht : ts[j]? = some t) (hd : ds[j]? = some d) (h : DataW.Trod enc P W 0 (fun _ => true) true t v d ps) : RdW enc P W t v.cells.toList :=
  rdW_of h fun n hn => by simpa using List.all_eq_true.1 hz n (DataW.weights_mem_each ht hd n hn)
theorem _root_.Go.Eng.TI.bytesOf {d : TypeDesc} {z : Value} {s b : Nat} (h : TI P t d z s b) : P.bytesOf t = b := by
  obtain ⟨i, hi, _, _, hb⟩ := h.parts
  simp [Program.bytesOf, hi, hb]
theorem weightsAll_mem {e : TypeId} {d : DataW H} {n : Nat} : ∀ {ds : List (DataW H)}, d ∈ ds → n ∈ d.weights P e → n ∈ DataW.weightsAll P e ds
  | [], h, _ => by cases h
  | x :: ds, h, hn => by
    simp only [DataW.weightsAll, List.mem_append]
    rcases List.mem_cons.1 h with rfl | h
    · exact .inl hn
    · exact .inr (weightsAll_mem h hn)
theorem RdW.slice {e : TypeId} {z z' : Value} {s b s' b' : Nat} {d' : TypeDesc} [ti : TI P t (.slice e) z s b] [te : TI P e d' z' s' b'] (hs : 0 < s') (h : RdW enc P W t cs) :
    ∃ A len cap vs, cs = [.slice A len cap] ∧ Row (memOf W) s' A len cap vs ∧ len * b' ≤ reachBytes ∧ ∀ i, i < len → RdW enc P W e ((vs.drop (i * s')).take s') := by
  obtain ⟨fuel, d, ps, h, hwt⟩ := h
  rcases Deep.open_slice ti.und h with ⟨rfl, _⟩ | ⟨a, len, cap, m, n, D, Pl, rfl, hb, hl, hm, hmm, hdd, hx⟩
  · exact ⟨none, 0, 0, [], rfl, Row.nil _ _, by simp, fun i hi => by omega⟩
  · obtain ⟨rfl, rfl⟩ := Prod.mk.inj hdd
    have hsz : len * b' ≤ reachBytes := by
      have h1 := hwt ((((List.range len).map D).length + ((List.range (m - len)).map fun j => D (len + j)).length) * P.bytesOf e) (by simp [DataW.weights, ti.und])
      rw [te.bytesOf] at h1
      refine Nat.le_trans (Nat.mul_le_mul_right _ ?_) h1
      simp
    have hwe : ∀ i, i < len → ∀ k ∈ (D i).weights P e, k ≤ reachBytes := fun i hi k hk => hwt k (by
      simp only [DataW.weights, ti.und, List.mem_cons, List.mem_append]
      exact .inr (.inl (weightsAll_mem (List.mem_map.2 ⟨i, List.mem_range.2 hi, rfl⟩) hk)))
    rw [te.cellsOf] at hx
    have hcap : cap ≤ 9223372036854775807 := by unfold maxLen at hm; omega
    have hlm : len ≤ m := by rw [hmm]; split <;> omega
    have hx : ∀ i, i < len → ∃ cs', W.cells? 0 (a.add (i * s')) s' = some cs' ∧ DataW.trod enc P W 0 (fun _ => true) true n e cs' = some (D i, Pl i) := fun i hi => hx i (by omega)
    rcases Nat.eq_zero_or_pos len with h0 | h0
    · subst h0
      exact ⟨some a, 0, cap, [], rfl, Row.empty _ _ _ hcap, hsz, fun i hi => by omega⟩
    · have hspot : a.spot = none := by
        obtain ⟨cs', h1, _⟩ := hx 0 h0
        obtain ⟨_, hlen, hc⟩ := World.cells?_some h1
        have := hc 0 hs
        have hg : cs'[0]? = some (cs'[0]'(by omega)) := List.getElem?_eq_getElem (by omega)
        rw [hg] at this
        have := World.cell?_spot this
        revert this
        unfold Addr.add
        simp
      obtain ⟨bl, off, sp⟩ := a
      simp only at hspot
      subst hspot
      simp only [Eng.add_plain] at hx
      -- the cells
      have hcell : ∀ i, i < len * s' → ∃ v, W.cell? ⟨bl, off + i, none⟩ = some v := fun i hi => by
        obtain ⟨cs', h1, _⟩ := hx (i / s') (Nat.div_lt_of_lt_mul (by rwa [Nat.mul_comm]))
        obtain ⟨_, hlen, hc⟩ := World.cells?_some h1
        have hmod := Nat.mod_lt i hs
        have := hc (i % s') hmod
        rw [Eng.add_plain, Nat.add_assoc, Nat.add_comm (i / s' * s'), Nat.mod_add_div' i s', List.getElem?_eq_getElem (by omega)] at this
        exact ⟨_, this⟩
      have hblock : ∃ c T fr, W.heap[bl]? = some (.cells c T fr) := by
        obtain ⟨v, hv⟩ := hcell 0 (Nat.mul_pos h0 hs)
        unfold World.cell? at hv
        split at hv
        · rename_i c T fr hh; exact ⟨c, T, fr, hh⟩
        · cases hv
      obtain ⟨c, T, fr, hh⟩ := hblock
      have hc : ∀ i, i < len * s' → c[off + i]? = some (c.getD (off + i) default) ∧ W.cell? ⟨bl, off + i, none⟩ = some (c.getD (off + i) default) := fun i hi => by
        obtain ⟨v, hv⟩ := hcell i hi
        have hv' := hv
        unfold World.cell? at hv
        simp only [hh, Option.isSome_none, Bool.false_eq_true, if_false] at hv
        have : c.getD (off + i) default = v := by simp [Array.getD_eq_getD_getElem?, hv]
        rw [this]
        exact ⟨hv, hv'⟩
      refine ⟨some ⟨bl, off, none⟩, len, cap, (List.range (len * s')).map fun i => c.getD (off + i) default, rfl, ⟨by simp, hl, hcap, fun _ => ⟨bl, off, c, T, fr, rfl, hh, fun j v hj => ?_⟩⟩, hsz, fun i hi => ?_⟩
      · rw [List.getElem?_map] at hj
        obtain ⟨k, hk, rfl⟩ := Option.map_eq_some_iff.1 hj
        have hlt := (List.getElem?_eq_some_iff.1 hk).1
        rw [List.getElem?_range (by simpa using hlt)] at hk
        cases hk
        exact (hc _ (by simpa using hlt)).1
      · obtain ⟨cs', h1, h2⟩ := hx i hi
        have : ((((List.range (len * s')).map fun i => c.getD (off + i) default).drop (i * s')).take s') = cs' := by
          obtain ⟨_, hlen, hcc⟩ := World.cells?_some h1
          have hle : (i + 1) * s' ≤ len * s' := Nat.mul_le_mul_right _ hi
          rw [Nat.add_mul, Nat.one_mul] at hle
          apply List.ext_getElem?
          intro j
          rw [List.getElem?_take]
          split
          · rename_i hj
            rw [List.getElem?_drop, List.getElem?_map, List.getElem?_range (by omega)]
            have h3 := hcc j hj
            rw [Eng.add_plain, Nat.add_assoc] at h3
            rw [← h3, (hc (i * s' + j) (by omega)).2]
            rfl
          · rw [List.getElem?_eq_none (by omega)]
        rw [this]
        exact ⟨n, _, _, h2, hwe i hi⟩
theorem RdW.bytes {e : TypeId} {z z' : Value} {s b : Nat} [ti : TI P t (.slice e) z s b] [te : TI P e (.int .u8) z' 1 1] (h : RdW enc P W t cs) :
    ∃ (A : Option Addr) (len cap : Nat) (bs : List UInt8), cs = [.slice A len cap] ∧ Bytes (memOf W) A len cap bs ∧ len ≤ 140737488355328 := by
  obtain ⟨A, len, cap, bs, rfl, hb⟩ := Rd.bytes (te := te) h.rd
  obtain ⟨A', len', cap', vs, e1, _, hz, _⟩ := RdW.slice (te := te) (by omega) h
  have e2 : len = len' := by simp at e1; exact e1.2.1
  exact ⟨A, len, cap, bs, rfl, hb, by unfold reachBytes at hz; omega⟩
end
end Go.Proofs.YtiimjodbaogjbaaGreatDoor
set_option linter.unusedVariables false
set_option maxRecDepth 100000
namespace Go.Proofs.YtiimjodbaogjbaaGreatDoor
open Go Go.Eng Go.ChangeShapes Go.WideShapes Go.ChangeAt Go.RowKit
section
variable {H : Type} {enc : TypeId × Value → H} {W : World}
theorem seed_arg {v : Value} {r : Reach} {b : Nat} (k : Value.okWide Tryz.prog W r b 49 v) (h : Rd enc Tryz.prog W 49 v.cells.toList) : ∃ (NA SA : Option Addr) (nl nc sl sc : Nat) (name sec : List UInt8), v = .agg (List.toArray (seedC NA nl nc SA sl sc)) ∧ Bytes (memOf W) NA nl nc name ∧ Bytes (memOf W) SA sl sc sec := by
  have ha := agg_of (d := .struct _) rfl k
  obtain ⟨hl, hf⟩ := h.struct
  have f0 := hf _ (List.mem_cons_self)
  have f1 := hf _ (List.mem_cons_of_mem _ List.mem_cons_self)
  rw [TI.cellsOf (ti35 : TI Tryz.prog 35 _ _ _ _)] at f0 f1
  obtain ⟨NA, nl, nc, name, e0, h0⟩ := Rd.bytes (te := ti5) f0
  obtain ⟨SA, sl, sc, sec, e1, h1⟩ := Rd.bytes (te := ti5) f1
  refine ⟨NA, SA, nl, nc, sl, sc, name, sec, ?_, h0, h1⟩
  rw [ha]
  generalize v.cells.toList = cs at hl e0 e1
  match cs, hl with
  | [x0, x1], _ =>
    simp at e0 e1
    rw [e0, e1]
end
end Go.Proofs.YtiimjodbaogjbaaGreatDoor
set_option linter.unusedVariables false
set_option maxRecDepth 100000
namespace Go.Proofs.YtiimjodbaogjbaaGreatDoor
open Go Go.Eng Go.ChangeShapes Go.WideShapes Go.ChangeAt Go.RowKit
section
variable {H : Type} {enc : TypeId × Value → H} {W : World}
theorem sums_of {laid : List (String × DataW Unit)} (h : laidMet Tryz.prog laid W) (h1 : ("tearoff/sets.sums", Rows.laid_tearoff_sets_sums) ∈ laid) : ∃ T fr, memOf W 3 = some (.cells (List.toArray [.int .i64 0, .int .i64 32, .int .i64 0, .int .i64 24, .int .i64 1, .int .i64 32, .int .i64 1, .int .i64 24]) T fr) := by
  obtain ⟨ps, hv, _⟩ := h
  obtain ⟨g', t', cs, fuel, p, e1, e2, e3, e4⟩ := laidVars_mem hv h1
  obtain rfl := Option.some.inj ((show Tryz.prog.globalNamed "tearoff/sets.sums" = some 3 by kernel_rfl).symm.trans e1)
  obtain rfl := Option.some.inj ((show (Tryz.prog.globals[3]?).map (·.type) = some 228 by kernel_rfl).symm.trans e2)
  obtain ⟨T, fr, hh⟩ := var_heap e1 e3
  obtain ⟨xs, m', hx', hx, hl, hn, hel⟩ := DataW.trod_array (ti228 : TI Tryz.prog 228 _ _ _ _).und e4
  rw [TI.cellsOf (ti228 : TI Tryz.prog 228 _ _ _ _)] at hl
  rw [TI.cellsOf (ti195 : TI Tryz.prog 195 _ _ _ _)] at hel
  unfold Rows.laid_tearoff_sets_sums at hx
  refine ⟨T, fr, ?_⟩
  rw [hh]
  obtain ⟨cl, rfl⟩ : ∃ cl : List Value, cs = cl.toArray := ⟨cs.toList, by simp⟩
  match xs, hn with
  | [x0, x1, x2, x3], _ =>
    simp only [Prod.mk.injEq, DataW.agg.injEq, List.map_cons, List.map_nil, List.cons.injEq, and_true] at hx
    have k0 := hel 0 (by omega)
    have k1 := hel 1 (by omega)
    have k2 := hel 2 (by omega)
    have k3 := hel 3 (by omega)
    match cl, hl with
    | [c0, c1, c2, c3, c4, c5, c6, c7], _ =>
      simp at k0 k1 k2 k3
      obtain ⟨q0, q0'⟩ := x0
      obtain ⟨q1, q1'⟩ := x1
      obtain ⟨q2, q2'⟩ := x2
      obtain ⟨q3, q3'⟩ := x3
      obtain ⟨⟨rfl, rfl, rfl, rfl⟩, _⟩ := hx
      have r0 := trod_pair (te := ti3) ⟨rfl, rfl⟩ ⟨rfl, rfl⟩ k0
      have r1 := trod_pair (te := ti3) ⟨rfl, rfl⟩ ⟨rfl, rfl⟩ k1
      have r2 := trod_pair (te := ti3) ⟨rfl, rfl⟩ ⟨rfl, rfl⟩ k2
      have r3 := trod_pair (te := ti3) ⟨rfl, rfl⟩ ⟨rfl, rfl⟩ k3
      simp only [List.cons.injEq, and_true] at r0 r1 r2 r3
      rw [r0.1, r0.2, r1.1, r1.2, r2.1, r2.2, r3.1, r3.2]
theorem setT_of {laid : List (String × DataW Unit)} (h : laidMet Tryz.prog laid W) (h1 : ("tearoff/sets.sums", Rows.laid_tearoff_sets_sums) ∈ laid) (h2 : ("tearoff/sets.heights", Rows.laid_tearoff_sets_heights) ∈ laid) (h3 : ("tearoff/sets.own", Rows.laid_tearoff_sets_own) ∈ laid) : SetT (memOf W) := by
  refine ⟨sums_of h h1, ?_, ?_⟩
  · obtain ⟨T, fr, hc⟩ := laid_ints h [5, 10, 15, 20, 25] h2 (show Tryz.prog.globalNamed "tearoff/sets.heights" = some 2 by kernel_rfl) (show (Tryz.prog.globals[2]?).map (·.type) = some 201 by kernel_rfl) ti201 ti3 rfl
    exact ⟨T, fr, hc⟩
  · obtain ⟨T, fr, hc⟩ := laid_ints h [1, 2, 3, 4] h3 (show Tryz.prog.globalNamed "tearoff/sets.own" = some 1 by kernel_rfl) (show (Tryz.prog.globals[1]?).map (·.type) = some 198 by kernel_rfl) ti198 ti3 rfl
    exact ⟨T, fr, hc⟩
end
end Go.Proofs.YtiimjodbaogjbaaGreatDoor
set_option linter.unusedVariables false
set_option maxRecDepth 100000
namespace Go.Proofs.YtiimjodbaogjbaaGreatDoor
open Go Go.Eng Go.ChangeShapes Go.WideShapes Go.ChangeAt Go.RowKit
section
variable {H : Type} {enc : TypeId × Value → H} {W : World}
theorem lmG_of {laid : List (String × DataW Unit)} (e : laid = [("tearoff/keccak.rc", Rows.laid_tearoff_keccak_rc), ("tearoff/keccak.turns", Rows.laid_tearoff_keccak_turns), ("tearoff/sets.sums", Rows.laid_tearoff_sets_sums), ("tearoff/sets.widths", Rows.laid_tearoff_sets_widths), ("tearoff/sets.heights", Rows.laid_tearoff_sets_heights), ("tearoff/sets.own", Rows.laid_tearoff_sets_own), ("tearoff/sha2.k", Rows.laid_tearoff_sha2_k), ("tearoff/sha2.first", Rows.laid_tearoff_sha2_first)]) (h : laidMet Tryz.prog laid W) : LmG (memOf W) :=
  ⟨⟨shaG_of h (by rw [e]; simp) (by rw [e]; simp), kecG_of h (by rw [e]; simp) (by rw [e]; simp), setG_of h (by rw [e]; simp) (by rw [e]; simp)⟩, setT_of h (by rw [e]; simp) (by rw [e]; simp) (by rw [e]; simp)⟩
end
end Go.Proofs.YtiimjodbaogjbaaGreatDoor
set_option linter.unusedVariables false
set_option maxRecDepth 100000
namespace Go.Proofs.YtiimjodbaogjbaaGreatDoor
open Go Go.Eng Go.ChangeShapes Go.WideShapes Go.ChangeAt Go.RowKit
section
variable {H : Type} {enc : TypeId × Value → H} {W : World}
theorem u64_of {n : Int} (h : (Lit.int .u64 n).wf = true) : ∃ c : UInt64, n = (c.toNat : Int) := by
  have hb : 0 ≤ n ∧ n ≤ 18446744073709551615 := by simp [Lit.wf, IntKind.min, IntKind.max, IntKind.signed, IntKind.bits] at h; omega
  exact ⟨UInt64.ofNat n.toNat, by rw [UInt64.toNat_ofNat', Nat.mod_eq_of_lt (by omega)]; omega⟩
theorem u64_arg' {v : Value} {r : Reach} {b : Nat} (k : Value.okWide Tryz.prog W r b 37 v) (h : Rd enc Tryz.prog W 37 v.cells.toList) : ∃ x : UInt64, v = .int .u64 (x.toNat : Int) := by
  obtain ⟨n, e, w⟩ := Rd.int (k := .u64) h
  obtain ⟨x, rfl⟩ := u64_of w
  exact ⟨x, one_of (ti := ti37) rfl k e⟩
end
end Go.Proofs.YtiimjodbaogjbaaGreatDoor
set_option linter.unusedVariables false
set_option linter.constructorNameAsVariable false
set_option maxRecDepth 100000
namespace Go.Proofs.YtiimjodbaogjbaaGreatDoor
open Go Go.Eng Go.ChangeShapes Go.WideShapes Go.ChangeAt Go.RowKit
section
variable {H : Type} {enc : TypeId × Value → H} {W : World}
theorem hlevels_con {v0 v1 v2 : Value} {r : Reach} {b : Nat} (hl : laidMet Tryz.prog Rows.hssLevelsRow.laid W) (k0 : Value.okWide Tryz.prog W r b 49 v0) (k1 : Value.okWide Tryz.prog W r b 37 v1) (k2 : Value.okWide Tryz.prog W r b 35 v2)
    (h0 : RdW enc Tryz.prog W 49 v0.cells.toList) (h1 : RdW enc Tryz.prog W 37 v1.cells.toList) (h2 : RdW enc Tryz.prog W 35 v2.cells.toList) :
    Con Tryz.prog 14 #[v0, v1, v2] W (memOf W) [] (fun v _ _ => v = .bool true) noPanic := by
  obtain ⟨NA, SA, nl, nc, sl_, sc, name, sec, rfl, hn, hs⟩ := seed_arg k0 h0.rd
  obtain ⟨x, rfl⟩ := u64_arg' k1 h1.rd
  obtain ⟨TA, tl, tc, text, rfl, ht⟩ := bytes_arg' k2 h2.rd
  exact HssLevels_spec (lmG_of rfl hl) hn hs x ht
end
end Go.Proofs.YtiimjodbaogjbaaGreatDoor
