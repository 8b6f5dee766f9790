/-
From a contract to a statement; what came in. What is listed of package-level variables.
-/
import Derived.Test.YtbjnjedfoiedeaaDoorLaw24aEtc
import Derived.Test.YtbjnjedfoiedeaaDoorEngIEtc
import Derived.WalkKit
import Derived.ProofKit
import Derived.OpenShut
import Derived.ShutString
import Derived.ChangeOld
import Derived.Below
import Derived.Deep.Slices
import Derived.Test.YtbjnjedfoiedeaaDoorTypes1Etc
import Derived.SizedLaws
import Derived.Deep.Strs
import Derived.LaidMore
import Derived.LaidLaws
import Derived.MakeChecks
import Derived.Stop.Joined
import Derived.SevenTiedAt
import Derived.Test.YtbjnjedfoiedeaaDoorShaEtc
import Derived.Test.YtbjnjedfoiedeaaDoorChecked
import Derived.Test.YtbjnjedfoiedeaaDoorRows
import Derived.Test.YtbjnjedfoiedeaaDoorRef8Etc
set_option linter.unusedVariables false
set_option linter.unusedSimpArgs false
set_option linter.constructorNameAsVariable false
namespace Go.Proofs.YtbjnjedfoiedeaaDoor
open Go Go.Eng
section
variable {G : World} {M : Mem} {L : Own}
theorem WalkAgain_spec (hg : WkG M) (code : UInt8) {NA : Option Addr} {nl nc : Nat} {name : List UInt8} (hname : Bytes M NA nl nc name) {WA : Option Addr} {wl wc : Nat} {wvs : List Value} {keys : List (List UInt8)} (h : Row M 1 WA wl wc wvs) (hw : BRows M wvs keys) (skip : UInt8) :
    Con Tryd.prog 6 #[.agg (List.toArray [.int .u8 (code.toNat : Int), .slice NA nl nc, .slice WA wl wc]), .int .u8 (skip.toNat : Int)] G M L (fun v M' L' => v = .bool true) noPanic := by
  have hskl := skip.toNat_lt
  refine enter (args := [_, _]) (fn := Tryd.f6) ⟨Tryd.func6, rfl, by kernel_rfl, by kernel_rfl⟩ 146 rfl ?_
  refine x_seq (x_region ?_)
  refine tl_e rfl (e_box rfl (fun b1 => ?_))
  refine tl_y rfl (y_assign rfl) ?_
  refine tl_nil (.then_normal ?_)
  refine x_seq (x_seq (x_region ?_))
  refine tl_e rfl (e_call' rfl (awake24_spec hg) ?_)
  rintro _ M1 _ hM1 ⟨rfl, rfl⟩
  have hm := hM1
  refine tl_y rfl (y_not rfl) ?_
  refine tl_nil (.then_normal ?_)
  refine x_false rfl (rfl) ?_
  refine x_skip (.then_normal ?_)
  refine .sub (F' := [(1, _), (2, _)]) (.cons rfl (.cons rfl .nil)) ?_
  refine x_seq (x_region ?_)
  refine tl_y rfl (y_loadAgg rfl rfl (.own inferInstance inferInstance)) ?_
  refine tl_e rfl (e_call' rfl (wset_spec code (hname.mono hm) (h.mono hm) (hw.mono hm)) ?_)
  rintro _ _ _ _ ⟨rfl, rfl, t, ok, A1, n1, c1, A2, n2, c2, rfl, hset⟩
  refine tl_y rfl (y_move (v := .tuple _) rfl) ?_
  refine tl_y rfl (y_extract rfl) ?_
  refine tl_y rfl (y_extract rfl) ?_
  refine tl_y rfl (y_extract rfl) ?_
  refine tl_y rfl (y_extract rfl) ?_
  refine tl_e rfl (e_alloc (fun b2 => ?_))
  refine tl_e rfl (e_store rfl rfl (by rfl) (by rfl) inferInstance inferInstance inferInstance ?_)
  refine tl_y rfl (y_assign (v := .slice _ _ _) rfl) ?_
  refine tl_y rfl (y_assign (v := .slice _ _ _) rfl) ?_
  refine tl_y rfl (y_assign (v := .bool _) rfl) ?_
  refine tl_nil (.then_normal ?_)
  refine .sub (F' := [(1, _), (5, _), (6, _), (7, _), (8, _)]) (.cons rfl (.cons rfl (.cons rfl (.cons rfl (.cons rfl .nil))))) ?_
  refine x_seq (x_seq (x_region ?_))
  refine tl_y rfl (y_move (v := .bool _) rfl) ?_
  refine tl_y rfl (y_not rfl) ?_
  refine tl_nil (.then_normal ?_)
  refine x_condb rfl (fun hc2 => ?_) (fun hc2 => ?_)
  ·
    refine x_seq (x_region ?_)
    refine tl_y rfl (y_assign rfl) ?_
    refine tl_nil (.then_normal ?_)
    refine .sub (F' := [(4, _)]) (.cons rfl .nil) ?_
    refine x_ret (.then_ret (ret1 rfl rfl hm rfl))
  ·
    obtain rfl : ok = true := by simpa using hc2
    obtain ⟨H, nm, vs2, ks, hok, hH, hH1, hH4, rfl, rfl, hn1, hr2, hb2, hle2⟩ := hset rfl
    obtain ⟨hokc, H', hH', _, _, hlv⟩ := okS_facts hok
    obtain rfl : H = H' := by omega
    have hokM : okM t 16 (pw2 H) := ⟨hok, by omega, hlv.symm⟩
    have hks : ∀ b ∈ ks, b.length ≤ 1000000000000 := fun b hb => Nat.le_trans (hle2 b hb) (by omega)
    have hp4 := pw2_le (j := H) (k := 4) (by omega)
    rw [show pw2 4 = 16 from rfl] at hp4
    have hp1 := pw2_pos H
    refine x_skip (.then_normal ?_)
    refine x_seq (x_region ?_)
    refine tl_y rfl (y_loadAgg rfl rfl (.own inferInstance inferInstance)) ?_
    refine tl_y rfl (y_move (v := .slice _ _ _) rfl) ?_
    refine tl_y rfl (y_move (v := .slice _ _ _) rfl) ?_
    refine tl_e rfl (e_call' rfl (WNew_spec (hg.mono hm) t hn1 (Row.in_ hr2) (brows_in hb2) (by omega) hks) ?_)
    rintro _ M2 _ hM2 h7
    rw [if_pos hokM] at h7
    obtain ⟨w, Ea, rfl, hWa, rfl⟩ := h7
    rw [hH, Int.toNat_natCast] at hWa
    replace hm := hm.trans hM2
    have he := hM2
    refine tl_y rfl (y_move (v := .tuple _) rfl) ?_
    refine tl_y rfl (y_extract rfl) ?_
    refine tl_y rfl (y_extract rfl) ?_
    refine tl_y rfl (y_assign (v := .pointer _) rfl) ?_
    refine tl_y rfl (y_assign (v := .int _ _) rfl) ?_
    refine tl_nil (.then_normal ?_)
    refine .sub (F' := [(1, _), (5, _), (6, _), (7, _), (9, _)]) (.cons rfl (.cons rfl (.cons rfl (.cons rfl (.cons rfl .nil))))) ?_
    refine x_seq (x_region ?_)
    refine tl_y rfl (y_loadAgg rfl rfl (.own inferInstance inferInstance)) ?_
    refine tl_y rfl (y_move (v := .slice _ _ _) rfl) ?_
    refine tl_y rfl (y_move (v := .slice _ _ _) rfl) ?_
    refine tl_e rfl (e_call' rfl (WNew_spec (hg.mono hm) t (hn1.mono he) (Row.in_ (hr2.mono he)) (brows_in (hb2.mono he)) (by omega) hks) ?_)
    rintro _ M3 _ hM3 h8
    rw [if_pos hokM] at h8
    obtain ⟨x, Eb, rfl, hWb, rfl⟩ := h8
    rw [hH, Int.toNat_natCast] at hWb
    replace hm := hm.trans hM3
    replace he := he.trans hM3
    replace hWa := hWa.mono hM3
    refine tl_y rfl (y_move (v := .tuple _) rfl) ?_
    refine tl_y rfl (y_extract rfl) ?_
    refine tl_y rfl (y_extract rfl) ?_
    refine tl_y rfl (y_assign (v := .pointer _) rfl) ?_
    refine tl_y rfl (y_assign (v := .int _ _) rfl) ?_
    refine tl_nil (.then_normal ?_)
    refine .sub (F' := [(1, _), (5, _), (6, _), (7, _), (9, _), (11, _)]) (.cons rfl (.cons rfl (.cons rfl (.cons rfl (.cons rfl (.cons rfl .nil)))))) ?_
    refine x_seq (x_seq (x_region ?_))
    refine tl_y rfl (y_move (v := .pointer _) rfl) ?_
    refine tl_y rfl (y_eqNilPtr rfl rfl) ?_
    refine tl_y rfl (y_move (v := .bool _) rfl) ?_
    refine tl_set (s := 52) (u := .bool false) rfl (rfl) ?_
    refine tl_y rfl (y_move (v := .pointer _) rfl) ?_
    refine tl_y rfl (y_eqNilPtr rfl rfl) ?_
    refine tl_y rfl (y_pickF rfl rfl) ?_
    refine tl_nil (.then_normal ?_)
    refine .sub (F' := [(1, _), (5, _), (6, _), (7, _), (9, _), (11, _), (55, _)]) (.cons rfl (.cons rfl (.cons rfl (.cons rfl (.cons rfl (.cons rfl (.cons rfl .nil))))))) ?_
    refine x_false rfl (rfl) ?_
    refine x_skip (.then_normal ?_)
    refine x_seq (x_region ?_)
    refine tl_y rfl (y_move (v := .int _ _) rfl) ?_
    refine tl_y rfl (y_convI rfl (by omega)) ?_
    refine tl_y rfl (y_move (v := .slice _ _ _) rfl) ?_
    refine tl_y rfl (y_len rfl) ?_
    refine tl_y rfl (y_remI rfl rfl (by omega)) ?_
    rw [show (skip.toNat : Int) % ((pw2 H : Nat) : Int) = ((skip.toNat % pw2 H : Nat) : Int) by omega]
    obtain ⟨n, hn⟩ : ∃ n, n = skip.toNat % pw2 H := ⟨_, rfl⟩
    have hnl : n < pw2 H := by rw [hn]; exact Nat.mod_lt _ hp1
    rw [← hn]
    refine .to (Ea ++ (Eb ++ lawL b1 b2 code NA nl nc WA wl wc t L)) inferInstance ?_
    refine tl_y rfl (y_assign (v := .int _ _) rfl) ?_
    refine tl_nil (.then_normal ?_)
    refine .sub (F' := [(5, _), (6, _), (7, _), (9, _), (11, _), (13, _)]) (.cons rfl (.cons rfl (.cons rfl (.cons rfl (.cons rfl (.cons rfl .nil)))))) ?_
    refine x_seq (x_seq (x_region ?_))
    refine tl_y rfl (y_assign rfl) ?_
    refine tl_nil (.then_normal ?_)
    refine x_block ?_
    refine x_loop (I := fun m' F D M4 L4 => ∃ (i : Nat) (E : Own), m' = n - i ∧ i ≤ n ∧ Le M3 M4 ∧ WalkS M4 t H nm ks w i E ∧ D = [] ∧ L4 = E ++ (Eb ++ lawL b1 b2 code NA nl nc WA wl wc t L) ∧ F = [(5, .pointer (some ⟨b2, 0, none⟩)), (6, .slice A1 16 c1), (7, .slice A2 (pw2 H) c2), (9, .pointer (some ⟨w, 0, none⟩)), (11, .pointer (some ⟨x, 0, none⟩)), (13, .int .i64 (n : Int)), (14, .int .i64 (i : Int))]) (n) (F0 := [(5, _), (6, _), (7, _), (9, _), (11, _), (13, _), (14, _)]) ?_ (.cons rfl (.cons rfl (.cons rfl (.cons rfl (.cons rfl (.cons rfl (.cons rfl .nil))))))) ?_  -- slots [5, 6, 7, 9, 11, 13, 14], written [14]
    · exact ⟨0, Ea, rfl, by omega, Le.refl _, hWa, rfl, rfl, rfl⟩
    rintro m _ _ M4 _ ⟨i, E, rfl, hi, he4, hWi, rfl, rfl, rfl⟩
    have hm4 := hm.trans he4
    refine x_seq (x_seq (x_region ?_))
    refine tl_y rfl (y_move (v := .int _ _) rfl) ?_
    refine tl_y rfl (y_move (v := .int _ _) rfl) ?_
    refine tl_y rfl (y_lss rfl rfl) ?_
    refine tl_nil (.then_normal ?_)
    refine x_cond rfl (fun hc4 => ?_) (fun hc4 => ?_)
    ·
      refine x_skip (.then_normal ?_)
      refine x_seq ?_
      refine x_block ?_
      refine x_region ?_
      refine tl_y rfl (y_move (v := .pointer _) rfl) ?_
      refine tl_e rfl (e_call' rfl (Next_spec (hg.mono hm4) hH (by omega) hks (by omega) hWi) ?_)
      rintro v6 M6 L6 hM6 h6
      rw [if_pos (by omega)] at h6
      obtain ⟨A6, c6, vs6, E6, F6, E8, rfl, _, _, hW8, rfl⟩ := h6
      refine .dropTo (E8 ++ (Eb ++ lawL b1 b2 code NA nl nc WA wl wc t L)) inferInstance ?_
      refine tl_nil (.block_normal (.then_normal ?_))
      refine .sub (F' := [(5, _), (6, _), (7, _), (9, _), (11, _), (13, _), (14, _)]) (.cons rfl (.cons rfl (.cons rfl (.cons rfl (.cons rfl (.cons rfl (.cons rfl .nil))))))) ?_
      refine x_region ?_
      refine tl_y rfl (y_move (v := .int _ _) rfl) ?_
      refine tl_y rfl (y_addI rfl rfl (by omega)) ?_
      refine tl_y rfl (y_assign (v := .int _ _) rfl) ?_
      refine tl_nil (.loop_next (m' := n - (i + 1)) (by omega) (F' := [(5, _), (6, _), (7, _), (9, _), (11, _), (13, _), (14, _)]) (.cons rfl (.cons rfl (.cons rfl (.cons rfl (.cons rfl (.cons rfl (.cons rfl .nil))))))) ?_)
      exact ⟨i + 1, E8, rfl, by omega, he4.trans hM6, hW8, rfl, rfl, rfl⟩
    ·
      obtain rfl : i = n := by omega
      refine .to (Eb ++ (E ++ lawL b1 b2 code NA nl nc WA wl wc t L)) inferInstance ?_
      have he4' := he.trans he4
      refine x_exit (.then_exit (.loop_exit (.block_exit (.then_normal ?_))))
      refine .sub (F' := [(5, _), (6, _), (7, _), (9, _), (11, _), (13, _)]) (.cons rfl (.cons rfl (.cons rfl (.cons rfl (.cons rfl (.cons rfl .nil)))))) ?_
      refine x_seq (x_seq (x_region ?_))
      refine tl_y rfl (y_move (v := .pointer _) rfl) ?_
      refine tl_y rfl (y_move (v := .int _ _) rfl) ?_
      refine tl_e rfl (e_call' rfl (Skip_spec (hg.mono hm4) hH (by omega) hks (Nat.zero_le _) (hWb.mono he4) i (by omega)) ?_)
      rintro _ M5 _ hM5 ⟨rfl, Eb5, rfl, hWb5⟩
      rw [show min ((i : Nat) : Int).toNat (pw2 H - 0) = i by omega] at hWb5 ⊢
      rw [Nat.zero_add] at hWb5
      replace hWi := hWi.mono hM5
      replace hm4 := hm4.trans hM5
      replace he4' := he4'.trans hM5
      refine .to (E ++ (Eb5 ++ lawL b1 b2 code NA nl nc WA wl wc t L)) inferInstance ?_
      refine tl_y rfl (y_move (v := .int _ _) rfl) ?_
      refine tl_y rfl (y_neq rfl rfl) ?_
      refine tl_y rfl (y_move (v := .bool _) rfl) ?_
      refine tl_set (s := 73) (u := .bool false) rfl (by simp) ?_
      refine tl_y rfl (y_move (v := .pointer _) rfl) ?_
      refine tl_e rfl (e_call' rfl (Made_spec hWi) ?_)
      rintro _ _ _ _ ⟨rfl, rfl, rfl⟩
      refine .to (Eb5 ++ (E ++ lawL b1 b2 code NA nl nc WA wl wc t L)) inferInstance ?_
      refine tl_y rfl (y_move (v := .pointer _) rfl) ?_
      refine tl_e rfl (e_call' rfl (Made_spec hWb5) ?_)
      rintro _ _ _ _ ⟨rfl, rfl, rfl⟩
      refine .to (E ++ (Eb5 ++ lawL b1 b2 code NA nl nc WA wl wc t L)) inferInstance ?_
      refine tl_y rfl (y_neq rfl rfl) ?_
      refine tl_y rfl (y_pickF rfl rfl) ?_
      refine tl_nil (.then_normal ?_)
      refine .sub (F' := [(5, _), (6, _), (7, _), (9, _), (11, _), (13, _), (79, _)]) (.cons rfl (.cons rfl (.cons rfl (.cons rfl (.cons rfl (.cons rfl (.cons rfl .nil))))))) ?_
      refine x_false rfl (decide_eq_false (fun h => h rfl)) ?_
      refine x_skip (.then_normal ?_)
      refine x_seq (x_region ?_)
      refine tl_y rfl (y_move (v := .pointer _) rfl) ?_
      refine tl_e rfl (e_call' rfl (Next_spec (hg.mono hm4) hH (by omega) hks (by omega) hWi) ?_)
      rintro v6 M6 L6 hM6 h6
      rw [if_pos (by omega)] at h6
      obtain ⟨A6, c6, vs6, E6, F6, E8, rfl, hrow6, hbs6, hW8, rfl⟩ := h6
      refine .pubRow hrow6 (fun M7 hM7 hr7 => TL.pubBs hbs6 (fun M8 hM8 hb8 => ?_))
      replace hr7 := hr7.mono hM8
      replace hW8 := hW8.mono (hM7.trans hM8)
      have hd6 := hM6.trans (hM7.trans hM8)
      replace hm4 := hm4.trans hd6
      replace he4' := he4'.trans hd6
      refine .to (Eb5 ++ (E8 ++ lawL b1 b2 code NA nl nc WA wl wc t L)) inferInstance ?_
      refine tl_y rfl (y_move (v := .tuple _) rfl) ?_
      refine tl_y rfl (y_extract rfl) ?_
      refine tl_y rfl (y_extract rfl) ?_
      refine tl_y rfl (y_extract rfl) ?_
      refine tl_y rfl (y_assign (v := .int _ _) rfl) ?_
      refine tl_y rfl (y_assign (v := .slice _ _ _) rfl) ?_
      refine tl_y rfl (y_assign (v := .bool _) rfl) ?_
      refine tl_nil (.then_normal ?_)
      refine .sub (F' := [(5, _), (6, _), (7, _), (9, _), (11, _), (13, _), (15, _), (16, _), (17, _)]) (.cons rfl (.cons rfl (.cons rfl (.cons rfl (.cons rfl (.cons rfl (.cons rfl (.cons rfl (.cons rfl .nil))))))))) ?_
      refine x_seq (x_region ?_)
      refine tl_y rfl (y_move (v := .pointer _) rfl) ?_
      refine tl_e rfl (e_call' rfl (Next_spec (hg.mono hm4) hH (by omega) hks (by omega) (hWb5.mono hd6)) ?_)
      rintro v9 M9 L9 hM9 h9
      rw [if_pos (by omega)] at h9
      obtain ⟨A9, c9, vs9, E9, F9, Eb8, rfl, hrow9, hbs9, hWb8, rfl⟩ := h9
      refine .pubRow hrow9 (fun M10 hM10 hr10 => TL.pubBs hbs9 (fun M11 hM11 hb11 => ?_))
      replace hr10 := hr10.mono hM11
      replace hWb8 := hWb8.mono (hM10.trans hM11)
      have hd9 := hM9.trans (hM10.trans hM11)
      replace hm4 := hm4.trans hd9
      replace he4' := he4'.trans hd9
      replace hr7 := hr7.mono hd9
      replace hb8 := hb8.mono hd9
      replace hW8 := hW8.mono hd9
      refine tl_y rfl (y_move (v := .tuple _) rfl) ?_
      refine tl_y rfl (y_extract rfl) ?_
      refine tl_y rfl (y_extract rfl) ?_
      refine tl_y rfl (y_extract rfl) ?_
      refine tl_y rfl (y_assign (v := .int _ _) rfl) ?_
      refine tl_y rfl (y_assign (v := .slice _ _ _) rfl) ?_
      refine tl_y rfl (y_assign (v := .bool _) rfl) ?_
      refine tl_nil (.then_normal ?_)
      refine .sub (F' := [(5, _), (6, _), (7, _), (9, _), (11, _), (13, _), (15, _), (16, _), (17, _), (18, _), (19, _), (20, _)]) (.cons rfl (.cons rfl (.cons rfl (.cons rfl (.cons rfl (.cons rfl (.cons rfl (.cons rfl (.cons rfl (.cons rfl (.cons rfl (.cons rfl .nil)))))))))))) ?_
      refine x_seq (x_seq (x_region ?_))
      refine tl_y rfl (y_move (v := .bool _) rfl) ?_
      refine tl_y rfl (y_not rfl) ?_
      refine tl_y rfl (y_move (v := .bool _) rfl) ?_
      refine tl_set (s := 94) (u := .bool false) rfl (rfl) ?_
      refine tl_y rfl (y_move (v := .bool _) rfl) ?_
      refine tl_y rfl (y_not rfl) ?_
      refine tl_y rfl (y_pickF rfl rfl) ?_
      refine tl_y rfl (y_move (v := .bool _) rfl) ?_
      refine tl_set (s := 98) (u := .bool false) rfl (rfl) ?_
      refine tl_y rfl (y_move (v := .int _ _) rfl) ?_
      refine tl_y rfl (y_move (v := .int _ _) rfl) ?_
      refine tl_y rfl (y_neq rfl rfl) ?_
      refine tl_y rfl (y_pickF rfl rfl) ?_
      refine tl_y rfl (y_move (v := .bool _) rfl) ?_
      refine tl_set (s := 103) (u := .bool false) rfl (by simp) ?_
      refine tl_y rfl (y_move (v := .int _ _) rfl) ?_
      refine tl_y rfl (y_convI rfl (by omega)) ?_
      refine tl_y rfl (y_move (v := .int _ _) rfl) ?_
      refine tl_y rfl (y_neq rfl rfl) ?_
      refine tl_y rfl (y_pickF rfl rfl) ?_
      refine tl_y rfl (y_move (v := .bool _) rfl) ?_
      refine tl_set (s := 109) (u := .bool false) rfl (by simp) ?_
      refine tl_y rfl (y_move (v := .slice _ _ _) rfl) ?_
      refine tl_y rfl (y_move (v := .slice _ _ _) rfl) ?_
      refine tl_e rfl (e_call' rfl (All_spec hr7 hb8 hr10 hb11 rfl) ?_)
      rintro _ _ _ _ ⟨rfl, rfl, rfl⟩
      obtain ⟨z, hz⟩ : ∃ z : UInt32, z.toNat = i := ⟨UInt32.ofNat i, by rw [UInt32.toNat_ofNat', Nat.mod_eq_of_lt (by omega)]⟩
      refine tl_y rfl (y_not rfl) ?_
      refine tl_y rfl (y_pickF rfl rfl) ?_
      refine tl_y rfl (y_move (v := .bool _) rfl) ?_
      refine tl_set (s := 115) (u := .bool false) rfl (rfl) ?_
      refine tl_y rfl (y_move (v := .slice _ _ _) rfl) ?_
      refine tl_y rfl (y_loadAgg rfl rfl (.own inferInstance inferInstance)) ?_
      refine tl_y rfl (y_move (v := .slice _ _ _) rfl) ?_
      refine tl_y rfl (y_move (v := .slice _ _ _) rfl) ?_
      refine tl_y rfl (y_move (v := .int _ _) rfl) ?_
      rw [show ((i : Nat) : Int) = ((z.toNat : Nat) : Int) by rw [hz]]
      refine tl_e rfl (e_call' rfl (Way_spec (hg.mono hm4).mr t (hn1.mono he4') (hr2.mono he4') (hb2.mono he4') hks z) ?_)
      rintro _ M12 _ hM12 ⟨rfl, A12, m12, c12, vs12, rfl, hr12, hb12⟩
      rw [if_pos ⟨hokM, by omega⟩, hH, Int.toNat_natCast, hz] at hb12
      replace hm4 := hm4.trans hM12
      refine tl_e rfl (e_call' rfl (All_spec (hr7.mono hM12) (hb8.mono hM12) hr12 hb12 rfl) ?_)
      rintro _ _ _ _ ⟨rfl, rfl, rfl⟩
      refine tl_y rfl (y_not rfl) ?_
      refine tl_y rfl (y_pickF rfl rfl) ?_
      refine tl_nil (.then_normal ?_)
      refine .sub (F' := [(7, _), (9, _), (11, _), (13, _), (124, _)]) (.cons rfl (.cons rfl (.cons rfl (.cons rfl (.cons rfl .nil))))) ?_
      refine x_false rfl (rfl) ?_
      refine x_skip (.then_normal ?_)
      refine x_seq (x_region ?_)
      refine tl_y rfl (y_move (v := .slice _ _ _) rfl) ?_
      refine tl_y rfl (y_len rfl) ?_
      refine tl_y rfl (y_move (v := .int _ _) rfl) ?_
      refine tl_y rfl (y_subI rfl rfl (by omega)) ?_
      refine tl_y rfl (y_subI rfl rfl (by omega)) ?_
      refine tl_y rfl (y_assign (v := .int _ _) rfl) ?_
      refine tl_nil (.then_normal ?_)
      refine .sub (F' := [(9, _), (11, _), (21, _)]) (.cons rfl (.cons rfl (.cons rfl .nil))) ?_
      refine x_seq (x_region ?_)
      refine tl_y rfl (y_move (v := .pointer _) rfl) ?_
      refine tl_e rfl (e_call' rfl (Next_spec (hg.mono hm4) hH (by omega) hks (by omega) (hWb8.mono hM12)) ?_)
      rintro v13 M13 L13 hM13 h13
      obtain ⟨qv, n13, A13, c13, vs13, E13, F13, Eb13, rfl, rfl, hW13, _, _⟩ := next_uni h13
      refine .dropTo (E8 ++ lawL b1 b2 code NA nl nc WA wl wc t L) inferInstance ?_
      refine tl_y rfl (y_move (v := .tuple _) rfl) ?_
      refine tl_y rfl (y_extract rfl) ?_
      refine tl_y rfl (y_extract rfl) ?_
      refine tl_y rfl (y_extract rfl) ?_
      refine tl_y rfl (y_assign (v := .int _ _) rfl) ?_
      refine tl_y rfl (y_assign (v := .slice _ _ _) rfl) ?_
      refine tl_y rfl (y_assign (v := .bool _) rfl) ?_
      refine tl_nil (.then_normal ?_)
      refine .sub (F' := [(9, _), (21, _), (24, _)]) (.cons rfl (.cons rfl (.cons rfl .nil))) ?_
      refine x_seq (x_region ?_)
      refine tl_y rfl (y_move (v := .pointer _) rfl) ?_
      refine tl_e rfl (e_call' rfl (Skip_spec (hg.mono (hm4.trans hM13)) hH (by omega) hks (by omega) (hW8.mono (hM12.trans hM13)) 1000 (by omega)) ?_)
      rintro _ M14 _ hM14 ⟨rfl, E14, rfl, hW14⟩
      rw [show min (1000 : Int).toNat (pw2 H - (i + 1)) = pw2 H - (i + 1) by omega]
      refine tl_y rfl (y_move (v := .int _ _) rfl) ?_
      refine tl_y rfl (y_eql rfl rfl) ?_
      refine tl_y rfl (y_move (v := .bool _) rfl) ?_
      refine tl_set (s := 140) (u := .bool true) rfl (by simp; omega) ?_
      refine tl_y rfl (y_move (v := .bool _) rfl) ?_
      refine tl_y rfl (y_move (v := .int _ _) rfl) ?_
      refine tl_y rfl (y_gtr rfl rfl) ?_
      refine tl_y rfl (y_eqlBool rfl rfl) ?_
      refine tl_y rfl (y_pickT rfl rfl) ?_
      refine tl_y rfl (y_assign (v := .bool _) rfl) ?_
      refine tl_nil (.then_normal ?_)
      refine .sub (F' := [(4, _)]) (.cons rfl .nil) ?_
      refine x_ret (ret1 rfl rfl (hm4.trans (hM13.trans hM14)) (by
        congr 1
        rw [beq_iff_eq, decide_eq_decide]
        omega))
end
end Go.Proofs.YtbjnjedfoiedeaaDoor
set_option linter.unusedVariables false
set_option linter.unusedSimpArgs false
namespace Go.Eng
open Go.ChangeShapes Go.WideShapes Go.ChangeAt Go.RowKit
/-! ### From a contract to a statement's call -/
def memOf (W : World) : Mem := fun b => W.heap[b]?
theorem st_start (W : World) : St W (memOf W) [] W := ⟨rfl, rfl, rfl, fun b o h => h, fun p hp => (by cases hp), by simp⟩
theorem below_of {W W' : World} {M' : Mem} {L' : Own} (hle : Le (memOf W) M') (h : St W M' L' W') : Below W.heap.size W W' := by
  have hb : ∀ k, k < W.heap.size → W'.heap[k]? = W.heap[k]? := fun k hk => by
    have h1 : W.heap[k]? = some W.heap[k] := Array.getElem?_eq_getElem hk
    rw [h1]
    exact h.ro k _ (hle k _ h1)
  refine ⟨h.os, h.tape, h.output, ?_, hb⟩
  rcases Nat.eq_zero_or_pos W.heap.size with h0 | h0
  · omega
  · have h2 := hb (W.heap.size - 1) (by omega)
    have hlt : W.heap.size - 1 < W.heap.size := by omega
    rw [Array.getElem?_eq_getElem hlt] at h2
    have h3 := (Array.getElem?_eq_some_iff.1 h2).1
    omega
theorem calls_of_con {P : Program} {f : FuncId} {args : Array Value} {W : World} (h : Con P f args W (memOf W) [] (fun v _ _ => v = .bool true) noPanic) : Calls P f args W fun e W' => e = .returned (.bool true) ∧ Below W.heap.size W W' :=
  (h.calls W (st_start W)).mono fun e W' he => by
    cases e with
    | returned v => obtain ⟨M', L', a, b, rfl⟩ := he; exact ⟨rfl, below_of a b⟩
    | panicked c => obtain ⟨M', L', a, b, c⟩ := he; exact c.elim
    | outgrown => exact he.elim
/-! ### What came in -/
section
variable {H : Type} {enc : TypeId × Value → H} {P : Program} {W : World} {t : TypeId} {cs : List Value}
def Rd (enc : TypeId × Value → H) (P : Program) (W : World) (t : TypeId) (cs : List Value) : Prop := ∃ fuel x, DataW.trod enc P W 0 (fun _ => true) true fuel t cs = some x
theorem rd_of {v : Value} {d : DataW H} {ps : List MemPlace} (h : DataW.Trod enc P W 0 (fun _ => true) true t v d ps) : Rd enc P W t v.cells.toList := let ⟨n, h⟩ := h; ⟨n, _, h⟩
theorem TI.cellsOf {d : TypeDesc} {z : Value} {s b : Nat} (h : TI P t d z s b) : P.cellsOf t = s := by
  obtain ⟨i, hi, _, hs, _⟩ := h.parts
  simp [Program.cellsOf, hi, hs]
theorem Rd.int {k : IntKind} {z : Value} {s b : Nat} [ti : TI P t (.int k) z s b] (h : Rd enc P W t cs) : ∃ n, cs = [.int k n] ∧ (Lit.int k n).wf = true := by
  obtain ⟨fuel, x, h⟩ := h
  cases fuel with
  | zero => cases h
  | succ fuel =>
    unfold DataW.trod at h
    simp only [ti.und] at h
    split at h <;> simp_all
theorem Rd.bool {z : Value} {s b : Nat} [ti : TI P t .bool z s b] (h : Rd enc P W t cs) : ∃ n, cs = [.bool n] := by
  obtain ⟨fuel, x, h⟩ := h
  cases fuel with
  | zero => cases h
  | succ fuel =>
    unfold DataW.trod at h
    simp only [ti.und] at h
    split at h <;> simp_all
theorem Rd.string {z : Value} {s b : Nat} [ti : TI P t .string z s b] (h : Rd enc P W t cs) : ∃ n : ByteArray, cs = [.string n] ∧ n.size ≤ maxLen := by
  obtain ⟨fuel, x, h⟩ := h
  cases fuel with
  | zero => cases h
  | succ fuel =>
    unfold DataW.trod at h
    simp only [ti.und] at h
    split at h <;> simp_all
theorem mapM_some {α β : Type} {f : α → Option β} : ∀ {l : List α} {r : List β}, l.mapM f = some r → ∀ a ∈ l, ∃ b, f a = some b
  | [], _, _, a, ha => by cases ha
  | x :: l, r, h, a, ha => by
    rw [List.mapM_cons] at h
    simp only [Option.bind_eq_bind, Option.bind_eq_some_iff] at h
    obtain ⟨b, hb, rs, hrs, _⟩ := h
    rcases List.mem_cons.1 ha with rfl | ha
    · exact ⟨b, hb⟩
    · exact mapM_some hrs a ha
theorem Rd.array {m : Nat} {e : TypeId} {z z' : Value} {s b s' b' : Nat} {d' : TypeDesc} [ti : TI P t (.array m e) z s b] [te : TI P e d' z' s' b'] (h : Rd enc P W t cs) : cs.length = s ∧ ∀ i, i < m → Rd enc P W e ((cs.drop (i * s')).take s') := by
  obtain ⟨fuel, x, h⟩ := h
  cases fuel with
  | zero => cases h
  | succ fuel =>
    unfold DataW.trod at h
    simp only [ti.und, ti.cellsOf, te.cellsOf] at h
    split at h
    · rename_i hl
      obtain ⟨y, hy, _⟩ := Option.map_eq_some_iff.1 h
      refine ⟨hl, fun i hi => ?_⟩
      obtain ⟨b, hb⟩ := mapM_some hy i (List.mem_range.2 hi)
      exact ⟨fuel, b, hb⟩
    · cases h
theorem Rd.struct {fs : Array Field} {z : Value} {s b : Nat} [ti : TI P t (.struct fs) z s b] (h : Rd enc P W t cs) : cs.length = s ∧ ∀ f ∈ fs.toList, Rd enc P W f.type ((cs.drop f.offset).take (P.cellsOf f.type)) := by
  obtain ⟨fuel, x, h⟩ := h
  cases fuel with
  | zero => cases h
  | succ fuel =>
    unfold DataW.trod at h
    simp only [ti.und, ti.cellsOf] at h
    split at h
    · rename_i hl
      obtain ⟨y, hy, _⟩ := Option.map_eq_some_iff.1 h
      refine ⟨hl, fun f hf => ?_⟩
      obtain ⟨b, hb⟩ := mapM_some hy f hf
      exact ⟨fuel, b, hb⟩
    · cases h
theorem Rd.slice {e : TypeId} {z z' : Value} {s b s' b' : Nat} {d' : TypeDesc} [ti : TI P t (.slice e) z s b] [te : TI P e d' z' s' b'] (hs : 0 < s') (h : Rd enc P W t cs) :
    ∃ A len cap vs, cs = [.slice A len cap] ∧ Row (memOf W) s' A len cap vs ∧ ∀ i, i < len → Rd enc P W e ((vs.drop (i * s')).take s') := by
  obtain ⟨fuel, x, h⟩ := h
  rcases Deep.open_slice ti.und h with ⟨rfl, _⟩ | ⟨a, len, cap, m, n, D, Pl, rfl, hb, hl, hm, hmm, _, hx⟩
  · exact ⟨none, 0, 0, [], rfl, Row.nil _ _, fun i hi => by omega⟩
  · rw [te.cellsOf] at hx
    have hcap : cap ≤ 9223372036854775807 := by unfold maxLen at hm; omega
    have hlm : len ≤ m := by rw [hmm]; split <;> omega
    have hx : ∀ i, i < len → ∃ cs', W.cells? 0 (a.add (i * s')) s' = some cs' ∧ DataW.trod enc P W 0 (fun _ => true) true n e cs' = some (D i, Pl i) := fun i hi => hx i (by omega)
    rcases Nat.eq_zero_or_pos len with h0 | h0
    · subst h0
      exact ⟨some a, 0, cap, [], rfl, Row.empty _ _ _ hcap, fun i hi => by omega⟩
    · have hspot : a.spot = none := by
        obtain ⟨cs', h1, _⟩ := hx 0 h0
        obtain ⟨_, hlen, hc⟩ := World.cells?_some h1
        have := hc 0 hs
        have hg : cs'[0]? = some (cs'[0]'(by omega)) := List.getElem?_eq_getElem (by omega)
        rw [hg] at this
        have := World.cell?_spot this
        revert this
        unfold Addr.add
        simp
      obtain ⟨bl, off, sp⟩ := a
      simp only at hspot
      subst hspot
      simp only [add_plain] at hx
      -- the cells
      have hcell : ∀ i, i < len * s' → ∃ v, W.cell? ⟨bl, off + i, none⟩ = some v := fun i hi => by
        obtain ⟨cs', h1, _⟩ := hx (i / s') (Nat.div_lt_of_lt_mul (by rwa [Nat.mul_comm]))
        obtain ⟨_, hlen, hc⟩ := World.cells?_some h1
        have hmod := Nat.mod_lt i hs
        have := hc (i % s') hmod
        rw [add_plain, Nat.add_assoc, Nat.add_comm (i / s' * s'), Nat.mod_add_div' i s', List.getElem?_eq_getElem (by omega)] at this
        exact ⟨_, this⟩
      have hblock : ∃ c T fr, W.heap[bl]? = some (.cells c T fr) := by
        obtain ⟨v, hv⟩ := hcell 0 (Nat.mul_pos h0 hs)
        unfold World.cell? at hv
        split at hv
        · rename_i c T fr hh; exact ⟨c, T, fr, hh⟩
        · cases hv
      obtain ⟨c, T, fr, hh⟩ := hblock
      have hc : ∀ i, i < len * s' → c[off + i]? = some (c.getD (off + i) default) ∧ W.cell? ⟨bl, off + i, none⟩ = some (c.getD (off + i) default) := fun i hi => by
        obtain ⟨v, hv⟩ := hcell i hi
        have hv' := hv
        unfold World.cell? at hv
        simp only [hh, Option.isSome_none, Bool.false_eq_true, if_false] at hv
        have : c.getD (off + i) default = v := by simp [Array.getD_eq_getD_getElem?, hv]
        rw [this]
        exact ⟨hv, hv'⟩
      refine ⟨some ⟨bl, off, none⟩, len, cap, (List.range (len * s')).map fun i => c.getD (off + i) default, rfl, ⟨by simp, hl, hcap, fun _ => ⟨bl, off, c, T, fr, rfl, hh, fun j v hj => ?_⟩⟩, fun i hi => ?_⟩
      · rw [List.getElem?_map] at hj
        obtain ⟨k, hk, rfl⟩ := Option.map_eq_some_iff.1 hj
        have hlt := (List.getElem?_eq_some_iff.1 hk).1
        rw [List.getElem?_range (by simpa using hlt)] at hk
        cases hk
        exact (hc _ (by simpa using hlt)).1
      · obtain ⟨cs', h1, h2⟩ := hx i hi
        have : ((((List.range (len * s')).map fun i => c.getD (off + i) default).drop (i * s')).take s') = cs' := by
          obtain ⟨_, hlen, hcc⟩ := World.cells?_some h1
          have hle : (i + 1) * s' ≤ len * s' := Nat.mul_le_mul_right _ hi
          rw [Nat.add_mul, Nat.one_mul] at hle
          apply List.ext_getElem?
          intro j
          rw [List.getElem?_take]
          split
          · rename_i hj
            rw [List.getElem?_drop, List.getElem?_map, List.getElem?_range (by omega)]
            have h3 := hcc j hj
            rw [add_plain, Nat.add_assoc] at h3
            rw [← h3, (hc (i * s' + j) (by omega)).2]
            rfl
          · rw [List.getElem?_eq_none (by omega)]
        rw [this]
        exact ⟨n, _, h2⟩
/-- A value of a kind that is one cell. -/
theorem one_of {v : Value} {base : Nat} {r : Reach} {d : TypeDesc} {z : Value} {s b : Nat} [ti : TI P t d z s b] (hd : aggD d = false) (h : Value.okWide P W r base t v) {x : Value} (hc : v.cells.toList = [x]) : v = x := by
  cases v with
  | agg c =>
    exfalso
    simp only [Value.okWide, ti.und] at h
    cases d <;> simp_all [aggD, Cell.okWide, Cell.ok]
  | _ => simpa [Value.cells] using hc
theorem agg_of {v : Value} {base : Nat} {r : Reach} {d : TypeDesc} {z : Value} {s b : Nat} [ti : TI P t d z s b] (hd : aggD d = true) (h : Value.okWide P W r base t v) : v = .agg v.cells.toList.toArray := by
  simp only [Value.okWide, ti.und] at h
  cases d <;> simp_all [aggD]
  all_goals (obtain ⟨cs, rfl, _⟩ := h; simp [Value.cells])
theorem u8_of {n : Int} (h : (Lit.int .u8 n).wf = true) : ∃ c : UInt8, n = (c.toNat : Int) := by
  simp [Lit.wf, IntKind.min, IntKind.max, IntKind.signed, IntKind.bits] at h
  exact ⟨UInt8.ofNat n.toNat, by simp [UInt8.toNat_ofNat']; omega⟩
/-- A row of numbers that came in. -/
theorem ints_of {k : IntKind} : ∀ (vs : List Value), (∀ i, i < vs.length → ∃ n, (vs.drop i).take 1 = [.int k n] ∧ (Lit.int k n).wf = true) → ∃ ts : List Int, vs = ts.map (.int k) ∧ ∀ t ∈ ts, (Lit.int k t).wf = true
  | [], _ => ⟨[], rfl, fun t h => by cases h⟩
  | v :: vs, h => by
    obtain ⟨n, h1, h2⟩ := h 0 (by simp)
    obtain ⟨ts, rfl, ht⟩ := ints_of vs (fun i hi => by simpa using h (i + 1) (by simpa using hi))
    refine ⟨n :: ts, by simpa using h1, fun t hm => ?_⟩
    rcases List.mem_cons.1 hm with rfl | hm
    · exact h2
    · exact ht t hm
theorem Rd.ints {k : IntKind} {e : TypeId} {z z' : Value} {s b b' : Nat} [ti : TI P t (.slice e) z s b] [te : TI P e (.int k) z' 1 b'] (h : Rd enc P W t cs) :
    ∃ (A : Option Addr) (len cap : Nat) (ts : List Int), cs = [.slice A len cap] ∧ Row (memOf W) 1 A len cap (ts.map (.int k)) ∧ ∀ n ∈ ts, (Lit.int k n).wf = true := by
  obtain ⟨A, len, cap, vs, rfl, hr, hx⟩ := h.slice (by omega)
  have hl := hr.len
  obtain ⟨ts, rfl, ht⟩ := ints_of (k := k) vs (fun i hi => by
    have := (hx i (by omega)).int
    simpa using this)
  exact ⟨A, len, cap, ts, rfl, hr, ht⟩
theorem u8s_of : ∀ (ts : List Int), (∀ t ∈ ts, (Lit.int .u8 t).wf = true) → ∃ bs : List UInt8, ts.map (Value.int .u8) = bs.map bv
  | [], _ => ⟨[], rfl⟩
  | t :: ts, h => by
    obtain ⟨c, rfl⟩ := u8_of (h t List.mem_cons_self)
    obtain ⟨bs, hb⟩ := u8s_of ts (fun x hx => h x (List.mem_cons_of_mem _ hx))
    exact ⟨c :: bs, by rw [List.map_cons, List.map_cons, hb]; rfl⟩
/-- A row of bytes that came in. -/
theorem Rd.bytes {e : TypeId} {z z' : Value} {s b b' : Nat} [ti : TI P t (.slice e) z s b] [te : TI P e (.int .u8) z' 1 b'] (h : Rd enc P W t cs) :
    ∃ (A : Option Addr) (len cap : Nat) (bs : List UInt8), cs = [.slice A len cap] ∧ Bytes (memOf W) A len cap bs := by
  obtain ⟨A, len, cap, ts, rfl, hr, ht⟩ := h.ints (k := .u8)
  obtain ⟨bs, hb⟩ := u8s_of ts ht
  exact ⟨A, len, cap, bs, rfl, by rw [Bytes, ← hb]; exact hr⟩
end
end Go.Eng
set_option linter.unusedVariables false
namespace Go.Proofs.YtbjnjedfoiedeaaDoor
open Go Go.Eng Go.ChangeShapes Go.WideShapes Go.ChangeAt Go.RowKit
theorem own : ownKnob Tryd.prog.godebug = none := by kernel_rfl
theorem laidOut : laidOutB Tryd.prog = true := by kernel_rfl
set_option maxRecDepth 100000 in
theorem shutBool {H : Type} {enc : TypeId × Value → H} {W : World} {base : Nat} {sp : Nat → Bool} {held : Bool} (b : Bool) : DataW.Trod enc Tryd.prog W base sp held 4 (.bool b) (.lit (.bool b)) [] := ⟨1, by simp [DataW.trod, Value.cells, Tryd.underlying4]⟩
set_option maxRecDepth 100000 in
theorem byte_arg {H : Type} {enc : TypeId × Value → H} {W : World} {v : Value} {r : Reach} {b : Nat} (k : Value.okWide Tryd.prog W r b 5 v) (h : Rd enc Tryd.prog W 5 v.cells.toList) : ∃ c : UInt8, v = .int .u8 c.toNat := by
  obtain ⟨n, e, w⟩ := h.int
  obtain rfl := one_of rfl k e
  obtain ⟨c, rfl⟩ := u8_of w
  exact ⟨c, rfl⟩
set_option maxRecDepth 100000 in
theorem int_arg {H : Type} {enc : TypeId × Value → H} {W : World} {v : Value} {r : Reach} {b : Nat} (k : Value.okWide Tryd.prog W r b 3 v) (h : Rd enc Tryd.prog W 3 v.cells.toList) : ∃ n : Int, v = .int .i64 n ∧ -9223372036854775808 ≤ n ∧ n ≤ 9223372036854775807 := by
  obtain ⟨n, e, w⟩ := h.int
  obtain rfl := one_of rfl k e
  simp [Lit.wf, IntKind.min, IntKind.max, IntKind.signed, IntKind.bits] at w
  exact ⟨n, rfl, by omega, by omega⟩
end Go.Proofs.YtbjnjedfoiedeaaDoor
set_option linter.unusedVariables false
set_option linter.unusedSimpArgs false
set_option linter.constructorNameAsVariable false
namespace Go.Proofs.YtbjnjedfoiedeaaDoor
open Go Go.Eng Go.ChangeShapes Go.WideShapes Go.ChangeAt Go.RowKit
/-! ### What came in, and how many bytes it may have -/
section
variable {H : Type} {enc : TypeId × Value → H} {P : Program} {W : World} {t : TypeId} {cs : List Value}
def RdW (enc : TypeId × Value → H) (P : Program) (W : World) (t : TypeId) (cs : List Value) : Prop := ∃ fuel d ps, DataW.trod enc P W 0 (fun _ => true) true fuel t cs = some (d, ps) ∧ ∀ n ∈ d.weights P t, n ≤ reachBytes
theorem RdW.rd (h : RdW enc P W t cs) : Rd enc P W t cs := let ⟨n, d, ps, h, _⟩ := h; ⟨n, _, h⟩
theorem rdW_of {v : Value} {d : DataW H} {ps : List MemPlace} (h : DataW.Trod enc P W 0 (fun _ => true) true t v d ps) (hw : ∀ n ∈ d.weights P t, n ≤ reachBytes) : RdW enc P W t v.cells.toList := let ⟨n, h⟩ := h; ⟨n, _, _, h, hw⟩
theorem rdW_at {ts : List TypeId} {ds : List (DataW H)} (hz : (DataW.weightsEach P ts ds).all (· ≤ reachBytes) = true) (j : Nat) {v : Value} {d : DataW H} {ps : List MemPlace} (ht : ts[j]? = some t) (hd : ds[j]? = some d) (h : DataW.Trod enc P W 0 (fun _ => true) true t v d ps) : RdW enc P W t v.cells.toList :=
  rdW_of h fun n hn => by simpa using List.all_eq_true.1 hz n (DataW.weights_mem_each ht hd n hn)
theorem _root_.Go.Eng.TI.bytesOf {d : TypeDesc} {z : Value} {s b : Nat} (h : TI P t d z s b) : P.bytesOf t = b := by
  obtain ⟨i, hi, _, _, hb⟩ := h.parts
  simp [Program.bytesOf, hi, hb]
theorem weightsAll_mem {e : TypeId} {d : DataW H} {n : Nat} : ∀ {ds : List (DataW H)}, d ∈ ds → n ∈ d.weights P e → n ∈ DataW.weightsAll P e ds
  | [], h, _ => by cases h
  | x :: ds, h, hn => by
    simp only [DataW.weightsAll, List.mem_append]
    rcases List.mem_cons.1 h with rfl | h
    · exact .inl hn
    · exact .inr (weightsAll_mem h hn)
theorem RdW.slice {e : TypeId} {z z' : Value} {s b s' b' : Nat} {d' : TypeDesc} [ti : TI P t (.slice e) z s b] [te : TI P e d' z' s' b'] (hs : 0 < s') (h : RdW enc P W t cs) :
    ∃ A len cap vs, cs = [.slice A len cap] ∧ Row (memOf W) s' A len cap vs ∧ len * b' ≤ reachBytes ∧ ∀ i, i < len → RdW enc P W e ((vs.drop (i * s')).take s') := by
  obtain ⟨fuel, d, ps, h, hwt⟩ := h
  rcases Deep.open_slice ti.und h with ⟨rfl, _⟩ | ⟨a, len, cap, m, n, D, Pl, rfl, hb, hl, hm, hmm, hdd, hx⟩
  · exact ⟨none, 0, 0, [], rfl, Row.nil _ _, by simp, fun i hi => by omega⟩
  · obtain ⟨rfl, rfl⟩ := Prod.mk.inj hdd
    have hsz : len * b' ≤ reachBytes := by
      have h1 := hwt ((((List.range len).map D).length + ((List.range (m - len)).map fun j => D (len + j)).length) * P.bytesOf e) (by simp [DataW.weights, ti.und])
      rw [te.bytesOf] at h1
      refine Nat.le_trans (Nat.mul_le_mul_right _ ?_) h1
      simp
    have hwe : ∀ i, i < len → ∀ k ∈ (D i).weights P e, k ≤ reachBytes := fun i hi k hk => hwt k (by
      simp only [DataW.weights, ti.und, List.mem_cons, List.mem_append]
      exact .inr (.inl (weightsAll_mem (List.mem_map.2 ⟨i, List.mem_range.2 hi, rfl⟩) hk)))
    rw [te.cellsOf] at hx
    have hcap : cap ≤ 9223372036854775807 := by unfold maxLen at hm; omega
    have hlm : len ≤ m := by rw [hmm]; split <;> omega
    have hx : ∀ i, i < len → ∃ cs', W.cells? 0 (a.add (i * s')) s' = some cs' ∧ DataW.trod enc P W 0 (fun _ => true) true n e cs' = some (D i, Pl i) := fun i hi => hx i (by omega)
    rcases Nat.eq_zero_or_pos len with h0 | h0
    · subst h0
      exact ⟨some a, 0, cap, [], rfl, Row.empty _ _ _ hcap, hsz, fun i hi => by omega⟩
    · have hspot : a.spot = none := by
        obtain ⟨cs', h1, _⟩ := hx 0 h0
        obtain ⟨_, hlen, hc⟩ := World.cells?_some h1
        have := hc 0 hs
        have hg : cs'[0]? = some (cs'[0]'(by omega)) := List.getElem?_eq_getElem (by omega)
        rw [hg] at this
        have := World.cell?_spot this
        revert this
        unfold Addr.add
        simp
      obtain ⟨bl, off, sp⟩ := a
      simp only at hspot
      subst hspot
      simp only [Eng.add_plain] at hx
      -- the cells
      have hcell : ∀ i, i < len * s' → ∃ v, W.cell? ⟨bl, off + i, none⟩ = some v := fun i hi => by
        obtain ⟨cs', h1, _⟩ := hx (i / s') (Nat.div_lt_of_lt_mul (by rwa [Nat.mul_comm]))
        obtain ⟨_, hlen, hc⟩ := World.cells?_some h1
        have hmod := Nat.mod_lt i hs
        have := hc (i % s') hmod
        rw [Eng.add_plain, Nat.add_assoc, Nat.add_comm (i / s' * s'), Nat.mod_add_div' i s', List.getElem?_eq_getElem (by omega)] at this
        exact ⟨_, this⟩
      have hblock : ∃ c T fr, W.heap[bl]? = some (.cells c T fr) := by
        obtain ⟨v, hv⟩ := hcell 0 (Nat.mul_pos h0 hs)
        unfold World.cell? at hv
        split at hv
        · rename_i c T fr hh; exact ⟨c, T, fr, hh⟩
        · cases hv
      obtain ⟨c, T, fr, hh⟩ := hblock
      have hc : ∀ i, i < len * s' → c[off + i]? = some (c.getD (off + i) default) ∧ W.cell? ⟨bl, off + i, none⟩ = some (c.getD (off + i) default) := fun i hi => by
        obtain ⟨v, hv⟩ := hcell i hi
        have hv' := hv
        unfold World.cell? at hv
        simp only [hh, Option.isSome_none, Bool.false_eq_true, if_false] at hv
        have : c.getD (off + i) default = v := by simp [Array.getD_eq_getD_getElem?, hv]
        rw [this]
        exact ⟨hv, hv'⟩
      refine ⟨some ⟨bl, off, none⟩, len, cap, (List.range (len * s')).map fun i => c.getD (off + i) default, rfl, ⟨by simp, hl, hcap, fun _ => ⟨bl, off, c, T, fr, rfl, hh, fun j v hj => ?_⟩⟩, hsz, fun i hi => ?_⟩
      · rw [List.getElem?_map] at hj
        obtain ⟨k, hk, rfl⟩ := Option.map_eq_some_iff.1 hj
        have hlt := (List.getElem?_eq_some_iff.1 hk).1
        rw [List.getElem?_range (by simpa using hlt)] at hk
        cases hk
        exact (hc _ (by simpa using hlt)).1
      · obtain ⟨cs', h1, h2⟩ := hx i hi
        have : ((((List.range (len * s')).map fun i => c.getD (off + i) default).drop (i * s')).take s') = cs' := by
          obtain ⟨_, hlen, hcc⟩ := World.cells?_some h1
          have hle : (i + 1) * s' ≤ len * s' := Nat.mul_le_mul_right _ hi
          rw [Nat.add_mul, Nat.one_mul] at hle
          apply List.ext_getElem?
          intro j
          rw [List.getElem?_take]
          split
          · rename_i hj
            rw [List.getElem?_drop, List.getElem?_map, List.getElem?_range (by omega)]
            have h3 := hcc j hj
            rw [Eng.add_plain, Nat.add_assoc] at h3
            rw [← h3, (hc (i * s' + j) (by omega)).2]
            rfl
          · rw [List.getElem?_eq_none (by omega)]
        rw [this]
        exact ⟨n, _, _, h2, hwe i hi⟩
theorem RdW.struct3 {f0 f1 f2 : Field} {z : Value} {s b : Nat} [ti : TI P t (.struct #[f0, f1, f2]) z s b] (h : RdW enc P W t cs) :
    cs.length = s ∧ RdW enc P W f0.type ((cs.drop f0.offset).take (P.cellsOf f0.type)) ∧ RdW enc P W f1.type ((cs.drop f1.offset).take (P.cellsOf f1.type)) ∧ RdW enc P W f2.type ((cs.drop f2.offset).take (P.cellsOf f2.type)) := by
  obtain ⟨fuel, d, ps, h, hw⟩ := h
  obtain ⟨y0, y1, y2, n, hx, hl, h0, h1, h2⟩ := Deep.trod_struct3 ti.und h
  obtain ⟨rfl, rfl⟩ := Prod.mk.inj hx
  rw [ti.cellsOf] at hl
  have hm : ∀ (j : Nat) (u : TypeId) (y : DataW H), ([f0.type, f1.type, f2.type] : List TypeId)[j]? = some u → ([y0.1, y1.1, y2.1] : List (DataW H))[j]? = some y → ∀ k ∈ y.weights P u, k ≤ reachBytes := fun j u y hu hy k hk => hw k (by
    simp only [DataW.weights, ti.und]
    exact DataW.weights_mem_each (j := j) (by simpa using hu) hy k hk)
  exact ⟨hl, ⟨n, y0.1, y0.2, h0, hm 0 _ _ rfl rfl⟩, ⟨n, y1.1, y1.2, h1, hm 1 _ _ rfl rfl⟩, ⟨n, y2.1, y2.2, h2, hm 2 _ _ rfl rfl⟩⟩
theorem RdW.bytes {e : TypeId} {z z' : Value} {s b : Nat} [ti : TI P t (.slice e) z s b] [te : TI P e (.int .u8) z' 1 1] (h : RdW enc P W t cs) :
    ∃ (A : Option Addr) (len cap : Nat) (bs : List UInt8), cs = [.slice A len cap] ∧ Bytes (memOf W) A len cap bs ∧ len ≤ 140737488355328 := by
  obtain ⟨A, len, cap, bs, rfl, hb⟩ := Rd.bytes (te := te) h.rd
  obtain ⟨A', len', cap', vs, e1, _, hz, _⟩ := RdW.slice (te := te) (by omega) h
  have e2 : len = len' := by simp at e1; exact e1.2.1
  exact ⟨A, len, cap, bs, rfl, hb, by unfold reachBytes at hz; omega⟩
theorem browsW_of {t e : TypeId} {z z' : Value} {s b : Nat} [ti : TI P t (.slice e) z s b] [te : TI P e (.int .u8) z' 1 1] : ∀ (vs : List Value), (∀ i, i < vs.length → RdW enc P W t ((vs.drop i).take 1)) → ∃ bss, BRows (memOf W) vs bss ∧ ∀ b ∈ bss, b.length ≤ 140737488355328
  | [], _ => ⟨[], .nil, fun b hb => by cases hb⟩
  | v :: vs, h => by
    obtain ⟨A, n, c, bs, e1, hb, hn⟩ := RdW.bytes (te := te) (h 0 (by simp))
    obtain ⟨bss, ht, hs⟩ := browsW_of vs (fun i hi => by simpa using h (i + 1) (by simpa using hi))
    have e2 : v = .slice A n c := by simpa using e1
    refine ⟨bs :: bss, by rw [e2]; exact .cons hb ht, fun x hx => ?_⟩
    rcases List.mem_cons.1 hx with rfl | hx
    · have := hb.size; omega
    · exact hs x hx
/-- A row of rows of bytes that came in. -/
theorem RdW.brows {t0 t e : TypeId} {z0 z z' : Value} {s0 b0 b : Nat} {cs : List Value} [t0i : TI P t0 (.slice t) z0 s0 b0] [ti : TI P t (.slice e) z 1 b] [te : TI P e (.int .u8) z' 1 1] (h : RdW enc P W t0 cs) :
    ∃ A len cap vs bss, cs = [.slice A len cap] ∧ Row (memOf W) 1 A len cap vs ∧ BRows (memOf W) vs bss ∧ ∀ b ∈ bss, b.length ≤ 140737488355328 := by
  obtain ⟨A, len, cap, vs, rfl, hr, _, hx⟩ := RdW.slice (te := ti) (by omega) h
  obtain ⟨bss, hb, hs⟩ := browsW_of vs (fun i hi => by
    have := hx i (by have := hr.len; omega)
    simpa using this)
  exact ⟨A, len, cap, vs, bss, rfl, hr, hb, hs⟩
end
end Go.Proofs.YtbjnjedfoiedeaaDoor
set_option linter.unusedVariables false
set_option linter.unusedSimpArgs false
namespace Go.Eng
open Go.ChangeShapes Go.WideShapes Go.ChangeAt Go.RowKit
/-! ### What is listed of package-level variables -/
section
variable {P : Program} {W : World}
theorem laidVars_mem : ∀ {laid : List (String × DataW Unit)} {ps : List MemPlace}, DataW.LaidVars P W laid ps → ∀ {n d}, (n, d) ∈ laid → ∃ g t cs fuel p, P.globalNamed n = some g ∧ (P.globals[g]?).map (·.type) = some t ∧ W.var? P n = some cs ∧ DataW.trod (fun _ => ()) P W 0 (fun _ => true) false fuel t cs.toList = some (d, p)
  | [], _, _, n, d, hm => by cases hm
  | (n0, d0) :: r, ps, h, n, d, hm => by
    obtain ⟨g, t, cs, fuel, p, q, h1, h2, h3, h4, h5, _⟩ := h
    rcases List.mem_cons.1 hm with he | hm
    · cases he; exact ⟨g, t, cs, fuel, p, h1, h2, h3, h4⟩
    · exact laidVars_mem h5 hm
theorem var_heap {n : String} {g : Nat} {cs : Array Value} (hg : P.globalNamed n = some g) (h : W.var? P n = some cs) : ∃ T fr, memOf W g = some (.cells cs T fr) := by
  simp only [World.var?, hg, Option.bind_some] at h
  unfold memOf
  split at h
  · rename_i c t fr hb
    cases h
    exact ⟨t, fr, hb⟩
  · cases h
theorem map_lits {k : IntKind} : ∀ {ns : List Int} {cs : List Value}, cs.length = ns.length → (∀ i, i < ns.length → ∃ x, (cs.drop i).take 1 = [Value.int k x] ∧ ns[i]? = some x) → cs = ns.map (.int k)
  | [], [], _, _ => rfl
  | [], _ :: _, h, _ => by simp at h
  | _ :: _, [], h, _ => by simp at h
  | n :: ns, c :: cs, h, hx => by
    obtain ⟨x, h1, h2⟩ := hx 0 (by simp)
    simp at h1 h2
    have h3 := map_lits (k := k) (ns := ns) (cs := cs) (by simpa using h) (fun i hi => by simpa using hx (i + 1) (by simpa using hi))
    rw [h1, h2, h3]
    rfl
theorem trod_ints {t e : TypeId} {m : Nat} {k : IntKind} {z z' : Value} {s b b' fuel : Nat} [ti : TI P t (.array m e) z s b] [te : TI P e (.int k) z' 1 b'] {ns : List Int} {cs : List Value} {p : List MemPlace} {sp : Nat → Bool} {held : Bool} {enc : TypeId × Value → Unit}
    (h : DataW.trod enc P W 0 sp held fuel t cs = some (.agg (ns.map fun x => .lit (.int k x)), p)) (hs : s = m) : cs = ns.map (.int k) := by
  obtain ⟨xs, m', rfl, hx, hl, hn, hel⟩ := DataW.trod_array ti.und h
  rw [ti.cellsOf, hs] at hl
  simp only [Prod.mk.injEq, DataW.agg.injEq] at hx
  have hln : ns.length = m := by rw [← hn]; simpa using congrArg List.length hx.1
  refine map_lits (by omega) (fun i hi => ?_)
  have h1 := hel i (by omega)
  rw [te.cellsOf, Nat.mul_one] at h1
  rw [List.getElem?_eq_getElem (show i < xs.length by omega)] at h1
  obtain ⟨x, e1, e2, _⟩ := DataW.trod_int te.und h1
  refine ⟨x, e1, ?_⟩
  have h2 := congrArg (fun l => l[i]?) hx.1
  simp only [List.getElem?_map] at h2
  rw [List.getElem?_eq_getElem (show i < xs.length by omega), List.getElem?_eq_getElem hi] at h2
  simp only [Option.map_some, Option.some.injEq, e2, DataW.lit.injEq, Lit.int.injEq, true_and] at h2
  rw [List.getElem?_eq_getElem hi, h2]
theorem laid_ints {laid : List (String × DataW Unit)} (h : laidMet P laid W) {n : String} {g : Nat} {t e : TypeId} {m : Nat} {k : IntKind} {z z' : Value} {s b b' : Nat} (ns : List Int) (hm : (n, DataW.agg (ns.map fun x => .lit (.int k x))) ∈ laid) (hg : P.globalNamed n = some g)
    (ht : (P.globals[g]?).map (·.type) = some t) (ti : TI P t (.array m e) z s b) (te : TI P e (.int k) z' 1 b') (hs : s = m) : ∃ T fr, memOf W g = some (.cells (ns.map (.int k)).toArray T fr) := by
  obtain ⟨ps, hv, _⟩ := h
  obtain ⟨g', t', cs, fuel, p, h1, h2, h3, h4⟩ := laidVars_mem hv hm
  obtain rfl := Option.some.inj (hg.symm.trans h1)
  obtain rfl := Option.some.inj (ht.symm.trans h2)
  obtain ⟨T, fr, hh⟩ := var_heap hg h3
  have := trod_ints h4 hs
  refine ⟨T, fr, ?_⟩
  rw [hh, ← this]
theorem brows_of {H : Type} {enc : TypeId × Value → H} {t e : TypeId} {z z' : Value} {s b b' : Nat} [ti : TI P t (.slice e) z s b] [te : TI P e (.int .u8) z' 1 b'] : ∀ (vs : List Value), (∀ i, i < vs.length → Rd enc P W t ((vs.drop i).take 1)) → ∃ bss, BRows (memOf W) vs bss
  | [], _ => ⟨[], .nil⟩
  | v :: vs, h => by
    obtain ⟨A, n, c, bs, e1, hb⟩ := (h 0 (by simp)).bytes
    obtain ⟨bss, ht⟩ := brows_of vs (fun i hi => by simpa using h (i + 1) (by simpa using hi))
    have e2 : v = .slice A n c := by simpa using e1
    exact ⟨bs :: bss, by rw [e2]; exact .cons hb ht⟩
/-- A row of rows of bytes that came in. -/
theorem Rd.brows {H : Type} {enc : TypeId × Value → H} {t0 t e : TypeId} {z0 z z' : Value} {s0 b0 b b' : Nat} {cs : List Value} [t0i : TI P t0 (.slice t) z0 s0 b0] [ti : TI P t (.slice e) z 1 b] [te : TI P e (.int .u8) z' 1 b'] (h : Rd enc P W t0 cs) :
    ∃ A len cap vs bss, cs = [.slice A len cap] ∧ Row (memOf W) 1 A len cap vs ∧ BRows (memOf W) vs bss := by
  obtain ⟨A, len, cap, vs, rfl, hr, hx⟩ := h.slice (by omega)
  obtain ⟨bss, hb⟩ := brows_of vs (fun i hi => by
    have := hx i (by have := hr.len; omega)
    simpa using this)
  exact ⟨A, len, cap, vs, bss, rfl, hr, hb⟩
end
end Go.Eng
set_option linter.unusedVariables false
namespace Go.Proofs.YtbjnjedfoiedeaaDoor
open Go Go.Eng Go.ChangeShapes Go.WideShapes Go.ChangeAt Go.RowKit
section
variable {W : World}
/-- From the listed variables: the constants of SHA-256. -/
theorem shaG_of {laid : List (String × DataW Unit)} (h : laidMet Tryd.prog laid W) (h1 : ("tearoff/sha2.k", Rows.laid_tearoff_sha2_k) ∈ laid) (h2 : ("tearoff/sha2.first", Rows.laid_tearoff_sha2_first) ∈ laid) : ShaG (memOf W) := by
  refine ⟨?_, ?_⟩
  · obtain ⟨T, fr, hc⟩ := laid_ints h (kT.map fun x => (x.toNat : Int)) h1 (show Tryd.prog.globalNamed "tearoff/sha2.k" = some 7 by kernel_rfl) (show (Tryd.prog.globals[7]?).map (·.type) = some 169 by kernel_rfl) ti169 ti28 rfl
    refine ⟨_, T, fr, hc, fun j hj => ?_⟩
    rw [List.getElem?_toArray, List.map_map]
    exact get_u32' kT j hj
  · obtain ⟨T, fr, hc⟩ := laid_ints h (H8.init.list.map fun x => (x.toNat : Int)) h2 (show Tryd.prog.globalNamed "tearoff/sha2.first" = some 6 by kernel_rfl) (show (Tryd.prog.globals[6]?).map (·.type) = some 155 by kernel_rfl) ti155 ti28 rfl
    exact ⟨T, fr, hc⟩
end
end Go.Proofs.YtbjnjedfoiedeaaDoor
set_option linter.unusedVariables false
set_option linter.unusedSimpArgs false
set_option linter.constructorNameAsVariable false
namespace Go.Proofs.YtbjnjedfoiedeaaDoor
open Go Go.Eng
theorem bytes3 (i j : Nat) (hi : i ≤ 65535) (hj : j ≤ 255) : [UInt8.ofInt ((i : Int) / 256), UInt8.ofInt ((i : Int) % 256), UInt8.ofInt (j : Int)] = putB i 2 ++ putB j 1 := by
  have e : ∀ v : Nat, UInt8.ofInt (v : Int) = UInt8.ofNat v := fun v => by
    apply UInt8.toNat_inj.1
    show (UInt8.ofNat ((v : Int) % 256).toNat).toNat = _
    rw [UInt8.toNat_ofNat', UInt8.toNat_ofNat']; omega
  rw [show (i : Int) / 256 = ((i / 256 : Nat) : Int) by omega, show (i : Int) % 256 = ((i % 256 : Nat) : Int) by omega, e, e, e]
  simp only [putB, List.nil_append, List.cons_append]
  rw [show i / 256 % 256 = i / 256 by omega, show j % 256 = j by omega]
section
variable {G : World} {M : Mem} {L : Own}
theorem RStep_spec9 (o : OtsV) {NA XA : Option Addr} {nl nc xl xc : Nat} {name x : List UInt8} (hname : Bytes M NA nl nc name) (hx : Bytes M XA xl xc x) (q : UInt32) (i j : Int) :
    Con Tryd.prog 108 #[.agg (List.toArray o.cells), .slice NA nl nc, .int .u32 (q.toNat : Int), .int .i64 i, .int .i64 j, .slice XA xl xc] G M L (fun v M' L' => L = L' ∧ ∃ A' m' c', v = .slice A' m' c' ∧ Bytes M' A' m' c' (cStep o name q.toNat i j x)) noPanic := by
  have hnls := hname.size
  have hxls := hx.size
  have hq := q.toNat_lt
  refine enter (args := [_, _, _, _, _, _]) (fn := Tryd.f108) ⟨Tryd.func108, rfl, by kernel_rfl, by kernel_rfl⟩ 48 rfl ?_
  refine x_seq (x_region ?_)
  refine tl_e rfl (e_box rfl (fun b1 => ?_))
  refine tl_y rfl (y_assign rfl) ?_
  refine tl_nil (.then_normal ?_)
  refine x_seq ?_
  refine x_join (I := fun F D M1 L1 => ∃ t : Bool, (t = true ↔ ¬ (okR o nl i xl ∧ 0 ≤ j ∧ j ≤ 255)) ∧ D = [] ∧ M = M1 ∧ (b1, .cells (List.toArray o.cells) 62 (0, 0)) :: L = L1 ∧ F = [(1, .slice NA nl nc), (2, .int .u32 (q.toNat : Int)), (3, .int .i64 i), (4, .int .i64 j), (5, .slice XA xl xc), (6, .pointer (some ⟨b1, 0, none⟩)), (26, .bool t)]) ?_ (fun Jq1 => ?_)
  ·
    rintro _ _ _ _ ⟨t, ht, rfl, rfl, rfl, rfl⟩  -- slots [1, 2, 3, 4, 5, 6, 26]
    refine x_condb rfl (fun hc1 => ?_) (fun hc1 => ?_)
    ·
      refine x_seq (x_region ?_)
      refine tl_y rfl (y_assign rfl) ?_
      refine tl_nil (.then_normal ?_)
      refine .sub (F' := [(12, _)]) (.cons rfl .nil) ?_
      refine x_ret (.then_ret (.dropTo L inferInstance (ret1 rfl rfl (Le.refl _) ⟨rfl, _, _, _, rfl, by rw [cStep, hnls, hxls, if_neg (ht.1 hc1)]; exact Row.nil _ _⟩)))
    ·
      have hok : okR o nl i xl ∧ 0 ≤ j ∧ j ≤ 255 := Classical.not_not.1 fun h => by rw [ht.2 h] at hc1; cases hc1
      obtain ⟨hoc, hop, w, hw, hww⟩ := okR_facts hok.1
      have hob : nl = 16 ∧ 0 ≤ i ∧ i < o.p ∧ (xl : Int) = o.n := hok.1.2.2
      have hon : o.n = 24 ∨ o.n = 32 := hoc.2
      obtain ⟨i', rfl⟩ : ∃ i' : Nat, i = i' := ⟨i.toNat, by omega⟩
      obtain ⟨j', rfl⟩ : ∃ j' : Nat, j = j' := ⟨j.toNat, by omega⟩
      have hb3 := bytes3 i' j' (by omega) (by omega)
      have hfl : [name, putB q.toNat 4, putB i' 2 ++ putB j' 1, x].flatten = stepT name q.toNat i' j' x := by simp [stepT]
      have hfll : (stepT name q.toNat i' j' x).length = nl + 7 + xl := by
        rw [stepT, List.length_append, List.length_append, List.length_append, List.length_append, putB_length, putB_length, putB_length]; omega
      refine x_skip (.then_normal ?_)
      refine x_seq ?_
      refine x_draw 22 hmix rfl ?_
      refine to_p 0 rfl (by kernel_rfl) rfl (y_fieldAddr rfl) ?_
      refine to_y 1 rfl (by kernel_rfl) rfl (y_load rfl rfl (.own inferInstance inferInstance)) ?_
      refine to_p 2 rfl (by kernel_rfl) rfl (y_fieldAddr rfl) ?_
      refine to_y 3 rfl (by kernel_rfl) rfl (y_load rfl rfl (.own inferInstance inferInstance)) ?_
      refine to_p 4 rfl (by kernel_rfl) rfl (y_move (v := .slice _ _ _) rfl) ?_
      refine to_p 5 rfl (by kernel_rfl) rfl (y_move (v := .int _ _) rfl) ?_
      refine to_p 6 rfl (by kernel_rfl) rfl (y_convN64 rfl (by omega)) ?_
      refine to_p 8 rfl (by kernel_rfl) rfl (y_move (v := .int _ _) rfl) ?_
      refine to_p 9 rfl (by kernel_rfl) rfl (y_quoI rfl rfl (by omega)) ?_
      refine to_p 10 rfl (by kernel_rfl) rfl (y_of8 rfl) ?_
      refine to_p 11 rfl (by kernel_rfl) rfl (y_move (v := .int _ _) rfl) ?_
      refine to_p 12 rfl (by kernel_rfl) rfl (y_remI rfl rfl (by omega)) ?_
      refine to_p 13 rfl (by kernel_rfl) rfl (y_of8 rfl) ?_
      refine to_p 14 rfl (by kernel_rfl) rfl (y_move (v := .int _ _) rfl) ?_
      refine to_p 15 rfl (by kernel_rfl) rfl (y_of8 rfl) ?_
      refine to_p 17 rfl (by kernel_rfl) rfl (y_move (v := .slice _ _ _) rfl) ?_
      refine to_two 7 16 (by kernel_rfl) ?_ ?_
      ·
        refine two_e 7 rfl rfl (e_call' rfl (RPutV_spec q.toNat 4 (by omega) (by omega)) ?_)
        rintro _ M1 _ hM1 ⟨rfl, A1, c1, rfl, hA1⟩
        refine ⟨⟨(by first | exact Le.refl _ | assumption), Keeps.mem⟩, ?_⟩
        refine to_e 16 rfl (by kernel_rfl) rfl (e_buildSlice rfl (by decide) (fun bb => ?_))
        refine ⟨⟨hM1, Keeps.mem⟩, ?_⟩
        refine .pub bb inferInstance (fun M2 hM2 hbb => ?_)
        have hB : Bytes M2 (some ⟨bb, 0, none⟩) 3 3 (putB i' 2 ++ putB j' 1) := by rw [← hb3]; exact Row.whole hbb rfl (by omega)
        have hm2 := hM1.trans hM2
        replace hA1 := hA1.mono hM2
        refine to_e 18 rfl (by kernel_rfl) rfl (e_buildSlice rfl (by decide) (fun bc => ?_))
        refine ⟨⟨hm2, Keeps.mem⟩, ?_⟩
        refine .pub bc inferInstance (fun M3 hM3 hbc => ?_)
        have hm3 := hm2.trans hM3
        refine to_e 19 rfl (by kernel_rfl) rfl (e_call' rfl (RCat_own (Row.whole hbc rfl (by omega)) (.cons (hname.mono hm3) (.cons (hA1.mono hM3) (.cons (hB.mono hM3) (.cons (hx.mono hm3) .nil)))) (by rw [hfl, hfll]; omega)) ?_)
        rintro _ _ _ _ ⟨rfl, A4, c4, E4, rfl, hE4, rfl⟩
        rw [hfl, hfll] at hE4
        rw [hfl, hfll]
        refine ⟨⟨hm3, Keeps.mem⟩, ?_⟩
        refine to_e 20 rfl (by kernel_rfl) rfl (e_call' rfl (RSum_spec o.kind o.n (hE4.in_ inferInstance (by omega)) (by omega)) ?_)
        rintro _ M5 _ hM5 ⟨rfl, A5, m5, c5, rfl, hA5⟩
        refine ⟨⟨hm3.trans hM5, Keeps.mem⟩, ?_⟩
        refine to_p 21 rfl (by kernel_rfl) rfl (y_assign (v := .slice _ _ _) rfl) ?_
        refine to_nil (by kernel_rfl) (.then_normal ?_)
        refine .sub (F' := [(12, _)]) (.cons rfl .nil) ?_
        refine x_ret (.dropTo L inferInstance (ret1 rfl rfl (hm3.trans hM5) ⟨rfl, _, _, _, rfl, by rw [cStep, hnls, hxls, if_pos hok]; rw [cSum, if_pos hoc] at hA5; exact hA5⟩))
      ·
        refine two_e 16 rfl rfl (e_buildSlice rfl (by decide) (fun bb => ?_))
        refine ⟨⟨Le.refl _, Keeps.mem⟩, ?_⟩
        refine .pub bb inferInstance (fun M2 hM2 hbb => ?_)
        have hB : Bytes M2 (some ⟨bb, 0, none⟩) 3 3 (putB i' 2 ++ putB j' 1) := by rw [← hb3]; exact Row.whole hbb rfl (by omega)
        refine to_e 7 rfl (by kernel_rfl) rfl (e_call' rfl (RPutV_spec q.toNat 4 (by omega) (by omega)) ?_)
        rintro _ M1 _ hM1 ⟨rfl, A1, c1, rfl, hA1⟩
        refine ⟨⟨hM2.trans hM1, Keeps.mem⟩, ?_⟩
        have hm2 := hM2.trans hM1
        replace hB := hB.mono hM1
        refine to_e 18 rfl (by kernel_rfl) rfl (e_buildSlice rfl (by decide) (fun bc => ?_))
        refine ⟨⟨hm2, Keeps.mem⟩, ?_⟩
        refine .pub bc inferInstance (fun M3 hM3 hbc => ?_)
        have hm3 := hm2.trans hM3
        refine to_e 19 rfl (by kernel_rfl) rfl (e_call' rfl (RCat_own (Row.whole hbc rfl (by omega)) (.cons (hname.mono hm3) (.cons (hA1.mono hM3) (.cons (hB.mono hM3) (.cons (hx.mono hm3) .nil)))) (by rw [hfl, hfll]; omega)) ?_)
        rintro _ _ _ _ ⟨rfl, A4, c4, E4, rfl, hE4, rfl⟩
        rw [hfl, hfll] at hE4
        rw [hfl, hfll]
        refine ⟨⟨hm3, Keeps.mem⟩, ?_⟩
        refine to_e 20 rfl (by kernel_rfl) rfl (e_call' rfl (RSum_spec o.kind o.n (hE4.in_ inferInstance (by omega)) (by omega)) ?_)
        rintro _ M5 _ hM5 ⟨rfl, A5, m5, c5, rfl, hA5⟩
        refine ⟨⟨hm3.trans hM5, Keeps.mem⟩, ?_⟩
        refine to_p 21 rfl (by kernel_rfl) rfl (y_assign (v := .slice _ _ _) rfl) ?_
        refine to_nil (by kernel_rfl) (.then_normal ?_)
        refine .sub (F' := [(12, _)]) (.cons rfl .nil) ?_
        refine x_ret (.dropTo L inferInstance (ret1 rfl rfl (hm3.trans hM5) ⟨rfl, _, _, _, rfl, by rw [cStep, hnls, hxls, if_pos hok]; rw [cSum, if_pos hoc] at hA5; exact hA5⟩))
  ·
    refine x_region ?_
    refine tl_y rfl (y_loadAgg rfl rfl (.own inferInstance inferInstance)) ?_
    refine tl_y rfl (y_move (v := .slice _ _ _) rfl) ?_
    refine tl_y rfl (y_move (v := .int _ _) rfl) ?_
    refine tl_y rfl (y_move (v := .slice _ _ _) rfl) ?_
    refine tl_e rfl (e_call' rfl (RRight_spec o i) ?_)
    rintro _ _ _ _ ⟨rfl, rfl, rfl⟩
    refine tl_y rfl (y_notd rfl) ?_
    refine tl_y rfl (y_move (v := .bool _) rfl) ?_
    refine tl_cases (s := 19) rfl (fun hk1 => ?_) (fun hk1 => ?_)
    ·
      refine tl_skip rfl ?_
      refine tl_skip rfl ?_
      refine tl_y rfl (y_pickT rfl rfl) ?_
      refine tl_y rfl (y_move (v := .bool _) rfl) ?_
      refine tl_skip rfl ?_
      refine tl_skip rfl ?_
      refine tl_y rfl (y_pickT rfl rfl) ?_
      refine tl_nil (.then_normal (.sub (F' := [(1, _), (2, _), (3, _), (4, _), (5, _), (6, _), (26, _)]) (.cons rfl (.cons rfl (.cons rfl (.cons rfl (.cons rfl (.cons rfl (.cons rfl .nil))))))) (Jq1 _ _ _ _ ?_)))
      exact ⟨_, by
        constructor
        · intro ht
          first | exact fun h => hk1 h.1 | (simp at ht; exact fun h => by omega)
        · intro hno
          first | rfl | (simp; exact Int.not_le.1 fun h => hno ⟨Classical.not_not.1 hk1, by omega, h⟩) | (simp; omega), rfl, rfl, rfl, rfl⟩
    ·
      refine tl_y rfl (y_move (v := .int _ _) rfl) ?_
      refine tl_y rfl (y_lss rfl rfl) ?_
      refine tl_y rfl (y_pickF rfl rfl) ?_
      refine tl_y rfl (y_move (v := .bool _) rfl) ?_
      refine tl_cases (s := 23) rfl (fun hk2 => ?_) (fun hk2 => ?_)
      ·
        refine tl_skip rfl ?_
        refine tl_skip rfl ?_
        refine tl_y rfl (y_pickT rfl rfl) ?_
        refine tl_nil (.then_normal (.sub (F' := [(1, _), (2, _), (3, _), (4, _), (5, _), (6, _), (26, _)]) (.cons rfl (.cons rfl (.cons rfl (.cons rfl (.cons rfl (.cons rfl (.cons rfl .nil))))))) (Jq1 _ _ _ _ ?_)))
        exact ⟨_, by
          constructor
          · intro ht
            first | exact fun h => hk1 h.1 | (simp at ht; exact fun h => by omega)
          · intro hno
            first | rfl | (simp; exact Int.not_le.1 fun h => hno ⟨Classical.not_not.1 hk1, by omega, h⟩) | (simp; omega), rfl, rfl, rfl, rfl⟩
      ·
        refine tl_y rfl (y_move (v := .int _ _) rfl) ?_
        refine tl_y rfl (y_gtr rfl rfl) ?_
        refine tl_y rfl (y_pickF rfl rfl) ?_
        refine tl_nil (.then_normal (.sub (F' := [(1, _), (2, _), (3, _), (4, _), (5, _), (6, _), (26, _)]) (.cons rfl (.cons rfl (.cons rfl (.cons rfl (.cons rfl (.cons rfl (.cons rfl .nil))))))) (Jq1 _ _ _ _ ?_)))
        exact ⟨_, by
          constructor
          · intro ht
            first | exact fun h => hk1 h.1 | (simp at ht; exact fun h => by omega)
          · intro hno
            first | rfl | (simp; exact Int.not_le.1 fun h => hno ⟨Classical.not_not.1 hk1, by omega, h⟩) | (simp; omega), rfl, rfl, rfl, rfl⟩
end
end Go.Proofs.YtbjnjedfoiedeaaDoor
