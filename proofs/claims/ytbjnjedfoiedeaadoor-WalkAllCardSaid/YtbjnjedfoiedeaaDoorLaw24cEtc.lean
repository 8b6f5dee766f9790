/-
Contracts of functions, each proved by a walk through its code.
-/
import Derived.Test.YtbjnjedfoiedeaaDoorLaw24aEtc
set_option linter.unusedVariables false
set_option linter.unusedSimpArgs false
set_option linter.constructorNameAsVariable false
namespace Go.Proofs.YtbjnjedfoiedeaaDoor
open Go Go.Eng
section
variable {G : World} {M : Mem} {L : Own}
theorem WalkAgain_spec (hg : WkG M) (code : UInt8) {NA : Option Addr} {nl nc : Nat} {name : List UInt8} (hname : Bytes M NA nl nc name) {WA : Option Addr} {wl wc : Nat} {wvs : List Value} {keys : List (List UInt8)} (h : Row M 1 WA wl wc wvs) (hw : BRows M wvs keys) (skip : UInt8) :
    Con Tryd.prog 6 #[.agg (List.toArray [.int .u8 (code.toNat : Int), .slice NA nl nc, .slice WA wl wc]), .int .u8 (skip.toNat : Int)] G M L (fun v M' L' => v = .bool true) noPanic := by
  have hskl := skip.toNat_lt
  refine enter (args := [_, _]) (fn := Tryd.f6) ⟨Tryd.func6, rfl, by kernel_rfl, by kernel_rfl⟩ 146 rfl ?_
  refine x_seq (x_region ?_)
  refine tl_e rfl (e_box rfl (fun b1 => ?_))
  refine tl_y rfl (y_assign rfl) ?_
  refine tl_nil (.then_normal ?_)
  refine x_seq (x_seq (x_region ?_))
  refine tl_e rfl (e_call' rfl (awake24_spec hg) ?_)
  rintro _ M1 _ hM1 ⟨rfl, rfl⟩
  have hm := hM1
  refine tl_y rfl (y_not rfl) ?_
  refine tl_nil (.then_normal ?_)
  refine x_false rfl (rfl) ?_
  refine x_skip (.then_normal ?_)
  refine .sub (F' := [(1, _), (2, _)]) (.cons rfl (.cons rfl .nil)) ?_
  refine x_seq (x_region ?_)
  refine tl_y rfl (y_loadAgg rfl rfl (.own inferInstance inferInstance)) ?_
  refine tl_e rfl (e_call' rfl (wset_spec code (hname.mono hm) (h.mono hm) (hw.mono hm)) ?_)
  rintro _ _ _ _ ⟨rfl, rfl, t, ok, A1, n1, c1, A2, n2, c2, rfl, hset⟩
  refine tl_y rfl (y_move (v := .tuple _) rfl) ?_
  refine tl_y rfl (y_extract rfl) ?_
  refine tl_y rfl (y_extract rfl) ?_
  refine tl_y rfl (y_extract rfl) ?_
  refine tl_y rfl (y_extract rfl) ?_
  refine tl_e rfl (e_alloc (fun b2 => ?_))
  refine tl_e rfl (e_store rfl rfl (by rfl) (by rfl) inferInstance inferInstance inferInstance ?_)
  refine tl_y rfl (y_assign (v := .slice _ _ _) rfl) ?_
  refine tl_y rfl (y_assign (v := .slice _ _ _) rfl) ?_
  refine tl_y rfl (y_assign (v := .bool _) rfl) ?_
  refine tl_nil (.then_normal ?_)
  refine .sub (F' := [(1, _), (5, _), (6, _), (7, _), (8, _)]) (.cons rfl (.cons rfl (.cons rfl (.cons rfl (.cons rfl .nil))))) ?_
  refine x_seq (x_seq (x_region ?_))
  refine tl_y rfl (y_move (v := .bool _) rfl) ?_
  refine tl_y rfl (y_not rfl) ?_
  refine tl_nil (.then_normal ?_)
  refine x_condb rfl (fun hc2 => ?_) (fun hc2 => ?_)
  ·
    refine x_seq (x_region ?_)
    refine tl_y rfl (y_assign rfl) ?_
    refine tl_nil (.then_normal ?_)
    refine .sub (F' := [(4, _)]) (.cons rfl .nil) ?_
    refine x_ret (.then_ret (ret1 rfl rfl hm rfl))
  ·
    obtain rfl : ok = true := by simpa using hc2
    obtain ⟨H, nm, vs2, ks, hok, hH, hH1, hH4, rfl, rfl, hn1, hr2, hb2, hle2⟩ := hset rfl
    obtain ⟨hokc, H', hH', _, _, hlv⟩ := okS_facts hok
    obtain rfl : H = H' := by omega
    have hokM : okM t 16 (pw2 H) := ⟨hok, by omega, hlv.symm⟩
    have hks : ∀ b ∈ ks, b.length ≤ 1000000000000 := fun b hb => Nat.le_trans (hle2 b hb) (by omega)
    have hp4 := pw2_le (j := H) (k := 4) (by omega)
    rw [show pw2 4 = 16 from rfl] at hp4
    have hp1 := pw2_pos H
    refine x_skip (.then_normal ?_)
    refine x_seq (x_region ?_)
    refine tl_y rfl (y_loadAgg rfl rfl (.own inferInstance inferInstance)) ?_
    refine tl_y rfl (y_move (v := .slice _ _ _) rfl) ?_
    refine tl_y rfl (y_move (v := .slice _ _ _) rfl) ?_
    refine tl_e rfl (e_call' rfl (WNew_spec (hg.mono hm) t hn1 (Row.in_ hr2) (brows_in hb2) (by omega) hks) ?_)
    rintro _ M2 _ hM2 h7
    rw [if_pos hokM] at h7
    obtain ⟨w, Ea, rfl, hWa, rfl⟩ := h7
    rw [hH, Int.toNat_natCast] at hWa
    replace hm := hm.trans hM2
    have he := hM2
    refine tl_y rfl (y_move (v := .tuple _) rfl) ?_
    refine tl_y rfl (y_extract rfl) ?_
    refine tl_y rfl (y_extract rfl) ?_
    refine tl_y rfl (y_assign (v := .pointer _) rfl) ?_
    refine tl_y rfl (y_assign (v := .int _ _) rfl) ?_
    refine tl_nil (.then_normal ?_)
    refine .sub (F' := [(1, _), (5, _), (6, _), (7, _), (9, _)]) (.cons rfl (.cons rfl (.cons rfl (.cons rfl (.cons rfl .nil))))) ?_
    refine x_seq (x_region ?_)
    refine tl_y rfl (y_loadAgg rfl rfl (.own inferInstance inferInstance)) ?_
    refine tl_y rfl (y_move (v := .slice _ _ _) rfl) ?_
    refine tl_y rfl (y_move (v := .slice _ _ _) rfl) ?_
    refine tl_e rfl (e_call' rfl (WNew_spec (hg.mono hm) t (hn1.mono he) (Row.in_ (hr2.mono he)) (brows_in (hb2.mono he)) (by omega) hks) ?_)
    rintro _ M3 _ hM3 h8
    rw [if_pos hokM] at h8
    obtain ⟨x, Eb, rfl, hWb, rfl⟩ := h8
    rw [hH, Int.toNat_natCast] at hWb
    replace hm := hm.trans hM3
    replace he := he.trans hM3
    replace hWa := hWa.mono hM3
    refine tl_y rfl (y_move (v := .tuple _) rfl) ?_
    refine tl_y rfl (y_extract rfl) ?_
    refine tl_y rfl (y_extract rfl) ?_
    refine tl_y rfl (y_assign (v := .pointer _) rfl) ?_
    refine tl_y rfl (y_assign (v := .int _ _) rfl) ?_
    refine tl_nil (.then_normal ?_)
    refine .sub (F' := [(1, _), (5, _), (6, _), (7, _), (9, _), (11, _)]) (.cons rfl (.cons rfl (.cons rfl (.cons rfl (.cons rfl (.cons rfl .nil)))))) ?_
    refine x_seq (x_seq (x_region ?_))
    refine tl_y rfl (y_move (v := .pointer _) rfl) ?_
    refine tl_y rfl (y_eqNilPtr rfl rfl) ?_
    refine tl_y rfl (y_move (v := .bool _) rfl) ?_
    refine tl_set (s := 52) (u := .bool false) rfl (rfl) ?_
    refine tl_y rfl (y_move (v := .pointer _) rfl) ?_
    refine tl_y rfl (y_eqNilPtr rfl rfl) ?_
    refine tl_y rfl (y_pickF rfl rfl) ?_
    refine tl_nil (.then_normal ?_)
    refine .sub (F' := [(1, _), (5, _), (6, _), (7, _), (9, _), (11, _), (55, _)]) (.cons rfl (.cons rfl (.cons rfl (.cons rfl (.cons rfl (.cons rfl (.cons rfl .nil))))))) ?_
    refine x_false rfl (rfl) ?_
    refine x_skip (.then_normal ?_)
    refine x_seq (x_region ?_)
    refine tl_y rfl (y_move (v := .int _ _) rfl) ?_
    refine tl_y rfl (y_convI rfl (by omega)) ?_
    refine tl_y rfl (y_move (v := .slice _ _ _) rfl) ?_
    refine tl_y rfl (y_len rfl) ?_
    refine tl_y rfl (y_remI rfl rfl (by omega)) ?_
    rw [show (skip.toNat : Int) % ((pw2 H : Nat) : Int) = ((skip.toNat % pw2 H : Nat) : Int) by omega]
    obtain ⟨n, hn⟩ : ∃ n, n = skip.toNat % pw2 H := ⟨_, rfl⟩
    have hnl : n < pw2 H := by rw [hn]; exact Nat.mod_lt _ hp1
    rw [← hn]
    refine .to (Ea ++ (Eb ++ lawL b1 b2 code NA nl nc WA wl wc t L)) inferInstance ?_
    refine tl_y rfl (y_assign (v := .int _ _) rfl) ?_
    refine tl_nil (.then_normal ?_)
    refine .sub (F' := [(5, _), (6, _), (7, _), (9, _), (11, _), (13, _)]) (.cons rfl (.cons rfl (.cons rfl (.cons rfl (.cons rfl (.cons rfl .nil)))))) ?_
    refine x_seq (x_seq (x_region ?_))
    refine tl_y rfl (y_assign rfl) ?_
    refine tl_nil (.then_normal ?_)
    refine x_block ?_
    refine x_loop (I := fun m' F D M4 L4 => ∃ (i : Nat) (E : Own), m' = n - i ∧ i ≤ n ∧ Le M3 M4 ∧ WalkS M4 t H nm ks w i E ∧ D = [] ∧ L4 = E ++ (Eb ++ lawL b1 b2 code NA nl nc WA wl wc t L) ∧ F = [(5, .pointer (some ⟨b2, 0, none⟩)), (6, .slice A1 16 c1), (7, .slice A2 (pw2 H) c2), (9, .pointer (some ⟨w, 0, none⟩)), (11, .pointer (some ⟨x, 0, none⟩)), (13, .int .i64 (n : Int)), (14, .int .i64 (i : Int))]) (n) (F0 := [(5, _), (6, _), (7, _), (9, _), (11, _), (13, _), (14, _)]) ?_ (.cons rfl (.cons rfl (.cons rfl (.cons rfl (.cons rfl (.cons rfl (.cons rfl .nil))))))) ?_  -- slots [5, 6, 7, 9, 11, 13, 14], written [14]
    · exact ⟨0, Ea, rfl, by omega, Le.refl _, hWa, rfl, rfl, rfl⟩
    rintro m _ _ M4 _ ⟨i, E, rfl, hi, he4, hWi, rfl, rfl, rfl⟩
    have hm4 := hm.trans he4
    refine x_seq (x_seq (x_region ?_))
    refine tl_y rfl (y_move (v := .int _ _) rfl) ?_
    refine tl_y rfl (y_move (v := .int _ _) rfl) ?_
    refine tl_y rfl (y_lss rfl rfl) ?_
    refine tl_nil (.then_normal ?_)
    refine x_cond rfl (fun hc4 => ?_) (fun hc4 => ?_)
    ·
      refine x_skip (.then_normal ?_)
      refine x_seq ?_
      refine x_block ?_
      refine x_region ?_
      refine tl_y rfl (y_move (v := .pointer _) rfl) ?_
      refine tl_e rfl (e_call' rfl (Next_spec (hg.mono hm4) hH (by omega) hks (by omega) hWi) ?_)
      rintro v6 M6 L6 hM6 h6
      rw [if_pos (by omega)] at h6
      obtain ⟨A6, c6, vs6, E6, F6, E8, rfl, _, _, hW8, rfl⟩ := h6
      refine .dropTo (E8 ++ (Eb ++ lawL b1 b2 code NA nl nc WA wl wc t L)) inferInstance ?_
      refine tl_nil (.block_normal (.then_normal ?_))
      refine .sub (F' := [(5, _), (6, _), (7, _), (9, _), (11, _), (13, _), (14, _)]) (.cons rfl (.cons rfl (.cons rfl (.cons rfl (.cons rfl (.cons rfl (.cons rfl .nil))))))) ?_
      refine x_region ?_
      refine tl_y rfl (y_move (v := .int _ _) rfl) ?_
      refine tl_y rfl (y_addI rfl rfl (by omega)) ?_
      refine tl_y rfl (y_assign (v := .int _ _) rfl) ?_
      refine tl_nil (.loop_next (m' := n - (i + 1)) (by omega) (F' := [(5, _), (6, _), (7, _), (9, _), (11, _), (13, _), (14, _)]) (.cons rfl (.cons rfl (.cons rfl (.cons rfl (.cons rfl (.cons rfl (.cons rfl .nil))))))) ?_)
      exact ⟨i + 1, E8, rfl, by omega, he4.trans hM6, hW8, rfl, rfl, rfl⟩
    ·
      obtain rfl : i = n := by omega
      refine .to (Eb ++ (E ++ lawL b1 b2 code NA nl nc WA wl wc t L)) inferInstance ?_
      have he4' := he.trans he4
      refine x_exit (.then_exit (.loop_exit (.block_exit (.then_normal ?_))))
      refine .sub (F' := [(5, _), (6, _), (7, _), (9, _), (11, _), (13, _)]) (.cons rfl (.cons rfl (.cons rfl (.cons rfl (.cons rfl (.cons rfl .nil)))))) ?_
      refine x_seq (x_seq (x_region ?_))
      refine tl_y rfl (y_move (v := .pointer _) rfl) ?_
      refine tl_y rfl (y_move (v := .int _ _) rfl) ?_
      refine tl_e rfl (e_call' rfl (Skip_spec (hg.mono hm4) hH (by omega) hks (Nat.zero_le _) (hWb.mono he4) i (by omega)) ?_)
      rintro _ M5 _ hM5 ⟨rfl, Eb5, rfl, hWb5⟩
      rw [show min ((i : Nat) : Int).toNat (pw2 H - 0) = i by omega] at hWb5 ⊢
      rw [Nat.zero_add] at hWb5
      replace hWi := hWi.mono hM5
      replace hm4 := hm4.trans hM5
      replace he4' := he4'.trans hM5
      refine .to (E ++ (Eb5 ++ lawL b1 b2 code NA nl nc WA wl wc t L)) inferInstance ?_
      refine tl_y rfl (y_move (v := .int _ _) rfl) ?_
      refine tl_y rfl (y_neq rfl rfl) ?_
      refine tl_y rfl (y_move (v := .bool _) rfl) ?_
      refine tl_set (s := 73) (u := .bool false) rfl (by simp) ?_
      refine tl_y rfl (y_move (v := .pointer _) rfl) ?_
      refine tl_e rfl (e_call' rfl (Made_spec hWi) ?_)
      rintro _ _ _ _ ⟨rfl, rfl, rfl⟩
      refine .to (Eb5 ++ (E ++ lawL b1 b2 code NA nl nc WA wl wc t L)) inferInstance ?_
      refine tl_y rfl (y_move (v := .pointer _) rfl) ?_
      refine tl_e rfl (e_call' rfl (Made_spec hWb5) ?_)
      rintro _ _ _ _ ⟨rfl, rfl, rfl⟩
      refine .to (E ++ (Eb5 ++ lawL b1 b2 code NA nl nc WA wl wc t L)) inferInstance ?_
      refine tl_y rfl (y_neq rfl rfl) ?_
      refine tl_y rfl (y_pickF rfl rfl) ?_
      refine tl_nil (.then_normal ?_)
      refine .sub (F' := [(5, _), (6, _), (7, _), (9, _), (11, _), (13, _), (79, _)]) (.cons rfl (.cons rfl (.cons rfl (.cons rfl (.cons rfl (.cons rfl (.cons rfl .nil))))))) ?_
      refine x_false rfl (decide_eq_false (fun h => h rfl)) ?_
      refine x_skip (.then_normal ?_)
      refine x_seq (x_region ?_)
      refine tl_y rfl (y_move (v := .pointer _) rfl) ?_
      refine tl_e rfl (e_call' rfl (Next_spec (hg.mono hm4) hH (by omega) hks (by omega) hWi) ?_)
      rintro v6 M6 L6 hM6 h6
      rw [if_pos (by omega)] at h6
      obtain ⟨A6, c6, vs6, E6, F6, E8, rfl, hrow6, hbs6, hW8, rfl⟩ := h6
      refine .pubRow hrow6 (fun M7 hM7 hr7 => TL.pubBs hbs6 (fun M8 hM8 hb8 => ?_))
      replace hr7 := hr7.mono hM8
      replace hW8 := hW8.mono (hM7.trans hM8)
      have hd6 := hM6.trans (hM7.trans hM8)
      replace hm4 := hm4.trans hd6
      replace he4' := he4'.trans hd6
      refine .to (Eb5 ++ (E8 ++ lawL b1 b2 code NA nl nc WA wl wc t L)) inferInstance ?_
      refine tl_y rfl (y_move (v := .tuple _) rfl) ?_
      refine tl_y rfl (y_extract rfl) ?_
      refine tl_y rfl (y_extract rfl) ?_
      refine tl_y rfl (y_extract rfl) ?_
      refine tl_y rfl (y_assign (v := .int _ _) rfl) ?_
      refine tl_y rfl (y_assign (v := .slice _ _ _) rfl) ?_
      refine tl_y rfl (y_assign (v := .bool _) rfl) ?_
      refine tl_nil (.then_normal ?_)
      refine .sub (F' := [(5, _), (6, _), (7, _), (9, _), (11, _), (13, _), (15, _), (16, _), (17, _)]) (.cons rfl (.cons rfl (.cons rfl (.cons rfl (.cons rfl (.cons rfl (.cons rfl (.cons rfl (.cons rfl .nil))))))))) ?_
      refine x_seq (x_region ?_)
      refine tl_y rfl (y_move (v := .pointer _) rfl) ?_
      refine tl_e rfl (e_call' rfl (Next_spec (hg.mono hm4) hH (by omega) hks (by omega) (hWb5.mono hd6)) ?_)
      rintro v9 M9 L9 hM9 h9
      rw [if_pos (by omega)] at h9
      obtain ⟨A9, c9, vs9, E9, F9, Eb8, rfl, hrow9, hbs9, hWb8, rfl⟩ := h9
      refine .pubRow hrow9 (fun M10 hM10 hr10 => TL.pubBs hbs9 (fun M11 hM11 hb11 => ?_))
      replace hr10 := hr10.mono hM11
      replace hWb8 := hWb8.mono (hM10.trans hM11)
      have hd9 := hM9.trans (hM10.trans hM11)
      replace hm4 := hm4.trans hd9
      replace he4' := he4'.trans hd9
      replace hr7 := hr7.mono hd9
      replace hb8 := hb8.mono hd9
      replace hW8 := hW8.mono hd9
      refine tl_y rfl (y_move (v := .tuple _) rfl) ?_
      refine tl_y rfl (y_extract rfl) ?_
      refine tl_y rfl (y_extract rfl) ?_
      refine tl_y rfl (y_extract rfl) ?_
      refine tl_y rfl (y_assign (v := .int _ _) rfl) ?_
      refine tl_y rfl (y_assign (v := .slice _ _ _) rfl) ?_
      refine tl_y rfl (y_assign (v := .bool _) rfl) ?_
      refine tl_nil (.then_normal ?_)
      refine .sub (F' := [(5, _), (6, _), (7, _), (9, _), (11, _), (13, _), (15, _), (16, _), (17, _), (18, _), (19, _), (20, _)]) (.cons rfl (.cons rfl (.cons rfl (.cons rfl (.cons rfl (.cons rfl (.cons rfl (.cons rfl (.cons rfl (.cons rfl (.cons rfl (.cons rfl .nil)))))))))))) ?_
      refine x_seq (x_seq (x_region ?_))
      refine tl_y rfl (y_move (v := .bool _) rfl) ?_
      refine tl_y rfl (y_not rfl) ?_
      refine tl_y rfl (y_move (v := .bool _) rfl) ?_
      refine tl_set (s := 94) (u := .bool false) rfl (rfl) ?_
      refine tl_y rfl (y_move (v := .bool _) rfl) ?_
      refine tl_y rfl (y_not rfl) ?_
      refine tl_y rfl (y_pickF rfl rfl) ?_
      refine tl_y rfl (y_move (v := .bool _) rfl) ?_
      refine tl_set (s := 98) (u := .bool false) rfl (rfl) ?_
      refine tl_y rfl (y_move (v := .int _ _) rfl) ?_
      refine tl_y rfl (y_move (v := .int _ _) rfl) ?_
      refine tl_y rfl (y_neq rfl rfl) ?_
      refine tl_y rfl (y_pickF rfl rfl) ?_
      refine tl_y rfl (y_move (v := .bool _) rfl) ?_
      refine tl_set (s := 103) (u := .bool false) rfl (by simp) ?_
      refine tl_y rfl (y_move (v := .int _ _) rfl) ?_
      refine tl_y rfl (y_convI rfl (by omega)) ?_
      refine tl_y rfl (y_move (v := .int _ _) rfl) ?_
      refine tl_y rfl (y_neq rfl rfl) ?_
      refine tl_y rfl (y_pickF rfl rfl) ?_
      refine tl_y rfl (y_move (v := .bool _) rfl) ?_
      refine tl_set (s := 109) (u := .bool false) rfl (by simp) ?_
      refine tl_y rfl (y_move (v := .slice _ _ _) rfl) ?_
      refine tl_y rfl (y_move (v := .slice _ _ _) rfl) ?_
      refine tl_e rfl (e_call' rfl (All_spec hr7 hb8 hr10 hb11 rfl) ?_)
      rintro _ _ _ _ ⟨rfl, rfl, rfl⟩
      obtain ⟨z, hz⟩ : ∃ z : UInt32, z.toNat = i := ⟨UInt32.ofNat i, by rw [UInt32.toNat_ofNat', Nat.mod_eq_of_lt (by omega)]⟩
      refine tl_y rfl (y_not rfl) ?_
      refine tl_y rfl (y_pickF rfl rfl) ?_
      refine tl_y rfl (y_move (v := .bool _) rfl) ?_
      refine tl_set (s := 115) (u := .bool false) rfl (rfl) ?_
      refine tl_y rfl (y_move (v := .slice _ _ _) rfl) ?_
      refine tl_y rfl (y_loadAgg rfl rfl (.own inferInstance inferInstance)) ?_
      refine tl_y rfl (y_move (v := .slice _ _ _) rfl) ?_
      refine tl_y rfl (y_move (v := .slice _ _ _) rfl) ?_
      refine tl_y rfl (y_move (v := .int _ _) rfl) ?_
      rw [show ((i : Nat) : Int) = ((z.toNat : Nat) : Int) by rw [hz]]
      refine tl_e rfl (e_call' rfl (Way_spec (hg.mono hm4).mr t (hn1.mono he4') (hr2.mono he4') (hb2.mono he4') hks z) ?_)
      rintro _ M12 _ hM12 ⟨rfl, A12, m12, c12, vs12, rfl, hr12, hb12⟩
      rw [if_pos ⟨hokM, by omega⟩, hH, Int.toNat_natCast, hz] at hb12
      replace hm4 := hm4.trans hM12
      refine tl_e rfl (e_call' rfl (All_spec (hr7.mono hM12) (hb8.mono hM12) hr12 hb12 rfl) ?_)
      rintro _ _ _ _ ⟨rfl, rfl, rfl⟩
      refine tl_y rfl (y_not rfl) ?_
      refine tl_y rfl (y_pickF rfl rfl) ?_
      refine tl_nil (.then_normal ?_)
      refine .sub (F' := [(7, _), (9, _), (11, _), (13, _), (124, _)]) (.cons rfl (.cons rfl (.cons rfl (.cons rfl (.cons rfl .nil))))) ?_
      refine x_false rfl (rfl) ?_
      refine x_skip (.then_normal ?_)
      refine x_seq (x_region ?_)
      refine tl_y rfl (y_move (v := .slice _ _ _) rfl) ?_
      refine tl_y rfl (y_len rfl) ?_
      refine tl_y rfl (y_move (v := .int _ _) rfl) ?_
      refine tl_y rfl (y_subI rfl rfl (by omega)) ?_
      refine tl_y rfl (y_subI rfl rfl (by omega)) ?_
      refine tl_y rfl (y_assign (v := .int _ _) rfl) ?_
      refine tl_nil (.then_normal ?_)
      refine .sub (F' := [(9, _), (11, _), (21, _)]) (.cons rfl (.cons rfl (.cons rfl .nil))) ?_
      refine x_seq (x_region ?_)
      refine tl_y rfl (y_move (v := .pointer _) rfl) ?_
      refine tl_e rfl (e_call' rfl (Next_spec (hg.mono hm4) hH (by omega) hks (by omega) (hWb8.mono hM12)) ?_)
      rintro v13 M13 L13 hM13 h13
      obtain ⟨qv, n13, A13, c13, vs13, E13, F13, Eb13, rfl, rfl, hW13, _, _⟩ := next_uni h13
      refine .dropTo (E8 ++ lawL b1 b2 code NA nl nc WA wl wc t L) inferInstance ?_
      refine tl_y rfl (y_move (v := .tuple _) rfl) ?_
      refine tl_y rfl (y_extract rfl) ?_
      refine tl_y rfl (y_extract rfl) ?_
      refine tl_y rfl (y_extract rfl) ?_
      refine tl_y rfl (y_assign (v := .int _ _) rfl) ?_
      refine tl_y rfl (y_assign (v := .slice _ _ _) rfl) ?_
      refine tl_y rfl (y_assign (v := .bool _) rfl) ?_
      refine tl_nil (.then_normal ?_)
      refine .sub (F' := [(9, _), (21, _), (24, _)]) (.cons rfl (.cons rfl (.cons rfl .nil))) ?_
      refine x_seq (x_region ?_)
      refine tl_y rfl (y_move (v := .pointer _) rfl) ?_
      refine tl_e rfl (e_call' rfl (Skip_spec (hg.mono (hm4.trans hM13)) hH (by omega) hks (by omega) (hW8.mono (hM12.trans hM13)) 1000 (by omega)) ?_)
      rintro _ M14 _ hM14 ⟨rfl, E14, rfl, hW14⟩
      rw [show min (1000 : Int).toNat (pw2 H - (i + 1)) = pw2 H - (i + 1) by omega]
      refine tl_y rfl (y_move (v := .int _ _) rfl) ?_
      refine tl_y rfl (y_eql rfl rfl) ?_
      refine tl_y rfl (y_move (v := .bool _) rfl) ?_
      refine tl_set (s := 140) (u := .bool true) rfl (by simp; omega) ?_
      refine tl_y rfl (y_move (v := .bool _) rfl) ?_
      refine tl_y rfl (y_move (v := .int _ _) rfl) ?_
      refine tl_y rfl (y_gtr rfl rfl) ?_
      refine tl_y rfl (y_eqlBool rfl rfl) ?_
      refine tl_y rfl (y_pickT rfl rfl) ?_
      refine tl_y rfl (y_assign (v := .bool _) rfl) ?_
      refine tl_nil (.then_normal ?_)
      refine .sub (F' := [(4, _)]) (.cons rfl .nil) ?_
      refine x_ret (ret1 rfl rfl (hm4.trans (hM13.trans hM14)) (by
        congr 1
        rw [beq_iff_eq, decide_eq_decide]
        omega))
end
end Go.Proofs.YtbjnjedfoiedeaaDoor
set_option linter.unusedVariables false
set_option linter.unusedSimpArgs false
set_option linter.constructorNameAsVariable false
namespace Go.Proofs.YtbjnjedfoiedeaaDoor
open Go Go.Eng
theorem setm {pre vs slack : List Value} {i : Nat} {v : Value} (h : i < vs.length) : (pre ++ (vs ++ slack)).set (pre.length + i) v = pre ++ (vs.set i v ++ slack) := by
  rw [List.set_append_right _ _ (by omega), Nat.add_sub_cancel_left, List.set_append_left _ _ h]
theorem perm_app {E A B X : Own} (h : E.Perm (A ++ B)) : (E ++ X).Perm (A ++ (B ++ X)) := by
  rw [← List.append_assoc]; exact h.append_right X
theorem perm_swap (A B X : Own) : (A ++ B ++ X).Perm (B ++ (A ++ X)) := by
  rw [← List.append_assoc]; exact List.perm_append_comm.append_right X
theorem bv_set (b : List UInt8) (i : Nat) (x : UInt8) : (b.map bv).set i (bv x) = (b.set i x).map bv := by simp [List.map_set]
theorem bv_get {b : List UInt8} {i : Nat} (h : i < b.length) : (b.map bv)[i]? = some (bv b[i]) := by rw [List.getElem?_map, List.getElem?_eq_getElem h]; rfl
theorem getD_set_self {bs : List (List UInt8)} {i : Nat} (h : i < bs.length) (b : List UInt8) : (bs.set i b).getD i [] = b := by
  rw [List.getD_eq_getElem?_getD, List.getElem?_set, if_pos rfl, if_pos h]; rfl
theorem wayB_each {t : TreeV} (h : okC t.kind t.n) {name : List UInt8} (hn : name.length = 16) {keys : List (List UInt8)} {H q : Nat} (hk : keys.length = pw2 H) (hq : q < pw2 H) : ∀ b ∈ wayB t name keys q H, 1 ≤ b.length := fun b hb => by
  rw [wayB, List.mem_map] at hb
  obtain ⟨j, hj, rfl⟩ := hb
  have hj' := List.mem_range.1 hj
  have h1 := lvl_getLen h hn hk (Nat.le_of_lt hj') (sib_lt hj' hq)
  have h2 := h.2
  omega
section
variable {G : World} {M : Mem} {L : Own}
theorem WalkAll_spec (hg : WkG M) (code : UInt8) {NA : Option Addr} {nl nc : Nat} {name : List UInt8} (hname : Bytes M NA nl nc name) {WA : Option Addr} {wl wc : Nat} {wvs : List Value} {keys : List (List UInt8)} (h : Row M 1 WA wl wc wvs) (hw : BRows M wvs keys) (more : UInt32) :
    Con Tryd.prog 7 #[.agg (List.toArray [.int .u8 (code.toNat : Int), .slice NA nl nc, .slice WA wl wc]), .int .u32 (more.toNat : Int)] G M L (fun v M' L' => v = .bool true) noPanic := by
  refine enter (args := [_, _]) (fn := Tryd.f7) ⟨Tryd.func7, rfl, by kernel_rfl, by kernel_rfl⟩ 188 rfl ?_
  refine x_seq (x_region ?_)
  refine tl_e rfl (e_box rfl (fun b1 => ?_))
  refine tl_y rfl (y_assign rfl) ?_
  refine tl_nil (.then_normal ?_)
  refine x_seq (x_seq (x_region ?_))
  refine tl_e rfl (e_call' rfl (awake24_spec hg) ?_)
  rintro _ M1 _ hM1 ⟨rfl, rfl⟩
  have hm := hM1
  refine tl_y rfl (y_not rfl) ?_
  refine tl_nil (.then_normal ?_)
  refine x_false rfl (rfl) ?_
  refine x_skip (.then_normal ?_)
  refine x_seq (x_seq (x_region ?_))
  refine tl_y rfl (y_move (v := .int _ _) rfl) ?_
  refine tl_e rfl (e_call' rfl (Changes_spec (hg.mono hm).bit more) ?_)
  rintro _ _ _ _ ⟨rfl, rfl, rfl⟩
  refine tl_y rfl (y_move (v := .int _ _) rfl) ?_
  refine tl_e rfl (e_call' rfl (RChanges_spec more) ?_)
  rintro _ _ _ _ ⟨rfl, rfl, rfl⟩
  refine tl_y rfl (y_neq rfl rfl) ?_
  refine tl_nil (.then_normal ?_)
  refine .sub (F' := [(2, _), (4, _), (32, _)]) (.cons rfl (.cons rfl (.cons rfl .nil))) ?_
  refine x_false rfl (decide_eq_false (fun h => h rfl)) ?_
  refine x_skip (.then_normal ?_)
  refine x_seq (x_region ?_)
  refine tl_y rfl (y_loadAgg rfl rfl (.own inferInstance inferInstance)) ?_
  refine tl_e rfl (e_call' rfl (wset_spec code (hname.mono hm) (h.mono hm) (hw.mono hm)) ?_)
  rintro _ _ _ _ ⟨rfl, rfl, t, ok, A1, n1, c1, A2, n2, c2, rfl, hset⟩
  refine tl_y rfl (y_move (v := .tuple _) rfl) ?_
  refine tl_y rfl (y_extract rfl) ?_
  refine tl_y rfl (y_extract rfl) ?_
  refine tl_y rfl (y_extract rfl) ?_
  refine tl_y rfl (y_extract rfl) ?_
  refine tl_e rfl (e_alloc (fun b2 => ?_))
  refine tl_e rfl (e_store rfl rfl (by rfl) (by rfl) inferInstance inferInstance inferInstance ?_)
  refine tl_y rfl (y_assign (v := .slice _ _ _) rfl) ?_
  refine tl_y rfl (y_assign (v := .slice _ _ _) rfl) ?_
  refine tl_y rfl (y_assign (v := .bool _) rfl) ?_
  refine tl_nil (.then_normal ?_)
  refine .sub (F' := [(4, _), (5, _), (6, _), (7, _), (8, _)]) (.cons rfl (.cons rfl (.cons rfl (.cons rfl (.cons rfl .nil))))) ?_
  refine x_seq (x_seq (x_region ?_))
  refine tl_y rfl (y_move (v := .bool _) rfl) ?_
  refine tl_y rfl (y_not rfl) ?_
  refine tl_nil (.then_normal ?_)
  refine x_condb rfl (fun hc3 => ?_) (fun hc3 => ?_)
  ·
    refine x_seq (x_region ?_)
    refine tl_y rfl (y_assign rfl) ?_
    refine tl_nil (.then_normal ?_)
    refine .sub (F' := [(4, _)]) (.cons rfl .nil) ?_
    refine x_ret (.then_ret (ret1 rfl rfl hm rfl))
  ·
    obtain rfl : ok = true := by simpa using hc3
    obtain ⟨H, nm, vs2, ks, hok, hH, hH1, hH4, rfl, rfl, hn1, hr2, hb2, hle2⟩ := hset rfl
    obtain ⟨hokc, H', hH', _, _, hlv⟩ := okS_facts hok
    obtain rfl : H = H' := by omega
    have hokM : okM t 16 (pw2 H) := ⟨hok, by omega, hlv.symm⟩
    have hks : ∀ b ∈ ks, b.length ≤ 1000000000000 := fun b hb => Nat.le_trans (hle2 b hb) (by omega)
    have hp4 := pw2_le (j := H) (k := 4) (by omega)
    rw [show pw2 4 = 16 from rfl] at hp4
    have hp1 := pw2_pos H
    have hn16 : nm.length = 16 := hn1.size
    have hkl : ks.length = pw2 H := by have h1 := hr2.len; have h2 := hb2.len; omega
    obtain ⟨g2, o2, hgo2, _⟩ := hr2.addr hp1
    refine x_skip (.then_normal ?_)
    refine x_seq (x_region ?_)
    refine tl_y rfl (y_assign rfl) ?_
    refine tl_nil (.then_normal ?_)
    refine x_seq (x_seq (x_region ?_))
    refine tl_y rfl (y_assign rfl) ?_
    refine tl_nil (.then_normal ?_)
    refine x_block ?_
    refine x_loop (I := fun m' F D M3 L3 => ∃ (k : Nat) (A : Option Addr) (c : Nat) (vs : List Value) (E Eb : Own), m' = pw2 H - k ∧ k ≤ pw2 H ∧ Le M1 M3 ∧ OwnRow 22 1 A k c vs E ∧ OwnBs vs (ks.take k) Eb ∧ D = [] ∧ L3 = E ++ (Eb ++ lawL b1 b2 code NA nl nc WA wl wc t L) ∧ F = [(4, .bool false), (5, .pointer (some ⟨b2, 0, none⟩)), (6, .slice A1 16 c1), (7, .slice A2 (pw2 H) c2), (9, .slice A k c), (10, .int .i64 (k : Int))]) (pw2 H) (F0 := [(4, _), (5, _), (6, _), (7, _), (9, _), (10, _)]) ?_ (.cons rfl (.cons rfl (.cons rfl (.cons rfl (.cons rfl (.cons rfl .nil)))))) ?_  -- slots [4, 5, 6, 7, 9, 10], written [9, 10]
    · exact ⟨0, none, 0, [], [], [], rfl, by omega, Le.refl _, .nil, .nil, rfl, rfl, rfl⟩
    rintro m _ _ M3 _ ⟨k, A, c, vs, E, Eb, rfl, hk, he, hE, hBs, rfl, rfl, rfl⟩
    refine x_seq (x_seq (x_region ?_))
    refine tl_y rfl (y_move (v := .int _ _) rfl) ?_
    refine tl_y rfl (y_move (v := .slice _ _ _) rfl) ?_
    refine tl_y rfl (y_len rfl) ?_
    refine tl_y rfl (y_lss rfl rfl) ?_
    refine tl_nil (.then_normal ?_)
    refine x_cond rfl (fun hc4 => ?_) (fun hc4 => ?_)
    ·
      have hkl2 : k < pw2 H := by omega
      obtain ⟨g, o, hgo, hcell⟩ := (hr2.mono he).addr hp1
      obtain ⟨A5, n5, c5, hv5, hb5⟩ := (hb2.mono he).get k (by omega)
      have hn5 := hb5.size
      have hn5' := hle2 _ (getD_mem ks k [] (by omega))
      rw [hgo]
      refine x_skip (.then_normal ?_)
      refine .sub (F' := [(4, _), (5, _), (6, _), (7, _), (9, _), (10, _)]) (.cons rfl (.cons rfl (.cons rfl (.cons rfl (.cons rfl (.cons rfl .nil)))))) ?_
      refine x_seq ?_
      refine x_block ?_
      refine x_region ?_
      refine tl_y rfl (y_move (v := .slice _ _ _) rfl) ?_
      refine tl_e rfl (e_buildSlice0 (fun b3 => ?_))
      refine tl_y rfl (y_move (v := .slice _ _ _) rfl) ?_
      refine tl_y rfl (y_move (v := .int _ _) rfl) ?_
      refine tl_y rfl (y_indexAddr rfl rfl (by omega)) ?_
      refine tl_y rfl (y_load rfl rfl (.at_ (hcell _ k _ hv5) (by omega))) ?_
      refine tl_e rfl (e_append1 (by decide) rfl rfl OwnRow.made00 (.row hb5) (all_one_bv _) (by omega) (by omega) (fun A6 c6 E6 hE6 => ?_))
      rw [Nat.zero_add, List.nil_append] at hE6
      rw [Nat.zero_add]
      refine tl_e rfl (e_buildSlice rfl (by decide) (fun b4 => ?_))
      refine .pub b4 inferInstance (fun M5 hM5 hb5' => ?_)
      refine .to (E ++ (E6 ++ (Eb ++ lawL b1 b2 code NA nl nc WA wl wc t L))) inferInstance ?_
      refine tl_e rfl (e_append (by decide) rfl rfl hE (.row (Row.whole (s := 1) hb5' rfl (by omega))) rfl (by omega) (by omega) (fun A7 c7 E7 hE7 => ?_))
      refine tl_y rfl (y_assign (v := .slice _ _ _) rfl) ?_
      refine tl_nil (.block_normal (.then_normal ?_))
      refine .sub (F' := [(4, _), (5, _), (6, _), (7, _), (9, _), (10, _)]) (.cons rfl (.cons rfl (.cons rfl (.cons rfl (.cons rfl (.cons rfl .nil)))))) ?_
      refine x_region ?_
      refine tl_y rfl (y_move (v := .int _ _) rfl) ?_
      refine tl_y rfl (y_addI rfl rfl (by omega)) ?_
      refine tl_y rfl (y_assign (v := .int _ _) rfl) ?_
      refine tl_nil (.loop_next (m' := pw2 H - (k + 1)) (by omega) (F' := [(4, _), (5, _), (6, _), (7, _), (9, _), (10, _)]) (.cons rfl (.cons rfl (.cons rfl (.cons rfl (.cons rfl (.cons rfl .nil)))))) ?_)
      exact ⟨k + 1, A7, c7, _, E7, E6 ++ Eb, rfl, by omega, he.trans hM5, hE7, by
        rw [List.take_add_one, List.getElem?_eq_getElem (by omega)]
        have := hBs.snoc hE6
        rw [List.getD_eq_getElem?_getD, List.getElem?_eq_getElem (by omega)] at this
        exact this, rfl, by rw [List.append_assoc], by rw [← hgo]; rfl⟩
    ·
      obtain rfl : k = pw2 H := by omega
      rw [List.take_of_length_le (by omega)] at hBs
      have hm3 := hm.trans he
      refine x_exit (.then_exit (.loop_exit (.block_exit (.then_normal ?_))))
      refine .sub (F' := [(4, _), (5, _), (6, _), (7, _), (9, _)]) (.cons rfl (.cons rfl (.cons rfl (.cons rfl (.cons rfl .nil))))) ?_
      refine x_seq (x_region ?_)
      refine tl_y rfl (y_loadAgg rfl rfl (.own inferInstance inferInstance)) ?_
      refine tl_y rfl (y_move (v := .slice _ _ _) rfl) ?_
      refine tl_y rfl (y_move (v := .slice _ _ _) rfl) ?_
      refine tl_e rfl (e_call' rfl (WNew_spec (hg.mono hm3) t (hn1.mono he) (hE.in_ inferInstance (by omega)) (hBs.in_ inferInstance) (by omega) hks) ?_)
      rintro _ M4 _ hM4 h7
      rw [if_pos hokM] at h7
      obtain ⟨w, Ew, rfl, hWw, rfl⟩ := h7
      rw [hH, Int.toNat_natCast] at hWw
      replace he := he.trans hM4
      replace hm3 := hm3.trans hM4
      refine .to (Eb ++ (E ++ (Ew ++ lawL b1 b2 code NA nl nc WA wl wc t L))) inferInstance ?_
      refine tl_y rfl (y_move (v := .tuple _) rfl) ?_
      refine tl_y rfl (y_extract rfl) ?_
      refine tl_y rfl (y_extract rfl) ?_
      refine tl_y rfl (y_assign (v := .pointer _) rfl) ?_
      refine tl_y rfl (y_assign (v := .int _ _) rfl) ?_
      refine tl_nil (.then_normal ?_)
      refine .sub (F' := [(4, _), (5, _), (6, _), (7, _), (9, _), (11, _), (12, _)]) (.cons rfl (.cons rfl (.cons rfl (.cons rfl (.cons rfl (.cons rfl (.cons rfl .nil))))))) ?_
      refine x_seq (x_seq (x_region ?_))
      refine tl_y rfl (y_move (v := .pointer _) rfl) ?_
      refine tl_y rfl (y_eqNilPtr rfl rfl) ?_
      refine tl_y rfl (y_move (v := .bool _) rfl) ?_
      refine tl_set (s := 66) (u := .bool false) rfl (rfl) ?_
      refine tl_y rfl (y_move (v := .int _ _) rfl) ?_
      refine tl_y rfl (y_neq rfl rfl) ?_
      refine tl_y rfl (y_pickF rfl rfl) ?_
      refine tl_nil (.then_normal ?_)
      refine .sub (F' := [(4, _), (5, _), (6, _), (7, _), (9, _), (11, _), (69, _)]) (.cons rfl (.cons rfl (.cons rfl (.cons rfl (.cons rfl (.cons rfl (.cons rfl .nil))))))) ?_
      refine x_false rfl (rfl) ?_
      refine x_skip (.then_normal ?_)
      refine x_seq (x_seq (x_region ?_))
      refine tl_y rfl (y_assign rfl) ?_
      refine tl_nil (.then_normal ?_)
      refine x_block ?_
      refine x_loop (I := fun m' F D M5 L5 => ∃ (i : Nat) (bs : List (List UInt8)) (Eb : Own), m' = pw2 H - i ∧ i ≤ pw2 H ∧ bs.length = pw2 H ∧ M4 = M5 ∧ OwnBs vs bs Eb ∧ D = [] ∧ Eb ++ (E ++ (Ew ++ lawL b1 b2 code NA nl nc WA wl wc t L)) = L5 ∧ F = [(4, .bool false), (5, .pointer (some ⟨b2, 0, none⟩)), (6, .slice A1 16 c1), (7, .slice A2 (pw2 H) c2), (9, .slice A (pw2 H) c), (11, .pointer (some ⟨w, 0, none⟩)), (13, .int .i64 (i : Int))]) (pw2 H) (F0 := [(4, _), (5, _), (6, _), (7, _), (9, _), (11, _), (13, _)]) ?_ (.cons rfl (.cons rfl (.cons rfl (.cons rfl (.cons rfl (.cons rfl (.cons rfl .nil))))))) ?_  -- slots [4, 5, 6, 7, 9, 11, 13], written [13]
      · exact ⟨0, ks, Eb, rfl, by omega, hkl, rfl, hBs, rfl, rfl, rfl⟩
      rintro m _ _ _ _ ⟨i, bs, Eb2, rfl, hi, hbl, rfl, hBs2, rfl, rfl, rfl⟩
      refine x_seq (x_seq (x_region ?_))
      refine tl_y rfl (y_move (v := .int _ _) rfl) ?_
      refine tl_y rfl (y_move (v := .slice _ _ _) rfl) ?_
      refine tl_y rfl (y_len rfl) ?_
      refine tl_y rfl (y_lss rfl rfl) ?_
      refine tl_nil (.then_normal ?_)
      refine x_cond rfl (fun hc6 => ?_) (fun hc6 => ?_)
      ·
        have hil : i < pw2 H := by omega
        have hvl := hBs2.len
        obtain ⟨A8, n8, c8, E8, F8, hv8, hE8, hperm, hback⟩ := hBs2.get i (by omega)
        have hl8 : (bs.getD i []).length = n8 := by have := hE8.len; simpa using this
        have hmx8 := hE8.max
        have hle8 := hE8.le
        refine .to (E8 ++ (F8 ++ (E ++ (Ew ++ lawL b1 b2 code NA nl nc WA wl wc t L)))) ⟨perm_app hperm⟩ ?_
        refine x_skip (.then_normal ?_)
        refine .sub (F' := [(4, _), (5, _), (6, _), (7, _), (9, _), (11, _), (13, _)]) (.cons rfl (.cons rfl (.cons rfl (.cons rfl (.cons rfl (.cons rfl (.cons rfl .nil))))))) ?_
        refine x_seq ?_
        refine x_block ?_
        refine x_seq (x_region ?_)
        refine tl_y rfl (y_assign rfl) ?_
        refine tl_nil (.then_normal ?_)
        refine x_block ?_
        refine x_loop (I := fun m' F D M5 L5 => ∃ (k : Nat) (b' : List UInt8) (E9 : Own), m' = n8 - k ∧ k ≤ n8 ∧ b'.length = n8 ∧ M4 = M5 ∧ OwnRow 5 1 A8 n8 c8 (b'.map bv) E9 ∧ D = [] ∧ E9 ++ (F8 ++ (E ++ (Ew ++ lawL b1 b2 code NA nl nc WA wl wc t L))) = L5 ∧ F = [(4, .bool false), (5, .pointer (some ⟨b2, 0, none⟩)), (6, .slice A1 16 c1), (7, .slice A2 (pw2 H) c2), (9, .slice A (pw2 H) c), (11, .pointer (some ⟨w, 0, none⟩)), (13, .int .i64 (i : Int)), (14, .int .i64 (k : Int))]) (n8) (F0 := [(4, _), (5, _), (6, _), (7, _), (9, _), (11, _), (13, _), (14, _)]) ?_ (.cons rfl (.cons rfl (.cons rfl (.cons rfl (.cons rfl (.cons rfl (.cons rfl (.cons rfl .nil)))))))) ?_  -- slots [4, 5, 6, 7, 9, 11, 13, 14], written [14]
        · exact ⟨0, _, E8, rfl, by omega, hl8, rfl, hE8, rfl, rfl, rfl⟩
        rintro m _ _ _ _ ⟨k, b', E9, rfl, hk9, hbl9, rfl, hE9, rfl, rfl, rfl⟩
        obtain ⟨g, o, hAg, hcell⟩ := hE.cellIn (M := M4) (L := E9 ++ (F8 ++ (E ++ (Ew ++ lawL b1 b2 code NA nl nc WA wl wc t L)))) inferInstance (by omega)
        subst hAg
        refine x_seq (x_seq (x_region ?_))
        refine tl_y rfl (y_move (v := .int _ _) rfl) ?_
        refine tl_y rfl (y_move (v := .slice _ _ _) rfl) ?_
        refine tl_y rfl (y_move (v := .int _ _) rfl) ?_
        refine tl_y rfl (y_indexAddr rfl rfl (by omega)) ?_
        refine tl_y rfl (y_load rfl rfl (.at_ (hcell i _ hv8) (by omega))) ?_
        refine tl_y rfl (y_len rfl) ?_
        refine tl_y rfl (y_lss rfl rfl) ?_
        refine tl_nil (.then_normal ?_)
        refine .sub (F' := [(4, _), (5, _), (6, _), (7, _), (9, _), (11, _), (13, _), (14, _), (82, _)]) (.cons rfl (.cons rfl (.cons rfl (.cons rfl (.cons rfl (.cons rfl (.cons rfl (.cons rfl (.cons rfl .nil))))))))) ?_
        refine x_cond rfl (fun hc7 => ?_) (fun hc7 => ?_)
        ·
          have hkn : k < n8 := by omega
          obtain ⟨g9, pre, slack, rfl, rfl⟩ := hE9.parts (by omega)
          refine .to ((g9, .cells (pre ++ (b'.map bv ++ slack)).toArray 5 (0, 0)) :: (F8 ++ (E ++ (Ew ++ lawL b1 b2 code NA nl nc WA wl wc t L)))) ⟨List.Perm.refl _⟩ ?_
          obtain ⟨x, hx⟩ : ∃ x, x = b'[k]'(by omega) := ⟨_, rfl⟩
          have hxv := bv_get (b := b') (i := k) (by omega)
          rw [← hx] at hxv
          obtain ⟨g9', o9', hg9, hcell9⟩ := hE9.cellIn (M := M4) (L := (g9, .cells (pre ++ (b'.map bv ++ slack)).toArray 5 (0, 0)) :: (F8 ++ (E ++ (Ew ++ lawL b1 b2 code NA nl nc WA wl wc t L)))) (L' := F8 ++ (E ++ (Ew ++ lawL b1 b2 code NA nl nc WA wl wc t L))) ⟨List.Perm.refl _⟩ (by simp; omega)
          obtain ⟨rfl, rfl⟩ : g9 = g9' ∧ pre.length = o9' := by simpa using hg9
          replace hcell : ∀ j v, vs[j]? = some v → CellAt M4 ((g9, .cells (pre ++ (b'.map bv ++ slack)).toArray 5 (0, 0)) :: (F8 ++ (E ++ (Ew ++ lawL b1 b2 code NA nl nc WA wl wc t L)))) ⟨g, o + j, none⟩ v := hcell
          have hset := hE9.set k (bv (x + 1)) (by simp; omega)
          rw [setm (by simp; omega), bv_set] at hset
          refine x_skip (.then_normal ?_)
          refine x_seq ?_
          refine x_block ?_
          refine x_draw 14 hmix rfl ?_
          refine to_p 0 rfl (by kernel_rfl) rfl (y_move (v := .slice _ _ _) rfl) ?_
          refine to_p 1 rfl (by kernel_rfl) rfl (y_move (v := .int _ _) rfl) ?_
          refine to_p 2 rfl (by kernel_rfl) rfl (y_indexAddr rfl rfl (by omega)) ?_
          refine to_y 3 rfl (by kernel_rfl) rfl (y_load rfl rfl (.at_ (hcell i _ hv8) (by omega))) ?_
          refine to_p 4 rfl (by kernel_rfl) rfl (y_move (v := .int _ _) rfl) ?_
          refine to_p 5 rfl (by kernel_rfl) rfl (y_move (v := .slice _ _ _) rfl) ?_
          refine to_p 6 rfl (by kernel_rfl) rfl (y_move (v := .int _ _) rfl) ?_
          refine to_p 7 rfl (by kernel_rfl) rfl (y_indexAddr rfl rfl (by omega)) ?_
          refine to_y 8 rfl (by kernel_rfl) rfl (y_load rfl rfl (.at_ (hcell i _ hv8) (by omega))) ?_
          refine to_p 9 rfl (by kernel_rfl) rfl (y_move (v := .int _ _) rfl) ?_
          refine to_p 10 rfl (by kernel_rfl) rfl (y_indexAddr rfl rfl (by omega)) ?_
          refine to_y 11 rfl (by kernel_rfl) rfl (y_load rfl rfl (.at_ (hcell9 k _ hxv) (by omega))) ?_
          refine to_p 12 rfl (by kernel_rfl) rfl (y_add8 (a := x) (b := 1) rfl rfl) ?_
          refine to_p 13 rfl (by kernel_rfl) rfl (y_indexAddr rfl rfl (by omega)) ?_
          refine to_t 14 rfl (by kernel_rfl) (by kernel_rfl) rfl (e_storeAt (c := pre ++ (b'.map bv ++ slack)) rfl rfl rfl inferInstance (by simp; omega) inferInstance ?_)
          rw [show pre.length + ((k : Nat) : Int).toNat * 1 = pre.length + k by omega, show (u8v (x + 1)) = bv (x + 1) from rfl, setm (by simp; omega), bv_set]
          refine to_nil (by kernel_rfl) (.block_normal (.then_normal ?_))
          refine .sub (F' := [(4, _), (5, _), (6, _), (7, _), (9, _), (11, _), (13, _), (14, _)]) (.cons rfl (.cons rfl (.cons rfl (.cons rfl (.cons rfl (.cons rfl (.cons rfl (.cons rfl .nil)))))))) ?_
          refine x_region ?_
          refine tl_y rfl (y_move (v := .int _ _) rfl) ?_
          refine tl_y rfl (y_addI rfl rfl (by omega)) ?_
          refine tl_y rfl (y_assign (v := .int _ _) rfl) ?_
          refine tl_nil (.loop_next (m' := n8 - (k + 1)) (by omega) (F' := [(4, _), (5, _), (6, _), (7, _), (9, _), (11, _), (13, _), (14, _)]) (.cons rfl (.cons rfl (.cons rfl (.cons rfl (.cons rfl (.cons rfl (.cons rfl (.cons rfl .nil)))))))) ?_)
          exact ⟨k + 1, b'.set k (x + 1), _, rfl, by omega, by simp [hbl9], rfl, hset, rfl, rfl, rfl⟩
        ·
          obtain rfl : k = n8 := by omega
          refine x_exit (.then_exit (.loop_exit (.block_exit (.block_normal (.then_normal ?_)))))
          refine x_region ?_
          refine tl_y rfl (y_move (v := .int _ _) rfl) ?_
          refine tl_y rfl (y_addI rfl rfl (by omega)) ?_
          refine tl_y rfl (y_assign (v := .int _ _) rfl) ?_
          refine tl_nil (.loop_next (m' := pw2 H - (i + 1)) (by omega) (F' := [(4, _), (5, _), (6, _), (7, _), (9, _), (11, _), (13, _)]) (.cons rfl (.cons rfl (.cons rfl (.cons rfl (.cons rfl (.cons rfl (.cons rfl .nil))))))) ?_)
          exact ⟨i + 1, bs.set i b', E9 ++ F8, rfl, by omega, by simp [hbl], rfl, hback b' E9 hE9, rfl, by rw [List.append_assoc], rfl⟩
      ·
        refine .dropTo (Ew ++ lawL b1 b2 code NA nl nc WA wl wc t L) inferInstance ?_
        refine x_exit (.then_exit (.loop_exit (.block_exit (.then_normal ?_))))
        refine .sub (F' := [(4, _), (5, _), (6, _), (7, _), (11, _)]) (.cons rfl (.cons rfl (.cons rfl (.cons rfl (.cons rfl .nil))))) ?_
        refine x_seq (x_region ?_)
        refine tl_y rfl (y_loadAgg rfl rfl (.own inferInstance inferInstance)) ?_
        refine tl_y rfl (y_move (v := .slice _ _ _) rfl) ?_
        refine tl_y rfl (y_move (v := .slice _ _ _) rfl) ?_
        refine tl_e rfl (e_call' rfl (Root_spec (hg.mono hm3).mr t (hn1.mono he) (hr2.mono he) (hb2.mono he) hks) ?_)
        rintro _ M6 _ hM6 ⟨rfl, A10, m10, c10, rfl, hA10⟩
        rw [if_pos hokM] at hA10
        replace he := he.trans hM6
        replace hm3 := hm3.trans hM6
        refine tl_y rfl (y_assign (v := .slice _ _ _) rfl) ?_
        refine tl_nil (.then_normal ?_)
        refine .sub (F' := [(4, _), (5, _), (6, _), (7, _), (11, _), (15, _)]) (.cons rfl (.cons rfl (.cons rfl (.cons rfl (.cons rfl (.cons rfl .nil)))))) ?_
        refine x_seq (x_seq (x_region ?_))
        refine tl_y rfl (y_assign rfl) ?_
        refine tl_nil (.then_normal ?_)
        refine x_block ?_
        refine x_loop (I := fun m' F D M7 L7 => ∃ (i : Nat) (E4 : Own), m' = pw2 H - i ∧ i ≤ pw2 H ∧ Le M6 M7 ∧ WalkS M7 t H nm ks w i E4 ∧ D = [] ∧ E4 ++ lawL b1 b2 code NA nl nc WA wl wc t L = L7 ∧ F = [(4, .bool false), (5, .pointer (some ⟨b2, 0, none⟩)), (6, .slice A1 16 c1), (7, .slice A2 (pw2 H) c2), (11, .pointer (some ⟨w, 0, none⟩)), (15, .slice A10 m10 c10), (16, .int .i64 (i : Int))]) (pw2 H) (F0 := [(4, _), (5, _), (6, _), (7, _), (11, _), (15, _), (16, _)]) ?_ (.cons rfl (.cons rfl (.cons rfl (.cons rfl (.cons rfl (.cons rfl (.cons rfl .nil))))))) ?_  -- slots [4, 5, 6, 7, 11, 15, 16], written [4, 16]
        · exact ⟨0, Ew, rfl, by omega, Le.refl _, hWw.mono hM6, rfl, rfl, rfl⟩
        rintro m _ _ M7 _ ⟨i, E4, rfl, hi, he7, hW7, rfl, rfl, rfl⟩
        have hm7 := hm3.trans he7
        have he8 := he.trans he7
        refine x_seq (x_seq (x_region ?_))
        refine tl_y rfl (y_move (v := .int _ _) rfl) ?_
        refine tl_y rfl (y_move (v := .slice _ _ _) rfl) ?_
        refine tl_y rfl (y_len rfl) ?_
        refine tl_y rfl (y_lss rfl rfl) ?_
        refine tl_nil (.then_normal ?_)
        refine x_cond rfl (fun hc8 => ?_) (fun hc8 => ?_)
        ·
          have hil : i < pw2 H := by omega
          refine x_skip (.then_normal ?_)
          refine .sub (F' := [(4, _), (5, _), (6, _), (7, _), (11, _), (15, _), (16, _)]) (.cons rfl (.cons rfl (.cons rfl (.cons rfl (.cons rfl (.cons rfl (.cons rfl .nil))))))) ?_
          refine x_seq ?_
          refine x_block ?_
          refine x_seq (x_region ?_)
          refine tl_y rfl (y_move (v := .pointer _) rfl) ?_
          refine tl_e rfl (e_call' rfl (Next_spec (hg.mono hm7) hH (by omega) hks (by omega) hW7) ?_)
          rintro v9 M9 L9 hM9 h9
          rw [if_pos hil] at h9
          obtain ⟨A11, c11, vs11, E11, F11, E12, rfl, hrow11, hbs11, hW11, rfl⟩ := h9
          have hm9 := hm7.trans hM9
          have he9 := he8.trans hM9
          have heach := wayB_each hokc hn16 hkl hil
          have hmx11 := hrow11.max
          refine .to ((E11 ++ F11) ++ (E12 ++ lawL b1 b2 code NA nl nc WA wl wc t L)) ⟨by rw [List.append_assoc]⟩ (TL.lend (E11 ++ F11) (fun M12 hlent => ?_))
          have hrow12 := hlent.row (fun p hp => List.mem_append_left _ hp) hrow11
          have hbs12 := hbs11.lent hlent (fun p hp => List.mem_append_right _ hp)
          have he12 := he9.trans hlent.le
          have hm12 := hm9.trans hlent.le
          obtain ⟨g, o, hgo, hcell⟩ := (hr2.mono he12).addr hp1
          obtain ⟨A5, n5, c5, hv5, hb5⟩ := (hb2.mono he12).get i (by omega)
          have hn5 := hb5.size
          have hn5' := hle2 _ (getD_mem ks i [] (by omega))
          obtain ⟨z, hz⟩ : ∃ z : UInt32, z.toNat = i := ⟨UInt32.ofNat i, by rw [UInt32.toNat_ofNat', Nat.mod_eq_of_lt (by omega)]⟩
          refine tl_y rfl (y_move (v := .tuple _) rfl) ?_
          refine tl_y rfl (y_extract rfl) ?_
          refine tl_y rfl (y_extract rfl) ?_
          refine tl_y rfl (y_extract rfl) ?_
          refine tl_y rfl (y_assign (v := .int _ _) rfl) ?_
          refine tl_y rfl (y_assign (v := .slice _ _ _) rfl) ?_
          refine tl_y rfl (y_assign (v := .bool _) rfl) ?_
          refine tl_nil (.then_normal ?_)
          refine .sub (F' := [(4, _), (5, _), (6, _), (7, _), (11, _), (15, _), (16, _), (17, _), (18, _), (19, _)]) (.cons rfl (.cons rfl (.cons rfl (.cons rfl (.cons rfl (.cons rfl (.cons rfl (.cons rfl (.cons rfl (.cons rfl .nil)))))))))) ?_
          refine x_seq ?_
          have hd : Le M12 M12 := Le.refl _
          refine x_draw 15 hmix rfl ?_
          refine to_y 0 rfl (by kernel_rfl) rfl (y_loadAgg rfl rfl (.own inferInstance inferInstance)) ?_
          refine to_p 1 rfl (by kernel_rfl) rfl (y_move (v := .slice _ _ _) rfl) ?_
          refine to_p 2 rfl (by kernel_rfl) rfl (y_move (v := .int _ _) rfl) ?_
          refine to_p 3 rfl (by kernel_rfl) rfl (y_convE (b := ((z.toNat : Nat) : Int)) rfl (by rw [wrapU32]; omega)) ?_
          refine to_p 4 rfl (by kernel_rfl) rfl (y_move (v := .slice _ _ _) rfl) ?_
          refine to_p 5 rfl (by kernel_rfl) rfl (y_move (v := .int _ _) rfl) ?_
          rw [hgo]
          refine to_p 6 rfl (by kernel_rfl) rfl (y_indexAddr rfl rfl (by omega)) ?_
          refine to_y 7 rfl (by kernel_rfl) rfl (y_load rfl rfl (.at_ (hcell _ i _ hv5) (by omega))) ?_
          refine to_p 8 rfl (by kernel_rfl) rfl (y_move (v := .slice _ _ _) rfl) ?_
          refine to_e 9 rfl (by kernel_rfl) rfl (e_call' rfl (Climb_spec (hg.mono hm12).mr t (hn1.mono he12) z hb5 (by omega) hrow12 hbs12) ?_)
          rintro _ M13 _ hM13 ⟨rfl, A13, n13, c13, rfl, hA13⟩
          rw [hz, climb_root hok hn16 hH hkl hil] at hA13
          rw [climbE, if_pos (by rw [hz]; exact way_ok hok hn16 hH hkl hil)]
          refine ⟨⟨(by first | exact Le.refl _ | assumption), Keeps.mem⟩, ?_⟩
          refine to_p 10 rfl (by kernel_rfl) rfl (y_move (v := .tuple _) rfl) ?_
          refine to_p 11 rfl (by kernel_rfl) rfl (y_extract rfl) ?_
          refine to_p 12 rfl (by kernel_rfl) rfl (y_extract rfl) ?_
          refine to_p 13 rfl (by kernel_rfl) rfl (y_assign (v := .slice _ _ _) rfl) ?_
          refine to_p 14 rfl (by kernel_rfl) rfl (y_assign (v := .int _ _) rfl) ?_
          refine to_nil (by kernel_rfl) (.then_normal ?_)
          refine .sub (F' := [(4, _), (5, _), (6, _), (7, _), (11, _), (15, _), (16, _), (17, _), (18, _), (19, _), (20, _), (21, _)]) (.cons rfl (.cons rfl (.cons rfl (.cons rfl (.cons rfl (.cons rfl (.cons rfl (.cons rfl (.cons rfl (.cons rfl (.cons rfl (.cons rfl .nil)))))))))))) ?_
          refine x_seq (x_seq (x_region ?_))
          refine tl_y rfl (y_move (v := .bool _) rfl) ?_
          refine tl_y rfl (y_not rfl) ?_
          refine tl_y rfl (y_move (v := .bool _) rfl) ?_
          refine tl_set (s := 130) (u := .bool false) rfl (rfl) ?_
          refine tl_y rfl (y_move (v := .int _ _) rfl) ?_
          refine tl_y rfl (y_convI rfl (by omega)) ?_
          refine tl_y rfl (y_move (v := .int _ _) rfl) ?_
          refine tl_y rfl (y_neq rfl rfl) ?_
          refine tl_y rfl (y_pickF rfl rfl) ?_
          refine tl_y rfl (y_move (v := .bool _) rfl) ?_
          refine tl_set (s := 136) (u := .bool false) rfl (by simp) ?_
          refine tl_y rfl (y_move (v := .int _ _) rfl) ?_
          refine tl_y rfl (y_neq rfl rfl) ?_
          refine tl_y rfl (y_pickF rfl rfl) ?_
          refine tl_y rfl (y_move (v := .bool _) rfl) ?_
          refine tl_set (s := 140) (u := .bool false) rfl (rfl) ?_
          refine tl_y rfl (y_move (v := .slice _ _ _) rfl) ?_
          refine tl_y rfl (y_move (v := .slice _ _ _) rfl) ?_
          refine tl_e rfl (e_call' rfl (same_spec hA13 (hA10.mono (he7.trans (hM9.trans (hlent.le.trans hM13))))) ?_)
          rintro _ _ _ _ ⟨rfl, rfl, rfl⟩
          refine TL.back (hlent.mono hM13) (fun M14 hM14 => ?_)
          have he14 := he7.trans (hM9.trans hM14)
          rw [← hgo]
          refine .to (F11 ++ (E11 ++ (E12 ++ lawL b1 b2 code NA nl nc WA wl wc t L))) ⟨perm_swap _ _ _⟩ ?_
          refine tl_y rfl (y_not rfl) ?_
          refine tl_y rfl (y_pickF rfl rfl) ?_
          refine tl_nil (.then_normal ?_)
          refine .sub (F' := [(4, _), (5, _), (6, _), (7, _), (11, _), (15, _), (16, _), (18, _), (145, _)]) (.cons rfl (.cons rfl (.cons rfl (.cons rfl (.cons rfl (.cons rfl (.cons rfl (.cons rfl (.cons rfl .nil))))))))) ?_
          refine x_false rfl (by simp) ?_
          refine x_skip (.then_normal ?_)
          refine x_seq (x_region ?_)
          refine tl_y rfl (y_assign rfl) ?_
          refine tl_nil (.then_normal ?_)
          refine x_block ?_
          refine x_loop (I := fun m' F D M15 L15 => ∃ (k : Nat) (bs : List (List UInt8)) (F12 : Own), m' = H - k ∧ k ≤ H ∧ bs.length = H ∧ (∀ b ∈ bs, 1 ≤ b.length) ∧ M14 = M15 ∧ OwnBs vs11 bs F12 ∧ D = [] ∧ F12 ++ (E11 ++ (E12 ++ lawL b1 b2 code NA nl nc WA wl wc t L)) = L15 ∧ F = [(4, .bool false), (5, .pointer (some ⟨b2, 0, none⟩)), (6, .slice A1 16 c1), (7, .slice A2 (pw2 H) c2), (11, .pointer (some ⟨w, 0, none⟩)), (15, .slice A10 m10 c10), (16, .int .i64 (i : Int)), (18, .slice A11 H c11), (22, .int .i64 (k : Int))]) (H) (F0 := [(4, _), (5, _), (6, _), (7, _), (11, _), (15, _), (16, _), (18, _), (22, _)]) ?_ (.cons rfl (.cons rfl (.cons rfl (.cons rfl (.cons rfl (.cons rfl (.cons rfl (.cons rfl (.cons rfl .nil))))))))) ?_  -- slots [4, 5, 6, 7, 11, 15, 16, 18, 22], written [22]
          · exact ⟨0, _, F11, rfl, by omega, wayB_len _ _ _ _ _, heach, rfl, hbs11, rfl, rfl, rfl⟩
          rintro m _ _ _ _ ⟨k, bs, F12, rfl, hk, hbl, hea, rfl, hB12, rfl, rfl, rfl⟩
          refine x_seq (x_seq (x_region ?_))
          refine tl_y rfl (y_move (v := .int _ _) rfl) ?_
          refine tl_y rfl (y_move (v := .slice _ _ _) rfl) ?_
          refine tl_y rfl (y_len rfl) ?_
          refine tl_y rfl (y_lss rfl rfl) ?_
          refine tl_nil (.then_normal ?_)
          refine x_cond rfl (fun hc10 => ?_) (fun hc10 => ?_)
          ·
            have hkH : k < H := by omega
            have hvl := hB12.len
            obtain ⟨A8, n8, c8, E8, F8, hv8, hE8, hperm, hback⟩ := hB12.get k (by omega)
            have hl8 : (bs.getD k []).length = n8 := by have := hE8.len; simpa using this
            have hl81 := hea _ (getD_mem bs k [] (by omega))
            have hmx8 := hE8.max
            have hle8 := hE8.le
            refine .to (E8 ++ (F8 ++ (E11 ++ (E12 ++ lawL b1 b2 code NA nl nc WA wl wc t L)))) ⟨perm_app hperm⟩ ?_
            obtain ⟨g9, pre, slack, rfl, rfl⟩ := hE8.parts (by omega)
            obtain ⟨b', hb'⟩ : ∃ b', b' = bs.getD k [] := ⟨_, rfl⟩
            rw [← hb'] at hE8 hl8 hl81 ⊢
            refine .to ((g9, .cells (pre ++ (b'.map bv ++ slack)).toArray 5 (0, 0)) :: (F8 ++ (E11 ++ (E12 ++ lawL b1 b2 code NA nl nc WA wl wc t L)))) ⟨List.Perm.refl _⟩ ?_
            obtain ⟨x, hx⟩ : ∃ x, x = b'[0]'(by omega) := ⟨_, rfl⟩
            have hxv := bv_get (b := b') (i := 0) (by omega)
            rw [← hx] at hxv
            obtain ⟨g9', o9', hg9, hcell9⟩ := hE8.cellIn (M := M14) (L := (g9, .cells (pre ++ (b'.map bv ++ slack)).toArray 5 (0, 0)) :: (F8 ++ (E11 ++ (E12 ++ lawL b1 b2 code NA nl nc WA wl wc t L)))) (L' := F8 ++ (E11 ++ (E12 ++ lawL b1 b2 code NA nl nc WA wl wc t L))) ⟨List.Perm.refl _⟩ (by simp; omega)
            obtain ⟨rfl, rfl⟩ : g9 = g9' ∧ pre.length = o9' := by simpa using hg9
            obtain ⟨g, o, hAg, hcell⟩ := hrow11.cellIn (M := M14) (L := (g9, .cells (pre ++ (b'.map bv ++ slack)).toArray 5 (0, 0)) :: (F8 ++ (E11 ++ (E12 ++ lawL b1 b2 code NA nl nc WA wl wc t L)))) inferInstance (by rw [hvl]; omega)
            subst hAg
            have hset := hE8.set 0 (bv (x + 1)) (by simp; omega)
            rw [setm (by simp; omega), bv_set] at hset
            refine x_skip (.then_normal ?_)
            refine .sub (F' := [(4, _), (5, _), (6, _), (7, _), (11, _), (15, _), (16, _), (18, _), (22, _)]) (.cons rfl (.cons rfl (.cons rfl (.cons rfl (.cons rfl (.cons rfl (.cons rfl (.cons rfl (.cons rfl .nil))))))))) ?_
            refine x_seq ?_
            refine x_block ?_
            refine x_draw 12 hmix rfl ?_
            refine to_p 0 rfl (by kernel_rfl) rfl (y_move (v := .slice _ _ _) rfl) ?_
            refine to_p 1 rfl (by kernel_rfl) rfl (y_move (v := .int _ _) rfl) ?_
            refine to_p 2 rfl (by kernel_rfl) rfl (y_indexAddr rfl rfl (by omega)) ?_
            refine to_y 3 rfl (by kernel_rfl) rfl (y_load rfl rfl (.at_ (hcell k _ hv8) (by omega))) ?_
            refine to_p 4 rfl (by kernel_rfl) rfl (y_move (v := .slice _ _ _) rfl) ?_
            refine to_p 5 rfl (by kernel_rfl) rfl (y_move (v := .int _ _) rfl) ?_
            refine to_p 6 rfl (by kernel_rfl) rfl (y_indexAddr rfl rfl (by omega)) ?_
            refine to_y 7 rfl (by kernel_rfl) rfl (y_load rfl rfl (.at_ (hcell k _ hv8) (by omega))) ?_
            refine to_p 8 rfl (by kernel_rfl) rfl (y_indexAddr rfl rfl (by omega)) ?_
            refine to_y 9 rfl (by kernel_rfl) rfl (y_load rfl rfl (.at_ (hcell9 0 _ hxv) (by omega))) ?_
            refine to_p 10 rfl (by kernel_rfl) rfl (y_add8 (a := x) (b := 1) rfl rfl) ?_
            refine to_p 11 rfl (by kernel_rfl) rfl (y_indexAddr rfl rfl (by omega)) ?_
            refine to_t 12 rfl (by kernel_rfl) (by kernel_rfl) rfl (e_storeAt (c := pre ++ (b'.map bv ++ slack)) rfl rfl rfl inferInstance (by simp; omega) inferInstance ?_)
            rw [show pre.length + ((0 : Int)).toNat * 1 = pre.length + 0 by omega, show (u8v (x + 1)) = bv (x + 1) from rfl, setm (by simp; omega), bv_set]
            refine to_nil (by kernel_rfl) (.block_normal (.then_normal ?_))
            refine .sub (F' := [(4, _), (5, _), (6, _), (7, _), (11, _), (15, _), (16, _), (18, _), (22, _)]) (.cons rfl (.cons rfl (.cons rfl (.cons rfl (.cons rfl (.cons rfl (.cons rfl (.cons rfl (.cons rfl .nil))))))))) ?_
            refine x_region ?_
            refine tl_y rfl (y_move (v := .int _ _) rfl) ?_
            refine tl_y rfl (y_addI rfl rfl (by omega)) ?_
            refine tl_y rfl (y_assign (v := .int _ _) rfl) ?_
            refine tl_nil (.loop_next (m' := H - (k + 1)) (by omega) (F' := [(4, _), (5, _), (6, _), (7, _), (11, _), (15, _), (16, _), (18, _), (22, _)]) (.cons rfl (.cons rfl (.cons rfl (.cons rfl (.cons rfl (.cons rfl (.cons rfl (.cons rfl (.cons rfl .nil))))))))) ?_)
            exact ⟨k + 1, bs.set k (b'.set 0 (x + 1)), _ ++ F8, rfl, by omega, by simp [hbl], fun b hb => by
              rcases List.mem_or_eq_of_mem_set hb with hb | rfl
              · exact hea b hb
              · simp; omega, rfl, hback _ _ hset, rfl, by rw [List.append_assoc]; rfl, rfl⟩
          ·
            refine .dropTo (E12 ++ lawL b1 b2 code NA nl nc WA wl wc t L) inferInstance ?_
            refine x_exit (.then_exit (.loop_exit (.block_exit (.block_normal (.then_normal ?_)))))
            refine .sub (F' := [(4, _), (5, _), (6, _), (7, _), (11, _), (15, _), (16, _)]) (.cons rfl (.cons rfl (.cons rfl (.cons rfl (.cons rfl (.cons rfl (.cons rfl .nil))))))) ?_
            refine x_region ?_
            refine tl_y rfl (y_move (v := .int _ _) rfl) ?_
            refine tl_y rfl (y_addI rfl rfl (by omega)) ?_
            refine tl_y rfl (y_assign (v := .int _ _) rfl) ?_
            refine tl_nil (.loop_next (m' := pw2 H - (i + 1)) (by omega) (F' := [(4, _), (5, _), (6, _), (7, _), (11, _), (15, _), (16, _)]) (.cons rfl (.cons rfl (.cons rfl (.cons rfl (.cons rfl (.cons rfl (.cons rfl .nil))))))) ?_)
            exact ⟨i + 1, E12, rfl, by omega, he14, hW11.mono hM14, rfl, rfl, rfl⟩
        ·
          obtain rfl : i = pw2 H := by omega
          refine x_exit (.then_exit (.loop_exit (.block_exit (.then_normal ?_))))
          refine .sub (F' := [(5, _), (7, _), (11, _)]) (.cons rfl (.cons rfl (.cons rfl .nil))) ?_
          refine x_seq (x_region ?_)
          refine tl_y rfl (y_move (v := .pointer _) rfl) ?_
          refine tl_e rfl (e_call' rfl (Next_spec (hg.mono hm7) hH (by omega) hks (by omega) hW7) ?_)
          rintro v9 M9 L9 hM9 h9
          rw [if_neg (by omega)] at h9
          obtain ⟨rfl, E12, hW12, rfl⟩ := h9
          have hm9 := hm7.trans hM9
          refine tl_y rfl (y_move (v := .tuple _) rfl) ?_
          refine tl_y rfl (y_extract rfl) ?_
          refine tl_y rfl (y_extract rfl) ?_
          refine tl_y rfl (y_extract rfl) ?_
          refine tl_y rfl (y_assign (v := .int _ _) rfl) ?_
          refine tl_y rfl (y_assign (v := .slice _ _ _) rfl) ?_
          refine tl_y rfl (y_assign (v := .bool _) rfl) ?_
          refine tl_nil (.then_normal ?_)
          refine .sub (F' := [(5, _), (7, _), (11, _), (25, _)]) (.cons rfl (.cons rfl (.cons rfl (.cons rfl .nil)))) ?_
          refine x_seq ?_
          refine x_draw0 19 ([(b2, .cells (List.toArray t.cells) 30 (0, 0))]) Keeps.mem hmix rfl ?_
          refine to_p 0 rfl (by kernel_rfl) rfl (y_move (v := .bool _) rfl) ?_
          refine to_p 1 rfl (by kernel_rfl) rfl (y_not rfl) ?_
          refine to_p 2 rfl (by kernel_rfl) rfl (y_move (v := .bool _) rfl) ?_
          refine to_set (s := 172) (u := .bool true) rfl (rfl) ?_
          refine to_p 3 rfl (by kernel_rfl) rfl (y_move (v := .pointer _) rfl) ?_
          refine to_e 4 rfl (by kernel_rfl) rfl (e_call' rfl (Skip_spec (hg.mono hm9) hH (by omega) hks (Nat.le_refl _) hW12 3 (by omega)) ?_)
          rintro _ M14 _ hM14 ⟨rfl, E14, rfl, hW14⟩
          rw [show min (3 : Int).toNat (pw2 H - pw2 H) = 0 by omega, Nat.add_zero] at hW14
          rw [show min (3 : Int).toNat (pw2 H - pw2 H) = 0 by omega]
          have hmd := madeN_lt H (pw2 H) hp1
          refine ⟨⟨(by first | exact Le.refl _ | assumption), Keeps.mem⟩, ?_⟩
          refine to_p 5 rfl (by kernel_rfl) rfl (y_eql rfl rfl) ?_
          refine to_p 6 rfl (by kernel_rfl) rfl (y_pickT rfl rfl) ?_
          refine to_p 7 rfl (by kernel_rfl) rfl (y_move (v := .bool _) rfl) ?_
          refine to_set (s := 177) (u := .bool true) rfl (rfl) ?_
          refine to_p 8 rfl (by kernel_rfl) rfl (y_move (v := .pointer _) rfl) ?_
          refine to_p 10 rfl (by kernel_rfl) rfl (y_move (v := .slice _ _ _) rfl) ?_
          refine to_p 11 rfl (by kernel_rfl) rfl (y_len rfl) ?_
          refine to_p 12 rfl (by kernel_rfl) rfl (y_mulI rfl rfl (by omega)) ?_
          refine to_p 13 rfl (by kernel_rfl) rfl (y_fieldAddr rfl) ?_
          refine to_y 14 rfl (by kernel_rfl) rfl (y_load rfl rfl (.own inferInstance inferInstance)) ?_
          refine to_p 15 rfl (by kernel_rfl) rfl (y_addI rfl rfl (by omega)) ?_
          refine to_e 9 rfl (by kernel_rfl) rfl (e_call' rfl (Made_spec hW14) ?_)
          rintro _ _ _ _ ⟨rfl, rfl, rfl⟩
          refine ⟨⟨(by first | exact Le.refl _ | assumption), Keeps.mem⟩, ?_⟩
          refine to_p 16 rfl (by kernel_rfl) rfl (y_lss rfl rfl) ?_
          refine to_p 17 rfl (by kernel_rfl) rfl (y_pickT rfl rfl) ?_
          refine to_p 18 rfl (by kernel_rfl) rfl (y_assign (v := .bool _) rfl) ?_
          refine to_nil (by kernel_rfl) (.then_normal ?_)
          refine .sub (F' := [(4, _)]) (.cons rfl .nil) ?_
          refine x_ret (ret1 rfl rfl (hm9.trans hM14) (by rw [hH, decide_eq_true (by omega)]))
end
end Go.Proofs.YtbjnjedfoiedeaaDoor
