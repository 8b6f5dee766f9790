/-
Contracts of functions, each proved by a walk through its code.
-/
import Derived.Test.YtbgdjdhbejbhkaaDoorLawAM
import Derived.Test.YtbgdjdhbejbhkaaDoorCountPure
set_option linter.unusedVariables false
set_option linter.unusedSimpArgs false
set_option linter.constructorNameAsVariable false
namespace Go.Proofs.YtbgdjdhbejbhkaaDoor
open Go Go.Eng
section
variable {G : World} {M : Mem} {L R : Own}
theorem u64_mk (n : Nat) (h : n < 18446744073709551616) : ∃ c : UInt64, c.toNat = n := ⟨UInt64.ofNat n, by rw [UInt64.toNat_ofNat', Nat.mod_eq_of_lt h]⟩
theorem div_low {k B q : Nat} (hB : 0 < B) (h1 : k < B * q) (h2 : 0 < q → B * (q - 1) ≤ k) : k / B + 1 = q := by
  have hq : 0 < q := Nat.pos_of_ne_zero fun e => by rw [e] at h1; omega
  have h3 : q - 1 ≤ k / B := (Nat.le_div_iff_mul_le hB).2 (by rw [Nat.mul_comm]; exact h2 hq)
  have h4 : k / B < q := (Nat.div_lt_iff_lt_mul hB).2 (by rw [Nat.mul_comm]; exact h1)
  omega
theorem ReserveAll_spec (hg : ShaG M) (t b : UInt8) :
    Con Tryd.prog 12 #[.int .u8 t.toNat, .int .u8 b.toNat] G M L (fun v M' L' => v = .bool true) noPanic := by
  have ht := t.toNat_lt
  have hb := b.toNat_lt
  refine enter (args := [_, _]) (fn := Tryd.f12) ⟨Tryd.func12, rfl, by kernel_rfl, by kernel_rfl⟩ 126 rfl ?_
  refine x_seq (x_region ?_)
  refine tl_y rfl (y_assign rfl) ?_
  refine tl_nil (.then_normal ?_)
  refine x_seq (x_seq (x_region ?_))
  refine tl_e rfl (e_call' rfl (awake21_spec hg) ?_)
  rintro _ M1 _ hM1 ⟨rfl, rfl⟩
  have hm := hM1
  refine tl_y rfl (y_not rfl) ?_
  refine tl_nil (.then_normal ?_)
  refine x_false rfl (rfl) ?_
  refine x_skip (.then_normal ?_)
  refine x_seq (x_region ?_)
  refine tl_y rfl (y_move (v := .int _ _) rfl) ?_
  refine tl_y rfl (y_convN64 rfl (by omega)) ?_
  refine tl_y rfl (y_remI rfl rfl (by omega)) ?_
  refine tl_y rfl (y_addN64 rfl rfl (by omega)) ?_
  obtain ⟨N, eN⟩ := u64_mk (1 + t.toNat % 60) (by omega)
  rw [show (1 + (t.toNat : Int) % 60) = (N.toNat : Int) by omega]
  refine tl_y rfl (y_assign (v := .int _ _) rfl) ?_
  refine tl_nil (.then_normal ?_)
  refine .sub (F' := [(1, _), (4, _), (5, _)]) (.cons rfl (.cons rfl (.cons rfl .nil))) ?_
  refine x_seq (x_region ?_)
  refine tl_y rfl (y_move (v := .int _ _) rfl) ?_
  refine tl_y rfl (y_convN64 rfl (by omega)) ?_
  refine tl_y rfl (y_remI rfl rfl (by omega)) ?_
  refine tl_y rfl (y_addN64 rfl rfl (by omega)) ?_
  obtain ⟨B, eB⟩ := u64_mk (1 + b.toNat % 70) (by omega)
  rw [show (1 + (b.toNat : Int) % 70) = (B.toNat : Int) by omega]
  refine tl_y rfl (y_assign (v := .int _ _) rfl) ?_
  refine tl_nil (.then_normal ?_)
  refine .sub (F' := [(4, _), (5, _), (6, _)]) (.cons rfl (.cons rfl (.cons rfl .nil))) ?_
  refine x_seq (x_region ?_)
  refine tl_e rfl (e_call' rfl (New_spec 16) ?_)
  intro _ M2 L1 hM2 hv
  replace hm := hm.trans hM2
  rw [if_neg (by omega)] at hv
  obtain ⟨d, ⟨r2, hd2, rfl⟩, rfl⟩ := hv
  refine tl_y rfl (y_move (v := .tuple _) rfl) ?_
  refine tl_y rfl (y_extract rfl) ?_
  refine tl_y rfl (y_extract rfl) ?_
  refine tl_y rfl (y_assign (v := .pointer _) rfl) ?_
  refine tl_y rfl (y_assign (v := .int _ _) rfl) ?_
  refine tl_nil (.then_normal ?_)
  refine .sub (F' := [(4, _), (5, _), (6, _), (7, _)]) (.cons rfl (.cons rfl (.cons rfl (.cons rfl .nil)))) ?_
  refine x_seq (x_seq (x_region ?_))
  refine tl_y rfl (y_move (v := .pointer _) rfl) ?_
  refine tl_y rfl (y_eqNilPtr rfl rfl) ?_
  refine tl_nil (.then_normal ?_)
  refine x_false rfl (rfl) ?_
  refine x_skip (.then_normal ?_)
  refine x_seq (x_region ?_)
  refine tl_y rfl (y_move (v := .pointer _) rfl) ?_
  refine tl_e rfl (e_call' rfl (sNew_ok (S := fresh 16) hd2 0 8 (by omega) (by rw [fresh_len]; omega)) ?_)
  rintro _ M3 _ hM3 ⟨p, rfl, r3, A3, l3, c3, hd3, hb3, rfl⟩
  replace hm := hm.trans hM3
  have hok0 : OkS (fresh 16) (s0 0 8) := okS0 (by omega) (by rw [fresh_len]; omega)
  have hmay : mayB (newX N B) ([] : List UInt8).length = true := mayB_iff.2 (by show 1 ≤ N.toNat ∧ N.toNat ≤ _ ∧ 1 ≤ B.toNat ∧ B.toNat ≤ _ ∧ (0 : UInt64).toNat ≤ N.toNat ∧ 0 ≤ 200; simp; omega)
  obtain ⟨S1, s1, eN1, hlive1, hnum1, hf1, hl1⟩ := live_new hmay
  have hw1 := newC_within (within_fresh 16) (s := s0 0 8) (show (8 : Nat) ≤ 8 by decide) [] N B
  rw [eN1] at hw1
  refine tl_y rfl (y_move (v := .tuple _) rfl) ?_
  refine tl_y rfl (y_extract rfl) ?_
  refine tl_y rfl (y_extract rfl) ?_
  refine tl_y rfl (y_assign (v := .pointer _) rfl) ?_
  refine tl_y rfl (y_assign (v := .int _ _) rfl) ?_
  refine tl_nil (.then_normal ?_)
  refine .sub (F' := [(4, _), (5, _), (6, _), (7, _), (9, _)]) (.cons rfl (.cons rfl (.cons rfl (.cons rfl (.cons rfl .nil))))) ?_
  refine x_seq (x_seq (x_region ?_))
  refine tl_y rfl (y_move (v := .pointer _) rfl) ?_
  refine tl_y rfl (y_eqNilPtr rfl rfl) ?_
  refine tl_nil (.then_normal ?_)
  refine x_false rfl (rfl) ?_
  refine x_skip (.then_normal ?_)
  refine x_seq (x_region ?_)
  refine tl_y rfl (y_move (v := .pointer _) rfl) ?_
  refine tl_y rfl (y_move (v := .int _ _) rfl) ?_
  refine tl_y rfl (y_move (v := .int _ _) rfl) ?_
  refine tl_e rfl (e_call' rfl (cNew_spec (hg.mono hm) hd3 hok0 (within_fresh 16) (by omega) hb3 (show Bytes M3 none 0 0 [] from Row.nil M3 _) N B) ?_)
  intro _ M4 _ hM4 hv
  replace hm := hm.trans hM4
  rw [eN1, if_pos rfl] at hv
  obtain ⟨c, HA, hc, rfl, hh4, r4, A4, l4, c4, hd4, hb4, rfl⟩ := hv
  refine tl_y rfl (y_move (v := .tuple _) rfl) ?_
  refine tl_y rfl (y_extract rfl) ?_
  refine tl_y rfl (y_extract rfl) ?_
  refine tl_y rfl (y_assign (v := .pointer _) rfl) ?_
  refine tl_y rfl (y_assign (v := .int _ _) rfl) ?_
  refine tl_nil (.then_normal ?_)
  refine .sub (F' := [(4, _), (5, _), (6, _), (7, _), (9, _), (11, _), (12, _)]) (.cons rfl (.cons rfl (.cons rfl (.cons rfl (.cons rfl (.cons rfl (.cons rfl .nil))))))) ?_
  refine x_seq (x_seq (x_region ?_))
  refine tl_y rfl (y_move (v := .pointer _) rfl) ?_
  refine tl_y rfl (y_eqNilPtr rfl rfl) ?_
  refine tl_y rfl (y_move (v := .bool _) rfl) ?_
  refine tl_set (s := 56) (u := .bool false) rfl (rfl) ?_
  refine tl_y rfl (y_move (v := .int _ _) rfl) ?_
  refine tl_y rfl (y_neq rfl rfl) ?_
  refine tl_y rfl (y_pickF rfl rfl) ?_
  refine tl_nil (.then_normal ?_)
  refine .sub (F' := [(4, _), (5, _), (6, _), (7, _), (9, _), (11, _), (59, _)]) (.cons rfl (.cons rfl (.cons rfl (.cons rfl (.cons rfl (.cons rfl (.cons rfl .nil))))))) ?_
  refine x_false rfl (rfl) ?_
  refine x_skip (.then_normal ?_)
  refine x_seq (x_seq (x_region ?_))
  refine tl_y rfl (y_assign rfl) ?_
  refine tl_nil (.then_normal ?_)
  refine x_block ?_
  refine x_loop (I := fun m' F D M5 L5 => ∃ (k : Nat) (S : DS) (s : SS) (x : Cn) (q : Nat) (r : DRep) (A5 : Option Addr) (l5 c5 : Nat), m' = N.toNat - k ∧ k ≤ N.toNat ∧ Le M M5 ∧ Live S s x [] ∧ S.within (9 * k + 9) ∧ x.total = N ∧ x.batch = B ∧ x.retired = false ∧ x.next.toNat = k ∧ s.num.toNat = 1 + q ∧ x.reserved.toNat = min N.toNat (B.toNat * q) ∧ k ≤ B.toNat * q ∧ q ≤ k ∧ (0 < q → B.toNat * (q - 1) < k) ∧ IsDisk M5 r S ∧ Bytes M5 A5 l5 c5 s.b ∧ Bytes M5 HA 0 hc [] ∧ D = [] ∧ L5 = dL d r S (sL p d s A5 l5 c5 :: cL c x HA 0 hc p :: L) ∧ F = [(4, .bool false), (5, .int .u64 (N.toNat : Int)), (6, .int .u64 (B.toNat : Int)), (7, .pointer (some ⟨d, 0, none⟩)), (9, .pointer (some ⟨p, 0, none⟩)), (11, .pointer (some ⟨c, 0, none⟩)), (13, .int .u64 k)]) (N.toNat) (F0 := [(4, _), (5, _), (6, _), (7, _), (9, _), (11, _), (13, _)]) ?_ (.cons rfl (.cons rfl (.cons rfl (.cons rfl (.cons rfl (.cons rfl (.cons rfl .nil))))))) ?_  -- slots [4, 5, 6, 7, 9, 11, 13], written [4, 13]
  · exact ⟨0, S1, s1, newX N B, 0, r4, A4, l4, c4, rfl, by omega, hm, hlive1, hw1, rfl, rfl, rfl, rfl, by rw [hnum1]; rfl, by simp [newX], by omega, by omega, by omega, hd4, hb4, hh4, rfl, rfl, rfl⟩
  rintro m _ _ M5 L5 ⟨k, S, s, x, q, r, A5, l5, c5, rfl, hk, hM5, hlv, hw, hxt, hxb, hxr, hxn, hnum, hres, hkq, hqk, hq, hd5, hb5, hh5, rfl, rfl, rfl⟩
  refine x_seq (x_seq (x_region ?_))
  refine tl_y rfl (y_move (v := .int _ _) rfl) ?_
  refine tl_y rfl (y_move (v := .int _ _) rfl) ?_
  refine tl_y rfl (y_lss rfl rfl) ?_
  refine tl_nil (.then_normal ?_)
  refine x_cond rfl (fun hc5 => ?_) (fun hc5 => ?_)
  ·
    have hkN : k < N.toNat := by omega
    obtain ⟨S', s', x', eT, hlv', hn', ht', hb', hr', hf', hsl', hcase⟩ := hlv.take hxr (by rw [hnum]; omega) (by rw [hxn, hxt]; exact hkN)
    have hw' := takeC_within hw (s := s) (by rw [hlv.n]; omega) x []
    rw [eT] at hw'
    refine x_skip (.then_normal ?_)
    refine x_seq ?_
    refine x_block ?_
    refine x_seq (x_region ?_)
    refine tl_y rfl (y_move (v := .pointer _) rfl) ?_
    refine tl_e rfl (e_call' rfl (Take_spec (hg.mono hM5) hd5 hlv.bears.ok hw (by omega) hb5 hh5 x) ?_)
    rintro _ M6 _ hM6 ⟨⟨r6, A6, l6, c6, hd6, hb6, rfl⟩, rfl⟩
    obtain ⟨e1, e2, e3, e4, e5⟩ : (takeC S s x []).1.1.1 = S' ∧ (takeC S s x []).1.1.2 = s' ∧ (takeC S s x []).1.2 = x' ∧ (takeC S s x []).2.1 = x.next ∧ (takeC S s x []).2.2 = 0 := by rw [eT]; exact ⟨rfl, rfl, rfl, rfl, rfl⟩
    rw [e1] at hd6
    rw [e2] at hb6
    rw [e1, e2, e3, e4, e5]
    have hBp : 0 < B.toNat := by omega
    have hmul : B.toNat * (q + 1) = B.toNat * q + B.toNat := Nat.mul_succ _ _
    obtain ⟨q', hq1, hq2, hq3, hq4, hq5⟩ : ∃ q', s'.num.toNat = 1 + q' ∧ x'.reserved.toNat = min N.toNat (B.toNat * q') ∧ k < B.toNat * q' ∧ q' ≤ k + 1 ∧ (0 < q' → B.toNat * (q' - 1) ≤ k) := by
      rcases hcase with ⟨h1, rfl, rfl, h4⟩ | ⟨h1, h2, h3⟩
      · exact ⟨q, hnum, by rw [h4]; exact hres, by omega, by omega, fun h => by have := hq h; omega⟩
      · refine ⟨q + 1, by omega, ?_, by omega, by omega, fun _ => ?_⟩
        · rw [h3, hres, hxt, hxb, hmul]; omega
        · rw [Nat.add_sub_cancel]; omega
    have hdiv := div_low hBp hq3 hq5
    have hm6 := hM5.trans hM6
    have hh6 := hh5.mono hM6
    have hbl6 : s'.b.length ≤ 140737488355328 := by have := hlv'.bears.ok.b; rw [hlv'.n] at this; omega
    refine tl_y rfl (y_move (v := .tuple _) rfl) ?_
    refine tl_y rfl (y_extract rfl) ?_
    refine tl_y rfl (y_extract rfl) ?_
    refine tl_y rfl (y_assign (v := .int _ _) rfl) ?_
    refine tl_y rfl (y_assign (v := .int _ _) rfl) ?_
    refine tl_nil (.then_normal ?_)
    refine .sub (F' := [(4, _), (5, _), (6, _), (7, _), (9, _), (11, _), (13, _), (14, _), (15, _)]) (.cons rfl (.cons rfl (.cons rfl (.cons rfl (.cons rfl (.cons rfl (.cons rfl (.cons rfl (.cons rfl .nil))))))))) ?_
    refine x_seq (x_region ?_)
    refine tl_y rfl (y_move (v := .pointer _) rfl) ?_
    refine tl_e rfl (e_call' rfl (Con.to (sL p d s' A6 l6 c6 :: (d, .cells (List.toArray (dcells r6 S')) 134 (0, 0)) :: (r6.E1 ++ (r6.E2 ++ (cL c x' HA 0 hc p :: L)))) inferInstance (Now_spec hb6 hbl6)) ?_)
    rintro _ M7 _ hM7 ⟨rfl, A7, c7, rfl, hA7⟩
    have hm7 := hm6.trans hM7
    refine .to (dL d r6 S' (sL p d s' A6 l6 c6 :: cL c x' HA 0 hc p :: L)) inferInstance ?_
    refine tl_y rfl (y_move (v := .tuple _) rfl) ?_
    refine tl_y rfl (y_extract rfl) ?_
    refine tl_y rfl (y_extract rfl) ?_
    refine tl_y rfl (y_assign (v := .slice _ _ _) rfl) ?_
    refine tl_y rfl (y_assign (v := .int _ _) rfl) ?_
    refine tl_nil (.then_normal ?_)
    refine .sub (F' := [(4, _), (5, _), (6, _), (7, _), (9, _), (11, _), (13, _), (14, _), (15, _), (17, _)]) (.cons rfl (.cons rfl (.cons rfl (.cons rfl (.cons rfl (.cons rfl (.cons rfl (.cons rfl (.cons rfl (.cons rfl .nil)))))))))) ?_
    refine x_seq (x_region ?_)
    refine tl_y rfl (y_move (v := .int _ _) rfl) ?_
    refine tl_y rfl (y_neq rfl rfl) ?_
    refine tl_y rfl (y_move (v := .bool _) rfl) ?_
    refine tl_set (s := 77) (u := .bool false) rfl (rfl) ?_
    refine tl_y rfl (y_move (v := .int _ _) rfl) ?_
    refine tl_y rfl (y_move (v := .int _ _) rfl) ?_
    refine tl_y rfl (y_neq rfl rfl) ?_
    refine tl_y rfl (y_pickF rfl rfl) ?_
    refine tl_y rfl (y_move (v := .bool _) rfl) ?_
    refine tl_set (s := 82) (u := .bool false) rfl (by rw [decide_eq_false]; omega) ?_
    refine tl_y rfl (y_move (v := .int _ _) rfl) ?_
    refine tl_y rfl (y_move (v := .int _ _) rfl) ?_
    refine tl_y rfl (y_move (v := .int _ _) rfl) ?_
    refine tl_y rfl (y_quoN64 rfl rfl (by omega)) ?_
    refine tl_y rfl (y_addN64 rfl rfl (by omega)) ?_
    refine tl_y rfl (y_neq rfl rfl) ?_
    refine tl_y rfl (y_pickF rfl rfl) ?_
    refine tl_nil (.then_normal ?_)
    refine .sub (F' := [(4, _), (5, _), (6, _), (7, _), (9, _), (11, _), (13, _), (89, _)]) (.cons rfl (.cons rfl (.cons rfl (.cons rfl (.cons rfl (.cons rfl (.cons rfl (.cons rfl .nil)))))))) ?_
    refine x_false rfl (by rw [decide_eq_false]; omega) ?_
    refine x_skip (.block_normal (.then_normal ?_))
    refine x_region ?_
    refine tl_y rfl (y_move (v := .int _ _) rfl) ?_
    refine tl_y rfl (y_addN64 rfl rfl (by omega)) ?_
    refine tl_y rfl (y_assign (v := .int _ _) rfl) ?_
    refine tl_nil (.loop_next (m' := N.toNat - (k + 1)) (by omega) (F' := [(4, _), (5, _), (6, _), (7, _), (9, _), (11, _), (13, _)]) (.cons rfl (.cons rfl (.cons rfl (.cons rfl (.cons rfl (.cons rfl (.cons rfl .nil))))))) ?_)
    exact ⟨k + 1, S', s', x', q', r6, A6, l6, c6, rfl, by omega, hm7, hlv', within_mono hw' (by omega), by rw [ht']; exact hxt, by rw [hb']; exact hxb, by rw [hr']; exact hxr, by omega, hq1, hq2, by omega, hq4, (fun h => by have := hq5 h; omega), hd6.mono hM7, hb6.mono hM7, hh6.mono hM7, rfl, rfl, rfl⟩
  ·
    obtain rfl : k = N.toNat := by omega
    have hxt' : x.next = x.total := UInt64.toNat_inj.1 (by rw [hxn, hxt])
    have eO := take_over (S := S) (s := s) (head := []) hxr hxt'
    obtain ⟨e1, e2, e3, e4, e5⟩ : (takeC S s x []).1.1.1 = S ∧ (takeC S s x []).1.1.2 = s ∧ (takeC S s x []).1.2 = x ∧ (takeC S s x []).2.1 = 0 ∧ (takeC S s x []).2.2 = 9 := by rw [eO]; exact ⟨rfl, rfl, rfl, rfl, rfl⟩
    refine x_exit (.then_exit (.loop_exit (.block_exit (.then_normal ?_))))
    refine .sub (F' := [(5, _), (7, _), (11, _)]) (.cons rfl (.cons rfl (.cons rfl .nil))) ?_
    refine x_seq (x_region ?_)
    refine tl_y rfl (y_move (v := .pointer _) rfl) ?_
    refine tl_e rfl (e_call' rfl (Count_spec hd5) ?_)
    rintro _ _ _ hM8 ⟨rfl, rfl, rfl⟩
    refine tl_y rfl (y_move (v := .tuple _) rfl) ?_
    refine tl_y rfl (y_extract rfl) ?_
    refine tl_y rfl (y_extract rfl) ?_
    refine tl_y rfl (y_assign (v := .int _ _) rfl) ?_
    refine tl_y rfl (y_assign (v := .int _ _) rfl) ?_
    refine tl_nil (.then_normal ?_)
    refine .sub (F' := [(5, _), (7, _), (11, _), (18, _)]) (.cons rfl (.cons rfl (.cons rfl (.cons rfl .nil)))) ?_
    refine x_seq (x_region ?_)
    refine tl_y rfl (y_move (v := .pointer _) rfl) ?_
    refine tl_e rfl (e_call' rfl (Take_spec (hg.mono hM5) hd5 hlv.bears.ok hw (by omega) hb5 hh5 x) ?_)
    rintro _ M9 _ hM9 ⟨⟨r9, A9, l9, c9, hd9, hb9, rfl⟩, rfl⟩
    rw [e1] at hd9
    rw [e2] at hb9
    rw [e1, e2, e3, e4, e5]
    refine tl_y rfl (y_move (v := .tuple _) rfl) ?_
    refine tl_y rfl (y_extract rfl) ?_
    refine tl_y rfl (y_extract rfl) ?_
    refine tl_y rfl (y_assign (v := .int _ _) rfl) ?_
    refine tl_y rfl (y_assign (v := .int _ _) rfl) ?_
    refine tl_nil (.then_normal ?_)
    refine .sub (F' := [(5, _), (7, _), (11, _), (18, _), (21, _)]) (.cons rfl (.cons rfl (.cons rfl (.cons rfl (.cons rfl .nil))))) ?_
    refine x_seq (x_region ?_)
    refine tl_y rfl (y_move (v := .pointer _) rfl) ?_
    refine tl_e rfl (e_call' rfl (Count_spec hd9) ?_)
    rintro _ _ _ _ ⟨rfl, rfl, rfl⟩
    refine tl_y rfl (y_move (v := .tuple _) rfl) ?_
    refine tl_y rfl (y_extract rfl) ?_
    refine tl_y rfl (y_extract rfl) ?_
    refine tl_y rfl (y_assign (v := .int _ _) rfl) ?_
    refine tl_y rfl (y_assign (v := .int _ _) rfl) ?_
    refine tl_nil (.then_normal ?_)
    refine .sub (F' := [(5, _), (11, _), (18, _), (21, _), (22, _)]) (.cons rfl (.cons rfl (.cons rfl (.cons rfl (.cons rfl .nil))))) ?_
    refine x_seq (x_region ?_)
    refine tl_y rfl (y_move (v := .int _ _) rfl) ?_
    refine tl_y rfl (y_eql rfl rfl) ?_
    refine tl_y rfl (y_move (v := .bool _) rfl) ?_
    refine tl_set (s := 107) (u := .bool true) rfl (by simp) ?_
    refine tl_y rfl (y_move (v := .int _ _) rfl) ?_
    refine tl_y rfl (y_move (v := .int _ _) rfl) ?_
    refine tl_y rfl (y_eql rfl rfl) ?_
    refine tl_y rfl (y_pickT rfl rfl) ?_
    refine tl_y rfl (y_move (v := .bool _) rfl) ?_
    refine tl_set (s := 112) (u := .bool true) rfl (by simp) ?_
    refine tl_y rfl (y_move (v := .pointer _) rfl) ?_
    refine tl_e rfl (e_call' rfl (Con.bring c inferInstance (State_spec x)) ?_)
    rintro _ _ _ _ ⟨rfl, rfl, rfl⟩
    refine tl_y rfl (y_field rfl) ?_
    refine tl_y rfl (y_move (v := .int _ _) rfl) ?_
    refine tl_y rfl (y_eql rfl rfl) ?_
    refine tl_y rfl (y_pickT rfl rfl) ?_
    refine tl_y rfl (y_move (v := .bool _) rfl) ?_
    refine tl_set (s := 119) (u := .bool true) rfl (by rw [decide_eq_true]; rw [hxn]) ?_
    refine tl_y rfl (y_move (v := .pointer _) rfl) ?_
    refine tl_e rfl (e_call' rfl (State_spec x) ?_)
    rintro _ _ _ _ ⟨rfl, rfl, rfl⟩
    refine tl_y rfl (y_field rfl) ?_
    refine tl_y rfl (y_move (v := .int _ _) rfl) ?_
    refine tl_y rfl (y_eql rfl rfl) ?_
    refine tl_y rfl (y_pickT rfl rfl) ?_
    refine tl_y rfl (y_assign (v := .bool _) rfl) ?_
    refine tl_nil (.then_normal ?_)
    refine .sub (F' := [(4, _)]) (.cons rfl .nil) ?_
    refine x_ret (ret1 rfl rfl (hM5.trans hM9) (by rw [decide_eq_true]; rw [hres]; omega))
end
end Go.Proofs.YtbgdjdhbejbhkaaDoor
