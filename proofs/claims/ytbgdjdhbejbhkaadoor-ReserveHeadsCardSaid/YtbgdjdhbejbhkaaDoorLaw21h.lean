/-
Contracts of functions, each proved by a walk through its code.
-/
import Derived.Test.YtbgdjdhbejbhkaaDoorLaw21e
set_option linter.unusedVariables false
set_option linter.unusedSimpArgs false
set_option linter.constructorNameAsVariable false
namespace Go.Proofs.YtbgdjdhbejbhkaaDoor
open Go Go.Eng
section
variable {G : World} {M : Mem} {L R : Own}
theorem u8s_get {us : List UInt8} {k : Nat} (h : k < us.length) : (us.map bv)[k]? = some (bv (us.getD k 0)) := by
  rw [List.getElem?_map, List.getD_eq_getElem?_getD, List.getElem?_eq_getElem h]; rfl
theorem ReserveHeads_spec (hg : ShaG M) {A : Option Addr} {n sc : Nat} {head : List UInt8} (hs : Bytes M A n sc head) (t : UInt8) :
    Con Tryd.prog 10 #[.slice A n sc, .int .u8 t.toNat] G M L (fun v M' L' => v = .bool true) noPanic := by
  have ht := t.toNat_lt
  have hsl := hs.size
  refine enter (args := [_, _]) (fn := Tryd.f10) ⟨Tryd.func10, rfl, by kernel_rfl, by kernel_rfl⟩ 123 rfl ?_
  refine x_seq (x_region ?_)
  refine tl_y rfl (y_assign rfl) ?_
  refine tl_nil (.then_normal ?_)
  refine x_seq (x_seq (x_region ?_))
  refine tl_e rfl (e_call' rfl (awake21_spec hg) ?_)
  rintro _ M1 _ hM1 ⟨rfl, rfl⟩
  have hm := hM1
  refine tl_y rfl (y_not rfl) ?_
  refine tl_nil (.then_normal ?_)
  refine x_false rfl (rfl) ?_
  refine x_skip (.then_normal ?_)
  refine x_seq (x_seq (x_region ?_))
  refine tl_y rfl (y_move (v := .slice _ _ _) rfl) ?_
  refine tl_y rfl (y_len rfl) ?_
  refine tl_y rfl (y_gtr rfl rfl) ?_
  refine tl_nil (.then_normal ?_)
  refine .sub (F' := [(0, _), (1, _), (4, _), (24, _)]) (.cons rfl (.cons rfl (.cons rfl (.cons rfl .nil)))) ?_
  refine x_cond rfl (fun hc2 => ?_) (fun hc2 => ?_)
  ·
    refine x_seq (x_region ?_)
    refine tl_y rfl (y_assign rfl) ?_
    refine tl_nil (.then_normal ?_)
    refine x_ret (.then_ret (ret1 rfl rfl hm rfl))
  ·
    refine x_skip (.then_normal ?_)
    refine x_seq (x_region ?_)
    refine tl_e rfl (e_call' rfl (New_spec 16) ?_)
    intro _ M2 L1 hM2 hv
    replace hm := hm.trans hM2
    rw [if_neg (by omega)] at hv
    obtain ⟨d, ⟨r2, hd2, rfl⟩, rfl⟩ := hv
    refine tl_y rfl (y_move (v := .tuple _) rfl) ?_
    refine tl_y rfl (y_extract rfl) ?_
    refine tl_y rfl (y_extract rfl) ?_
    refine tl_y rfl (y_assign (v := .pointer _) rfl) ?_
    refine tl_y rfl (y_assign (v := .int _ _) rfl) ?_
    refine tl_nil (.then_normal ?_)
    refine .sub (F' := [(0, _), (1, _), (4, _), (5, _)]) (.cons rfl (.cons rfl (.cons rfl (.cons rfl .nil)))) ?_
    refine x_seq (x_seq (x_region ?_))
    refine tl_y rfl (y_move (v := .pointer _) rfl) ?_
    refine tl_y rfl (y_eqNilPtr rfl rfl) ?_
    refine tl_nil (.then_normal ?_)
    refine x_false rfl (rfl) ?_
    refine x_skip (.then_normal ?_)
    refine x_seq (x_region ?_)
    refine tl_y rfl (y_move (v := .pointer _) rfl) ?_
    refine tl_e rfl (e_call' rfl (sNew_ok (S := fresh 16) hd2 0 8 (by omega) (by rw [fresh_len]; omega)) ?_)
    rintro _ M3 _ hM3 ⟨p, rfl, r3, A3, l3, c3, hd3, hb3, rfl⟩
    replace hm := hm.trans hM3
    have hok0 : OkS (fresh 16) (s0 0 8) := okS0 (by omega) (by rw [fresh_len]; omega)
    have hmay : mayB (newX 100 3) head.length = true := mayB_iff.2 ⟨by decide, by decide, by decide, by decide, by decide, by omega⟩
    obtain ⟨S1, s1, eN1, hlive1, hnum1, hf1, hl1⟩ := live_new hmay
    have hw1 := newC_within (within_fresh 16) (s := s0 0 8) (show (8 : Nat) ≤ 8 by decide) head 100 3
    rw [eN1] at hw1
    refine tl_y rfl (y_move (v := .tuple _) rfl) ?_
    refine tl_y rfl (y_extract rfl) ?_
    refine tl_y rfl (y_extract rfl) ?_
    refine tl_y rfl (y_assign (v := .pointer _) rfl) ?_
    refine tl_y rfl (y_assign (v := .int _ _) rfl) ?_
    refine tl_nil (.then_normal ?_)
    refine .sub (F' := [(0, _), (1, _), (4, _), (7, _)]) (.cons rfl (.cons rfl (.cons rfl (.cons rfl .nil)))) ?_
    refine x_seq (x_seq (x_region ?_))
    refine tl_y rfl (y_move (v := .pointer _) rfl) ?_
    refine tl_y rfl (y_eqNilPtr rfl rfl) ?_
    refine tl_nil (.then_normal ?_)
    refine x_false rfl (rfl) ?_
    refine x_skip (.then_normal ?_)
    refine x_seq (x_region ?_)
    refine tl_e rfl (e_buildSlice0 (fun b1 => ?_))
    refine tl_y rfl (y_move (v := .slice _ _ _) rfl) ?_
    refine tl_e rfl (e_append1 (by decide) rfl rfl OwnRow.made00 (src_in (hs.mono hm).in_) (all_one_bv head) (by omega) (by omega) (fun A4 c4 E4 hE4 => ?_))
    rw [Nat.zero_add, List.nil_append] at hE4; rw [Nat.zero_add]
    refine .to (dL d r3 (fresh 16) (sL p d (s0 0 8) A3 l3 c3 :: (E4 ++ L))) inferInstance ?_
    refine tl_y rfl (y_assign (v := .slice _ _ _) rfl) ?_
    refine tl_nil (.then_normal ?_)
    refine .sub (F' := [(0, _), (1, _), (4, _), (7, _), (9, _)]) (.cons rfl (.cons rfl (.cons rfl (.cons rfl (.cons rfl .nil))))) ?_
    refine x_seq (x_region ?_)
    refine tl_y rfl (y_move (v := .pointer _) rfl) ?_
    refine tl_y rfl (y_move (v := .slice _ _ _) rfl) ?_
    refine tl_e rfl (e_call' rfl (cNew_in (hg.mono hm) hd3 hok0 (within_fresh 16) (by omega) hb3 hE4 100 3) ?_)
    intro _ M5 _ hM5 hv
    replace hm := hm.trans hM5
    rw [eN1, if_pos rfl] at hv
    obtain ⟨c, HA, hc, rfl, hh5, r5, A5, l5, c5, hd5, hb5, rfl⟩ := hv
    refine tl_y rfl (y_move (v := .tuple _) rfl) ?_
    refine tl_y rfl (y_extract rfl) ?_
    refine tl_y rfl (y_extract rfl) ?_
    refine tl_y rfl (y_assign (v := .pointer _) rfl) ?_
    refine tl_y rfl (y_assign (v := .int _ _) rfl) ?_
    refine tl_nil (.then_normal ?_)
    refine .sub (F' := [(0, _), (1, _), (4, _), (7, _), (9, _), (10, _)]) (.cons rfl (.cons rfl (.cons rfl (.cons rfl (.cons rfl (.cons rfl .nil)))))) ?_
    refine x_seq (x_seq (x_region ?_))
    refine tl_y rfl (y_move (v := .pointer _) rfl) ?_
    refine tl_y rfl (y_eqNilPtr rfl rfl) ?_
    refine tl_nil (.then_normal ?_)
    refine x_false rfl (rfl) ?_
    refine x_skip (.then_normal ?_)
    refine x_seq (x_seq (x_region ?_))
    refine tl_y rfl (y_assign rfl) ?_
    refine tl_nil (.then_normal ?_)
    refine x_block ?_
    refine x_loop (I := fun m' F D M6 L6 => ∃ (k : Nat) (us : List UInt8) (E : Own), m' = n - k ∧ k ≤ n ∧ M5 = M6 ∧ us.length = n ∧ OwnRow 5 1 A4 n c4 (us.map bv) E ∧ D = [] ∧ L6 = dL d r5 S1 (sL p d s1 A5 l5 c5 :: cL c (newX 100 3) HA n hc p :: (E ++ L)) ∧ F = [(0, .slice A n sc), (1, .int .u8 t.toNat), (4, .bool false), (7, .pointer (some ⟨p, 0, none⟩)), (9, .slice A4 n c4), (10, .pointer (some ⟨c, 0, none⟩)), (12, .int .i64 k)]) (n) (F0 := [(0, _), (1, _), (4, _), (7, _), (9, _), (10, _), (12, _)]) ?_ (.cons rfl (.cons rfl (.cons rfl (.cons rfl (.cons rfl (.cons rfl (.cons rfl .nil))))))) ?_  -- slots [0, 1, 4, 7, 9, 10, 12], written [12]
    · exact ⟨0, head, E4, rfl, by omega, rfl, hsl, hE4, rfl, rfl, rfl⟩
    rintro m _ _ M6 L6 ⟨k, us, E, rfl, hk, rfl, hus, hE, rfl, rfl, rfl⟩
    refine x_seq (x_seq (x_region ?_))
    refine tl_y rfl (y_move (v := .int _ _) rfl) ?_
    refine tl_y rfl (y_move (v := .slice _ _ _) rfl) ?_
    refine tl_y rfl (y_len rfl) ?_
    refine tl_y rfl (y_lss rfl rfl) ?_
    refine tl_nil (.then_normal ?_)
    refine x_cond rfl (fun hc6 => ?_) (fun hc6 => ?_)
    ·
      have hkn : k < n := by omega
      obtain ⟨g, pre, slack, hA4, hEe⟩ := hE.pos (by omega)
      subst hEe
      rw [hA4] at hE
      simp only [List.cons_append, List.nil_append]
      refine x_skip (.then_normal ?_)
      refine .sub (F' := [(0, _), (1, _), (4, _), (7, _), (9, _), (10, _), (12, _)]) (.cons rfl (.cons rfl (.cons rfl (.cons rfl (.cons rfl (.cons rfl (.cons rfl .nil))))))) ?_
      refine x_seq ?_
      refine x_block ?_
      refine x_region ?_
      refine tl_y rfl (y_move (v := .slice _ _ _) rfl) ?_
      refine tl_y rfl (y_move (v := .int _ _) rfl) ?_
      refine tl_y rfl (y_move (v := .slice _ _ _) rfl) ?_
      refine tl_y rfl (y_move (v := .int _ _) rfl) ?_
      refine tl_y rfl (y_indexAddr (b := g) (o := pre.length) (by rw [hA4]; rfl) rfl (by omega)) ?_
      refine tl_y rfl (y_load rfl rfl (.ownAt (c := pre ++ (us.map bv ++ slack)) inferInstance (by rw [List.getElem?_append_right (by omega), Nat.add_sub_cancel_left, List.getElem?_append_left (by simp; omega), Nat.mul_one]; exact u8s_get (by omega)))) ?_
      refine tl_y rfl (y_add8 (b := 1) rfl rfl) ?_
      refine tl_y rfl (y_indexAddr (b := g) (o := pre.length) (by rw [hA4]; rfl) rfl (by omega)) ?_
      refine tl_e rfl (e_storeAt (c := pre ++ (us.map bv ++ slack)) rfl rfl rfl inferInstance (by simp; omega) inferInstance ?_)
      refine tl_nil (.block_normal (.then_normal ?_))
      refine .sub (F' := [(0, _), (1, _), (4, _), (7, _), (9, _), (10, _), (12, _)]) (.cons rfl (.cons rfl (.cons rfl (.cons rfl (.cons rfl (.cons rfl (.cons rfl .nil))))))) ?_
      refine x_region ?_
      refine tl_y rfl (y_move (v := .int _ _) rfl) ?_
      refine tl_y rfl (y_addI rfl rfl (by omega)) ?_
      refine tl_y rfl (y_assign (v := .int _ _) rfl) ?_
      refine tl_nil (.loop_next (m' := n - (k + 1)) (by omega) (F' := [(0, _), (1, _), (4, _), (7, _), (9, _), (10, _), (12, _)]) (.cons rfl (.cons rfl (.cons rfl (.cons rfl (.cons rfl (.cons rfl (.cons rfl .nil))))))) ?_)
      exact ⟨k + 1, us.set k (us.getD k 0 + 1), _, rfl, by omega, rfl, by simp [hus], by rw [List.map_set]; exact hA4 ▸ hE.set k (bv (us.getD k 0 + 1)) (by simp; omega), rfl, by rw [Int.toNat_natCast, Nat.mul_one]; rfl, rfl⟩
    ·
      refine .dropTo (dL d r5 S1 (sL p d s1 A5 l5 c5 :: cL c (newX 100 3) HA n hc p :: L)) inferInstance ?_
      refine x_exit (.then_exit (.loop_exit (.block_exit (.then_normal ?_))))
      refine .sub (F' := [(0, _), (1, _), (4, _), (7, _), (10, _)]) (.cons rfl (.cons rfl (.cons rfl (.cons rfl (.cons rfl .nil))))) ?_
      refine x_seq (x_seq (x_region ?_))
      refine tl_y rfl (y_assign rfl) ?_
      refine tl_nil (.then_normal ?_)
      refine x_block ?_
      refine x_loop (I := fun m' F D M6 L6 => ∃ (k : Nat) (S : DS) (s : SS) (x : Cn) (r : DRep) (A6 : Option Addr) (l6 c6 : Nat), m' = t.toNat % 20 - k ∧ k ≤ t.toNat % 20 ∧ Le M M6 ∧ Live S s x head ∧ S.within (9 * k + 9) ∧ s.first = 0 ∧ S.sure.length = 16 ∧ x.total = 100 ∧ x.retired = false ∧ x.next.toNat = k ∧ s.num.toNat ≤ 1 + k ∧ IsDisk M6 r S ∧ Bytes M6 A6 l6 c6 s.b ∧ Bytes M6 HA n hc head ∧ D = [] ∧ L6 = dL d r S (sL p d s A6 l6 c6 :: cL c x HA n hc p :: L) ∧ F = [(0, .slice A n sc), (1, .int .u8 t.toNat), (4, .bool false), (7, .pointer (some ⟨p, 0, none⟩)), (10, .pointer (some ⟨c, 0, none⟩)), (13, .int .i64 k)]) (t.toNat % 20) (F0 := [(0, _), (1, _), (4, _), (7, _), (10, _), (13, _)]) ?_ (.cons rfl (.cons rfl (.cons rfl (.cons rfl (.cons rfl (.cons rfl .nil)))))) ?_  -- slots [0, 1, 4, 7, 10, 13], written [4, 13]
      · exact ⟨0, S1, s1, newX 100 3, r5, A5, l5, c5, rfl, by omega, hm, hlive1, hw1, hf1, hl1, rfl, rfl, rfl, (by rw [hnum1]; decide), hd5, hb5, hh5, rfl, rfl, rfl⟩
      rintro m _ _ M6 L6 ⟨k, S, s, x, r, A6, l6, c6, rfl, hk, hM6, hlv, hw, hf0, hlen, hxt, hxr, hxn, hnum, hd6, hb6, hh6, rfl, rfl, rfl⟩
      refine x_seq (x_seq (x_region ?_))
      refine tl_y rfl (y_move (v := .int _ _) rfl) ?_
      refine tl_y rfl (y_move (v := .int _ _) rfl) ?_
      refine tl_y rfl (y_convI rfl (by omega)) ?_
      refine tl_y rfl (y_remI rfl rfl (by omega)) ?_
      refine tl_y rfl (y_lss rfl rfl) ?_
      refine tl_nil (.then_normal ?_)
      refine .sub (F' := [(0, _), (1, _), (4, _), (7, _), (10, _), (13, _), (67, _)]) (.cons rfl (.cons rfl (.cons rfl (.cons rfl (.cons rfl (.cons rfl (.cons rfl .nil))))))) ?_
      refine x_cond rfl (fun hc7 => ?_) (fun hc7 => ?_)
      ·
        have hkN : k < t.toNat % 20 := by omega
        have ht100 : x.total.toNat = 100 := by rw [hxt]; rfl
        obtain ⟨S', s', x', eT, hlv', hn', ht', hb', hr', hf', hsl', hcase⟩ := hlv.take hxr (by omega) (by omega)
        have hw' := takeC_within hw (s := s) (by rw [hlv.n]; omega) x head
        rw [eT] at hw'
        have hnum' : s'.num.toNat ≤ 1 + (k + 1) := by rcases hcase with ⟨_, _, rfl, _⟩ | ⟨_, h, _⟩ <;> omega
        refine x_skip (.then_normal ?_)
        refine x_seq ?_
        refine x_block ?_
        refine x_seq (x_region ?_)
        refine tl_y rfl (y_move (v := .pointer _) rfl) ?_
        refine tl_e rfl (e_call' rfl (Take_spec (hg.mono hM6) hd6 hlv.bears.ok hw (by omega) hb6 hh6 x) ?_)
        rintro _ M7 _ hM7 ⟨⟨r7, A7, l7, c7, hd7, hb7, rfl⟩, rfl⟩
        obtain ⟨e1, e2, e3, e4, e5⟩ : (takeC S s x head).1.1.1 = S' ∧ (takeC S s x head).1.1.2 = s' ∧ (takeC S s x head).1.2 = x' ∧ (takeC S s x head).2.1 = x.next ∧ (takeC S s x head).2.2 = 0 := by rw [eT]; exact ⟨rfl, rfl, rfl, rfl, rfl⟩
        rw [e1] at hd7
        rw [e2] at hb7
        rw [e1, e2, e3, e4, e5]
        have hm7 := hM6.trans hM7
        have hh7 := hh6.mono hM7
        refine tl_y rfl (y_move (v := .tuple _) rfl) ?_
        refine tl_y rfl (y_extract rfl) ?_
        refine tl_y rfl (y_extract rfl) ?_
        refine tl_y rfl (y_assign (v := .int _ _) rfl) ?_
        refine tl_y rfl (y_assign (v := .int _ _) rfl) ?_
        refine tl_nil (.then_normal ?_)
        refine .sub (F' := [(0, _), (1, _), (4, _), (7, _), (10, _), (13, _), (15, _)]) (.cons rfl (.cons rfl (.cons rfl (.cons rfl (.cons rfl (.cons rfl (.cons rfl .nil))))))) ?_
        refine x_seq (x_region ?_)
        refine tl_y rfl (y_move (v := .pointer _) rfl) ?_
        refine tl_e rfl (e_call' rfl (Con.bring c inferInstance (Head_own x' hh7 (by omega))) ?_)
        rintro _ _ _ _ ⟨rfl, A8, c8, E8, rfl, hE8, rfl⟩
        refine .to (dL d r7 S' (sL p d s' A7 l7 c7 :: cL c x' HA n hc p :: (E8 ++ L))) inferInstance ?_
        refine tl_y rfl (y_assign (v := .slice _ _ _) rfl) ?_
        refine tl_nil (.then_normal ?_)
        refine x_seq (x_seq (x_region ?_))
        refine tl_y rfl (y_assign rfl) ?_
        refine tl_nil (.then_normal ?_)
        refine x_block ?_
        refine x_loop (I := fun m' F D M8 L8 => ∃ (j : Nat) (us : List UInt8) (E : Own), m' = n - j ∧ j ≤ n ∧ M7 = M8 ∧ us.length = n ∧ OwnRow 5 1 A8 n c8 (us.map bv) E ∧ D = [] ∧ L8 = dL d r7 S' (sL p d s' A7 l7 c7 :: cL c x' HA n hc p :: (E ++ L)) ∧ F = [(0, .slice A n sc), (1, .int .u8 t.toNat), (4, .bool false), (7, .pointer (some ⟨p, 0, none⟩)), (10, .pointer (some ⟨c, 0, none⟩)), (13, .int .i64 k), (15, .int .i64 0), (16, .slice A8 n c8), (17, .int .i64 j)]) (n) (F0 := [(0, _), (1, _), (4, _), (7, _), (10, _), (13, _), (15, _), (16, _), (17, _)]) ?_ (.cons rfl (.cons rfl (.cons rfl (.cons rfl (.cons rfl (.cons rfl (.cons rfl (.cons rfl (.cons rfl .nil))))))))) ?_  -- slots [0, 1, 4, 7, 10, 13, 15, 16, 17], written [17]
        · exact ⟨0, head, E8, rfl, by omega, rfl, hsl, hE8, rfl, rfl, rfl⟩
        rintro m _ _ M8 L8 ⟨j, us, E, rfl, hj, rfl, hus, hE, rfl, rfl, rfl⟩
        refine x_seq (x_seq (x_region ?_))
        refine tl_y rfl (y_move (v := .int _ _) rfl) ?_
        refine tl_y rfl (y_move (v := .slice _ _ _) rfl) ?_
        refine tl_y rfl (y_len rfl) ?_
        refine tl_y rfl (y_lss rfl rfl) ?_
        refine tl_nil (.then_normal ?_)
        refine x_cond rfl (fun hc8 => ?_) (fun hc8 => ?_)
        ·
          have hkn : j < n := by omega
          obtain ⟨g, pre, slack, hA4, hEe⟩ := hE.pos (by omega)
          subst hEe
          rw [hA4] at hE
          simp only [List.cons_append, List.nil_append]
          refine x_skip (.then_normal ?_)
          refine .sub (F' := [(0, _), (1, _), (4, _), (7, _), (10, _), (13, _), (15, _), (16, _), (17, _)]) (.cons rfl (.cons rfl (.cons rfl (.cons rfl (.cons rfl (.cons rfl (.cons rfl (.cons rfl (.cons rfl .nil))))))))) ?_
          refine x_seq ?_
          refine x_block ?_
          refine x_region ?_
          refine tl_y rfl (y_move (v := .slice _ _ _) rfl) ?_
          refine tl_y rfl (y_move (v := .int _ _) rfl) ?_
          refine tl_y rfl (y_move (v := .slice _ _ _) rfl) ?_
          refine tl_y rfl (y_move (v := .int _ _) rfl) ?_
          refine tl_y rfl (y_indexAddr (b := g) (o := pre.length) (by rw [hA4]; rfl) rfl (by omega)) ?_
          refine tl_y rfl (y_load rfl rfl (.ownAt (c := pre ++ (us.map bv ++ slack)) inferInstance (by rw [List.getElem?_append_right (by omega), Nat.add_sub_cancel_left, List.getElem?_append_left (by simp; omega), Nat.mul_one]; exact u8s_get (by omega)))) ?_
          refine tl_y rfl (y_add8 (b := 1) rfl rfl) ?_
          refine tl_y rfl (y_indexAddr (b := g) (o := pre.length) (by rw [hA4]; rfl) rfl (by omega)) ?_
          refine tl_e rfl (e_storeAt (c := pre ++ (us.map bv ++ slack)) rfl rfl rfl inferInstance (by simp; omega) inferInstance ?_)
          refine tl_nil (.block_normal (.then_normal ?_))
          refine .sub (F' := [(0, _), (1, _), (4, _), (7, _), (10, _), (13, _), (15, _), (16, _), (17, _)]) (.cons rfl (.cons rfl (.cons rfl (.cons rfl (.cons rfl (.cons rfl (.cons rfl (.cons rfl (.cons rfl .nil))))))))) ?_
          refine x_region ?_
          refine tl_y rfl (y_move (v := .int _ _) rfl) ?_
          refine tl_y rfl (y_addI rfl rfl (by omega)) ?_
          refine tl_y rfl (y_assign (v := .int _ _) rfl) ?_
          refine tl_nil (.loop_next (m' := n - (j + 1)) (by omega) (F' := [(0, _), (1, _), (4, _), (7, _), (10, _), (13, _), (15, _), (16, _), (17, _)]) (.cons rfl (.cons rfl (.cons rfl (.cons rfl (.cons rfl (.cons rfl (.cons rfl (.cons rfl (.cons rfl .nil))))))))) ?_)
          exact ⟨j + 1, us.set j (us.getD j 0 + 1), _, rfl, by omega, rfl, by simp [hus], by rw [List.map_set]; exact hA4 ▸ hE.set j (bv (us.getD j 0 + 1)) (by simp; omega), rfl, by rw [Int.toNat_natCast, Nat.mul_one]; rfl, rfl⟩
        ·
          refine .dropTo (dL d r7 S' (sL p d s' A7 l7 c7 :: cL c x' HA n hc p :: L)) inferInstance ?_
          refine x_exit (.then_exit (.loop_exit (.block_exit (.then_normal ?_))))
          refine .sub (F' := [(0, _), (1, _), (4, _), (7, _), (10, _), (13, _), (15, _)]) (.cons rfl (.cons rfl (.cons rfl (.cons rfl (.cons rfl (.cons rfl (.cons rfl .nil))))))) ?_
          refine x_seq (x_region ?_)
          refine tl_y rfl (y_move (v := .int _ _) rfl) ?_
          refine tl_y rfl (y_neq rfl rfl) ?_
          refine tl_y rfl (y_move (v := .bool _) rfl) ?_
          refine tl_set (s := 93) (u := .bool false) rfl (rfl) ?_
          refine tl_y rfl (y_move (v := .pointer _) rfl) ?_
          refine tl_e rfl (e_call' rfl (Con.bring c inferInstance (Head_spec x' hh7 (by omega))) ?_)
          rintro _ M9 _ hM9 ⟨rfl, A9, c9, rfl, hA9⟩
          have hm9 := hm7.trans hM9
          refine .to (dL d r7 S' (sL p d s' A7 l7 c7 :: cL c x' HA n hc p :: L)) inferInstance ?_
          refine tl_y rfl (y_move (v := .slice _ _ _) rfl) ?_
          refine tl_e rfl (e_call' rfl (same_spec hA9 (hs.mono hm9)) ?_)
          rintro _ _ _ _ ⟨rfl, rfl, rfl⟩
          refine tl_y rfl (y_not rfl) ?_
          refine tl_y rfl (y_pickF rfl rfl) ?_
          refine tl_nil (.then_normal ?_)
          refine .sub (F' := [(0, _), (1, _), (4, _), (7, _), (10, _), (13, _), (99, _)]) (.cons rfl (.cons rfl (.cons rfl (.cons rfl (.cons rfl (.cons rfl (.cons rfl .nil))))))) ?_
          refine x_false rfl (by simp) ?_
          refine x_skip (.block_normal (.then_normal ?_))
          refine x_region ?_
          refine tl_y rfl (y_move (v := .int _ _) rfl) ?_
          refine tl_y rfl (y_addI rfl rfl (by omega)) ?_
          refine tl_y rfl (y_assign (v := .int _ _) rfl) ?_
          refine tl_nil (.loop_next (m' := t.toNat % 20 - (k + 1)) (by omega) (F' := [(0, _), (1, _), (4, _), (7, _), (10, _), (13, _)]) (.cons rfl (.cons rfl (.cons rfl (.cons rfl (.cons rfl (.cons rfl .nil)))))) ?_)
          exact ⟨k + 1, S', s', x', r7, A7, l7, c7, rfl, by omega, hm9, hlv', within_mono hw' (by omega), by omega, by omega, by rw [ht']; exact hxt, by rw [hr']; exact hxr, by omega, hnum', hd7.mono hM9, hb7.mono hM9, hh7.mono hM9, rfl, rfl, rfl⟩
      ·
        obtain ⟨eO, hlvO⟩ := hlv.opened (t := s) rfl rfl
        have hld := hlv.load (t := s) rfl rfl
        refine x_exit (.then_exit (.loop_exit (.block_exit (.then_normal ?_))))
        refine .sub (F' := [(0, _), (7, _)]) (.cons rfl (.cons rfl .nil)) ?_
        refine x_seq (x_region ?_)
        refine tl_y rfl (y_move (v := .pointer _) rfl) ?_
        refine tl_e rfl (e_call' rfl (cOpen_spec (hg.mono hM6) hd6 hlv.bears.ok hb6) ?_)
        intro _ M8 _ hM8 hv
        have hm8 := hM6.trans hM8
        rw [eO, if_pos rfl, hld] at hv
        obtain ⟨c2, A8, n8, c8, rfl, hh8, r8, A9, l9, c9, hd8, hb8, rfl⟩ := hv
        have hl8 : head.length = n8 := hh8.size
        refine tl_y rfl (y_move (v := .tuple _) rfl) ?_
        refine tl_y rfl (y_extract rfl) ?_
        refine tl_y rfl (y_extract rfl) ?_
        refine tl_y rfl (y_assign (v := .pointer _) rfl) ?_
        refine tl_y rfl (y_assign (v := .int _ _) rfl) ?_
        refine tl_nil (.then_normal ?_)
        refine .sub (F' := [(0, _), (18, _), (19, _)]) (.cons rfl (.cons rfl (.cons rfl .nil))) ?_
        refine x_seq (x_region ?_)
        refine tl_y rfl (y_move (v := .pointer _) rfl) ?_
        refine tl_y rfl (y_neNilPtr rfl rfl) ?_
        refine tl_y rfl (y_move (v := .bool _) rfl) ?_
        refine tl_set (s := 107) (u := .bool true) rfl (rfl) ?_
        refine tl_y rfl (y_move (v := .int _ _) rfl) ?_
        refine tl_y rfl (y_eql rfl rfl) ?_
        refine tl_y rfl (y_pickT rfl rfl) ?_
        refine tl_y rfl (y_move (v := .bool _) rfl) ?_
        refine tl_set (s := 111) (u := .bool true) rfl (rfl) ?_
        refine tl_y rfl (y_move (v := .pointer _) rfl) ?_
        refine tl_e rfl (e_call' rfl (Con.bring c2 inferInstance (Head_spec { x with next := x.reserved } hh8 (by omega))) ?_)
        rintro _ M9 _ hM9 ⟨rfl, A10, c10, rfl, hA10⟩
        refine tl_y rfl (y_move (v := .slice _ _ _) rfl) ?_
        refine tl_e rfl (e_call' rfl (same_spec hA10 (hs.mono (hm8.trans hM9))) ?_)
        rintro _ _ _ _ ⟨rfl, rfl, rfl⟩
        refine tl_y rfl (y_pickT rfl rfl) ?_
        refine tl_y rfl (y_move (v := .bool _) rfl) ?_
        refine tl_set (s := 117) (u := .bool true) rfl (by simp) ?_
        refine tl_y rfl (y_move (v := .pointer _) rfl) ?_
        refine tl_e rfl (e_call' rfl (State_spec { x with next := x.reserved }) ?_)
        rintro _ _ _ _ ⟨rfl, rfl, rfl⟩
        refine tl_y rfl (y_field rfl) ?_
        refine tl_y rfl (y_eql rfl rfl) ?_
        refine tl_y rfl (y_pickT rfl rfl) ?_
        refine tl_y rfl (y_assign (v := .bool _) rfl) ?_
        refine tl_nil (.then_normal ?_)
        refine .sub (F' := [(4, _)]) (.cons rfl .nil) ?_
        refine x_ret (ret1 rfl rfl (hm8.trans hM9) (by rw [decide_eq_true]; rw [hxt]; rfl))
end
end Go.Proofs.YtbgdjdhbejbhkaaDoor
