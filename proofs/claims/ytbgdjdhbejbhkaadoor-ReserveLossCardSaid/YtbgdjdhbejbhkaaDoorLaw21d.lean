/-
Contracts of functions, each proved by a walk through its code.
-/
import Derived.Test.YtbgdjdhbejbhkaaDoorLaw21c
set_option linter.unusedVariables false
set_option linter.unusedSimpArgs false
set_option linter.constructorNameAsVariable false
namespace Go.Proofs.YtbgdjdhbejbhkaaDoor
open Go Go.Eng
theorem areaB_count (S S' : DS) (h1 : S'.sure = S.sure) (h2 : S'.pend = S.pend) (h3 : S'.down = S.down) (a : Nat) : ∀ k, areaB S' a k = areaB S a k
  | 0 => rfl
  | k + 1 => by
    have e : ∀ i, readRes S' i = readRes S i := fun i => by unfold readRes; rw [h1, h2, h3]
    rw [areaB, areaB, areaB_count S S' h1 h2 h3 a k, e]
theorem Bears.up {S : DS} {s : SS} (h : Bears S s) : Bears (upped S [] [] 0) s := by
  have e1 : (upped S [] [] 0).sure = S.sure := by show upGo [] 0 S.pend S.sure = S.sure; rw [h.calm.pend]; rfl
  have e2 : (upped S [] [] 0).pend = S.pend := by rw [h.calm.pend]; rfl
  have e3 : (upped S [] [] 0).down = S.down := by rw [h.calm.down]; rfl
  have ea := areaB_count S (upped S [] [] 0) e1 e2 e3
  refine ⟨⟨rfl, rfl, rfl, rfl, Int.le_refl 0, by rw [e1]; exact h.calm.len⟩, ⟨h.ok.n, by rw [e1]; exact h.ok.in_, h.ok.at_, h.ok.b⟩, fun h0 => ?_, fun h0 => ?_⟩
  · rw [ea, ea]; exact h.zero h0
  · rw [ea, ea]; exact h.own h0
theorem Live.up {S : DS} {s : SS} {x : Cn} {head : List UInt8} (h : Live S s x head) : Live (upped S [] [] 0) s x head := ⟨h.bears.up, h.nz, h.n, h.b, h.may, h.next⟩
theorem upped_within {S : DS} {B : Nat} : (upped S [] [] 0).within B := ⟨Int.le_refl 0, by show (0 : Int) ≤ B; omega, Nat.zero_le _⟩
theorem upped_len {S : DS} {s : SS} (h : Bears S s) : (upped S [] [] 0).sure.length = S.sure.length := by show (upGo [] 0 S.pend S.sure).length = _; rw [h.calm.pend]; rfl
section
variable {G : World} {M : Mem} {L R : Own}
theorem ReserveLoss_spec (hg : ShaG M) (b : UInt8) {A : Option Addr} {n sc : Nat} {bs : List Bool} (hs : Row M 1 A n sc (bs.map Value.bool)) :
    Con Tryd.prog 13 #[.int .u8 b.toNat, .slice A n sc] G M L (fun v M' L' => v = .bool true) noPanic := by
  have hb := b.toNat_lt
  have hsl : bs.length = n := by have := hs.len; simpa using this
  refine enter (args := [_, _]) (fn := Tryd.f13) ⟨Tryd.func13, rfl, by kernel_rfl, by kernel_rfl⟩ 127 rfl ?_
  refine x_seq (x_region ?_)
  refine tl_y rfl (y_assign rfl) ?_
  refine tl_nil (.then_normal ?_)
  refine x_seq (x_seq (x_region ?_))
  refine tl_e rfl (e_call' rfl (awake21_spec hg) ?_)
  rintro _ M1 _ hM1 ⟨rfl, rfl⟩
  have hm := hM1
  refine tl_y rfl (y_not rfl) ?_
  refine tl_nil (.then_normal ?_)
  refine x_false rfl (rfl) ?_
  refine x_skip (.then_normal ?_)
  refine x_seq (x_region ?_)
  refine tl_y rfl (y_move (v := .int _ _) rfl) ?_
  refine tl_y rfl (y_convN64 rfl (by omega)) ?_
  refine tl_y rfl (y_remI rfl rfl (by omega)) ?_
  refine tl_y rfl (y_addN64 rfl rfl (by omega)) ?_
  obtain ⟨B, eB⟩ := u64_mk (1 + b.toNat % 9) (by omega)
  rw [show (1 + (b.toNat : Int) % 9) = (B.toNat : Int) by omega]
  refine tl_y rfl (y_assign (v := .int _ _) rfl) ?_
  refine tl_nil (.then_normal ?_)
  refine .sub (F' := [(1, _), (4, _), (5, _)]) (.cons rfl (.cons rfl (.cons rfl .nil))) ?_
  refine x_seq (x_region ?_)
  refine tl_y rfl (y_assign rfl) ?_
  refine tl_nil (.then_normal ?_)
  refine x_seq (x_region ?_)
  refine tl_e rfl (e_call' rfl (New_spec 16) ?_)
  intro _ M2 L1 hM2 hv
  replace hm := hm.trans hM2
  rw [if_neg (by omega)] at hv
  obtain ⟨d, ⟨r2, hd2, rfl⟩, rfl⟩ := hv
  refine tl_y rfl (y_move (v := .tuple _) rfl) ?_
  refine tl_y rfl (y_extract rfl) ?_
  refine tl_y rfl (y_extract rfl) ?_
  refine tl_y rfl (y_assign (v := .pointer _) rfl) ?_
  refine tl_y rfl (y_assign (v := .int _ _) rfl) ?_
  refine tl_nil (.then_normal ?_)
  refine .sub (F' := [(1, _), (4, _), (5, _), (6, _), (7, _)]) (.cons rfl (.cons rfl (.cons rfl (.cons rfl (.cons rfl .nil))))) ?_
  refine x_seq (x_seq (x_region ?_))
  refine tl_y rfl (y_move (v := .pointer _) rfl) ?_
  refine tl_y rfl (y_eqNilPtr rfl rfl) ?_
  refine tl_nil (.then_normal ?_)
  refine x_false rfl (rfl) ?_
  refine x_skip (.then_normal ?_)
  refine x_seq (x_region ?_)
  refine tl_y rfl (y_move (v := .pointer _) rfl) ?_
  refine tl_e rfl (e_call' rfl (sNew_ok (S := fresh 16) hd2 0 8 (by omega) (by rw [fresh_len]; omega)) ?_)
  rintro _ M3 _ hM3 ⟨p, rfl, r3, A3, l3, c3, hd3, hb3, rfl⟩
  replace hm := hm.trans hM3
  have hok0 : OkS (fresh 16) (s0 0 8) := okS0 (by omega) (by rw [fresh_len]; omega)
  have hmay : mayB (newX 40 B) ([] : List UInt8).length = true := mayB_iff.2 (by show 1 ≤ (40 : UInt64).toNat ∧ (40 : UInt64).toNat ≤ _ ∧ 1 ≤ B.toNat ∧ B.toNat ≤ _ ∧ (0 : UInt64).toNat ≤ (40 : UInt64).toNat ∧ 0 ≤ 200; simp; omega)
  obtain ⟨S1, s1, eN1, hlive1, hnum1, hf1, hl1⟩ := live_new hmay
  have hw1 := newC_within (within_fresh 16) (s := s0 0 8) (show (8 : Nat) ≤ 8 by decide) [] 40 B
  rw [eN1] at hw1
  refine tl_y rfl (y_move (v := .tuple _) rfl) ?_
  refine tl_y rfl (y_extract rfl) ?_
  refine tl_y rfl (y_extract rfl) ?_
  refine tl_y rfl (y_assign (v := .pointer _) rfl) ?_
  refine tl_y rfl (y_assign (v := .int _ _) rfl) ?_
  refine tl_nil (.then_normal ?_)
  refine .sub (F' := [(1, _), (4, _), (5, _), (6, _), (7, _), (9, _)]) (.cons rfl (.cons rfl (.cons rfl (.cons rfl (.cons rfl (.cons rfl .nil)))))) ?_
  refine x_seq (x_seq (x_region ?_))
  refine tl_y rfl (y_move (v := .pointer _) rfl) ?_
  refine tl_y rfl (y_eqNilPtr rfl rfl) ?_
  refine tl_nil (.then_normal ?_)
  refine x_false rfl (rfl) ?_
  refine x_skip (.then_normal ?_)
  refine x_seq (x_region ?_)
  refine tl_y rfl (y_move (v := .pointer _) rfl) ?_
  refine tl_y rfl (y_move (v := .int _ _) rfl) ?_
  refine tl_y rfl (y_move (v := .int _ _) rfl) ?_
  refine tl_e rfl (e_call' rfl (cNew_spec (hg.mono hm) hd3 hok0 (within_fresh 16) (by omega) hb3 (show Bytes M3 none 0 0 [] from Row.nil M3 _) 40 B) ?_)
  intro _ M4 _ hM4 hv
  replace hm := hm.trans hM4
  rw [eN1, if_pos rfl] at hv
  obtain ⟨c, HA, hc, rfl, hh4, r4, A4, l4, c4, hd4, hb4, rfl⟩ := hv
  refine tl_y rfl (y_move (v := .tuple _) rfl) ?_
  refine tl_y rfl (y_extract rfl) ?_
  refine tl_y rfl (y_extract rfl) ?_
  refine tl_y rfl (y_assign (v := .pointer _) rfl) ?_
  refine tl_y rfl (y_assign (v := .int _ _) rfl) ?_
  refine tl_nil (.then_normal ?_)
  refine .sub (F' := [(1, _), (4, _), (5, _), (6, _), (7, _), (9, _), (11, _)]) (.cons rfl (.cons rfl (.cons rfl (.cons rfl (.cons rfl (.cons rfl (.cons rfl .nil))))))) ?_
  refine x_seq (x_region ?_)
  refine tl_y rfl (y_assign rfl) ?_
  refine tl_nil (.then_normal ?_)
  refine x_seq (x_region ?_)
  refine tl_y rfl (y_assign rfl) ?_
  refine tl_nil (.then_normal ?_)
  refine x_seq (x_seq (x_region ?_))
  refine tl_y rfl (y_assign rfl) ?_
  refine tl_nil (.then_normal ?_)
  refine x_block ?_
  refine x_loop (I := fun m' F D M5 L5 => ∃ (k : Nat) (S : DS) (s : SS) (x : Cn) (g sk : Nat) (p c : Nat) (HA : Option Addr) (hl hc : Nat) (r : DRep) (A5 : Option Addr) (l5 c5 : Nat), m' = 60 - k ∧ k ≤ 60 ∧ Le M M5 ∧ Live S s x [] ∧ S.within (9 * k + 9) ∧ s.first = 0 ∧ S.sure.length = 16 ∧ x.total = 40 ∧ x.batch = B ∧ x.retired = false ∧ x.next.toNat = g + sk ∧ s.num.toNat ≤ 1 + k ∧ x.reserved.toNat < x.next.toNat + B.toNat ∧ IsDisk M5 r S ∧ Bytes M5 A5 l5 c5 s.b ∧ Bytes M5 HA hl hc [] ∧ D = [] ∧ L5 = dL d r S (sL p d s A5 l5 c5 :: cL c x HA hl hc p :: L) ∧ F = [(1, .slice A n sc), (4, .bool false), (5, .int .u64 (B.toNat : Int)), (6, .int .u64 40), (7, .pointer (some ⟨d, 0, none⟩)), (9, .pointer (some ⟨p, 0, none⟩)), (11, .pointer (some ⟨c, 0, none⟩)), (13, .int .u64 g), (14, .int .u64 sk), (15, .int .i64 k)]) (60) (F0 := [(1, _), (4, _), (5, _), (6, _), (7, _), (9, _), (11, _), (13, _), (14, _), (15, _)]) ?_ (.cons rfl (.cons rfl (.cons rfl (.cons rfl (.cons rfl (.cons rfl (.cons rfl (.cons rfl (.cons rfl (.cons rfl .nil)))))))))) ?_  -- slots [1, 4, 5, 6, 7, 9, 11, 13, 14, 15], written [4, 9, 11, 13, 14, 15]
  · exact ⟨0, S1, s1, newX 40 B, 0, 0, p, c, HA, 0, hc, r4, A4, l4, c4, rfl, by omega, hm, hlive1, hw1, hf1, hl1, rfl, rfl, rfl, rfl, (by rw [hnum1]; decide), by show (0 : UInt64).toNat < (0 : UInt64).toNat + B.toNat; simp; omega, hd4, hb4, hh4, rfl, rfl, rfl⟩
  rintro m _ _ M5 L5 ⟨k, S, s, x, g, sk, p, c, HA, hl, hc, r, A5, l5, c5, rfl, hk, hM5, hlv, hw, hf0, hlen, hxt, hxb, hxr, hxn, hnum, hres, hd5, hb5, hh5, rfl, rfl, rfl⟩
  refine x_seq (x_seq (x_region ?_))
  refine tl_y rfl (y_move (v := .int _ _) rfl) ?_
  refine tl_y rfl (y_move (v := .slice _ _ _) rfl) ?_
  refine tl_y rfl (y_len rfl) ?_
  refine tl_y rfl (y_lss rfl rfl) ?_
  refine tl_y rfl (y_move (v := .bool _) rfl) ?_
  refine tl_cases (s := 49) rfl (fun hk1 => ?_) (fun hk1 => ?_)
  ·
    have hkn : k < n := by omega
    obtain ⟨g0, o0, rfl, hcell⟩ := (hs.mono hM5).addr (by omega)
    have hv5 : (bs.map Value.bool)[k]? = some (.bool (bs.getD k false)) := by rw [List.getElem?_map, List.getElem?_eq_getElem (by omega), List.getD_eq_getElem?_getD, List.getElem?_eq_getElem (by omega)]; rfl
    have ht40 : x.total.toNat = 40 := by rw [hxt]; rfl
    have hmm := mayB_iff.1 hlv.may
    have hnx := hlv.next
    refine tl_y rfl (y_move (v := .int _ _) rfl) ?_
    refine tl_y rfl (y_lss rfl rfl) ?_
    refine tl_y rfl (y_pickT rfl rfl) ?_
    refine tl_nil (.then_normal ?_)
    refine .sub (F' := [(1, _), (4, _), (5, _), (6, _), (7, _), (9, _), (11, _), (13, _), (14, _), (15, _), (52, _)]) (.cons rfl (.cons rfl (.cons rfl (.cons rfl (.cons rfl (.cons rfl (.cons rfl (.cons rfl (.cons rfl (.cons rfl (.cons rfl .nil))))))))))) ?_
    refine x_cond rfl (fun hc4 => ?_) (fun hc4 => ?_)
    ·
      refine x_skip (.then_normal ?_)
      refine x_seq ?_
      refine x_block ?_
      refine x_seq (x_seq (x_region ?_))
      refine tl_y rfl (y_move (v := .pointer _) rfl) ?_
      refine tl_y rfl (y_eqNilPtr rfl rfl) ?_
      refine tl_nil (.then_normal ?_)
      refine x_false rfl (rfl) ?_
      refine x_skip (.then_normal ?_)
      refine x_seq (x_seq (x_region ?_))
      refine tl_y rfl (y_move (v := .slice _ _ _) rfl) ?_
      refine tl_y rfl (y_move (v := .int _ _) rfl) ?_
      refine tl_y rfl (y_indexAddr rfl rfl (by omega)) ?_
      refine tl_y rfl (y_load rfl rfl (.at_ (hcell _ k _ hv5) (by omega))) ?_
      refine tl_nil (.then_normal ?_)
      refine .sub (F' := [(1, _), (4, _), (5, _), (6, _), (7, _), (9, _), (11, _), (13, _), (14, _), (15, _), (60, _)]) (.cons rfl (.cons rfl (.cons rfl (.cons rfl (.cons rfl (.cons rfl (.cons rfl (.cons rfl (.cons rfl (.cons rfl (.cons rfl .nil))))))))))) ?_
      refine x_condb rfl (fun hc6 => ?_) (fun hc6 => ?_)
      ·
        refine x_seq (x_region ?_)
        refine tl_y rfl (y_move (v := .pointer _) rfl) ?_
        refine tl_e rfl (e_call' rfl (Take_spec (hg.mono hM5) hd5 hlv.bears.ok hw (by omega) hb5 hh5 x) ?_)
        rintro _ M6 _ hM6 ⟨⟨r6, A6, l6, c6, hd6, hb6, rfl⟩, rfl⟩
        have hm6 := hM5.trans hM6
        obtain ⟨S', s', x', v', e', eT, hor⟩ : ∃ S' s' x' v' e', takeC S s x [] = (((S', s'), x'), (v', e')) ∧ ((e' = 9 ∧ x.next = x.total) ∨ (e' = 0 ∧ v' = x.next ∧ Live S' s' x' [] ∧ x'.next.toNat = x.next.toNat + 1 ∧ x'.total = x.total ∧ x'.batch = x.batch ∧ x'.retired = x.retired ∧ s'.first = s.first ∧ S'.sure.length = S.sure.length ∧ s'.num.toNat ≤ s.num.toNat + 1 ∧ x'.reserved.toNat < x'.next.toNat + B.toNat)) := by
          by_cases hov : x.next = x.total
          · exact ⟨_, _, _, _, _, take_over hxr hov, .inl ⟨rfl, hov⟩⟩
          · obtain ⟨S', s', x', eT, h1, h2, h3, h4, h5, h6, h7, h8⟩ := hlv.take hxr (by omega) (by have : x.next.toNat ≠ x.total.toNat := fun e => hov (UInt64.toNat_inj.1 e); omega)
            refine ⟨S', s', x', _, _, eT, .inr ⟨rfl, rfl, h1, h2, h3, h4, h5, h6, h7, ?_, ?_⟩⟩
            · rcases h8 with ⟨_, _, rfl, _⟩ | ⟨_, h, _⟩ <;> omega
            · rcases h8 with ⟨_, _, _, h⟩ | ⟨ha, _, h⟩
              · rw [h, h2]; omega
              · rw [h, h2, hxb]; omega
        have hw' := takeC_within hw (s := s) (by rw [hlv.n]; omega) x []
        rw [eT] at hw'
        obtain ⟨e1, e2, e3, e4, e5⟩ : (takeC S s x []).1.1.1 = S' ∧ (takeC S s x []).1.1.2 = s' ∧ (takeC S s x []).1.2 = x' ∧ (takeC S s x []).2.1 = v' ∧ (takeC S s x []).2.2 = e' := by rw [eT]; exact ⟨rfl, rfl, rfl, rfl, rfl⟩
        rw [e1] at hd6
        rw [e2] at hb6
        rw [e1, e2, e3, e4, e5]
        have hh6 := hh5.mono hM6
        refine tl_y rfl (y_move (v := .tuple _) rfl) ?_
        refine tl_y rfl (y_extract rfl) ?_
        refine tl_y rfl (y_extract rfl) ?_
        refine tl_y rfl (y_assign (v := .int _ _) rfl) ?_
        refine tl_y rfl (y_assign (v := .int _ _) rfl) ?_
        refine tl_nil (.then_normal ?_)
        refine .sub (F' := [(1, _), (4, _), (5, _), (6, _), (7, _), (9, _), (11, _), (13, _), (14, _), (15, _), (16, _), (17, _)]) (.cons rfl (.cons rfl (.cons rfl (.cons rfl (.cons rfl (.cons rfl (.cons rfl (.cons rfl (.cons rfl (.cons rfl (.cons rfl (.cons rfl .nil)))))))))))) ?_
        refine x_seq (x_seq (x_region ?_))
        refine tl_y rfl (y_move (v := .int _ _) rfl) ?_
        refine tl_y rfl (y_eql rfl rfl) ?_
        refine tl_nil (.then_normal ?_)
        refine x_cond rfl (fun hc7 => ?_) (fun hc7 => ?_)
        ·
          refine x_seq (x_region ?_)
          refine tl_y rfl (y_move (v := .int _ _) rfl) ?_
          refine tl_y rfl (y_move (v := .int _ _) rfl) ?_
          refine tl_y rfl (y_addN64 rfl rfl (by omega)) ?_
          refine tl_y rfl (y_move (v := .int _ _) rfl) ?_
          refine tl_y rfl (y_eql rfl rfl) ?_
          refine tl_y rfl (y_assign (v := .bool _) rfl) ?_
          refine tl_nil (.then_normal ?_)
          refine .sub (F' := [(1, _), (4, _), (5, _), (6, _), (7, _), (9, _), (11, _), (13, _), (14, _), (15, _)]) (.cons rfl (.cons rfl (.cons rfl (.cons rfl (.cons rfl (.cons rfl (.cons rfl (.cons rfl (.cons rfl (.cons rfl .nil)))))))))) ?_
          refine x_ret (.then_ret (.then_ret (.block_ret (.then_ret (.loop_ret (.block_ret (.then_ret (ret1 rfl rfl hm6 (by
  rcases hor with ⟨_, h⟩ | ⟨rfl, _⟩
  · rw [decide_eq_true]; rw [h, ht40] at hxn; omega
  · exact absurd hc7 (by decide))))))))))
        ·
          obtain ⟨rfl, rfl, hlv', h2, h3, h4, h5, h6, h7, h8, h9⟩ : e' = 0 ∧ v' = x.next ∧ Live S' s' x' [] ∧ x'.next.toNat = x.next.toNat + 1 ∧ x'.total = x.total ∧ x'.batch = x.batch ∧ x'.retired = x.retired ∧ s'.first = s.first ∧ S'.sure.length = S.sure.length ∧ s'.num.toNat ≤ s.num.toNat + 1 ∧ x'.reserved.toNat < x'.next.toNat + B.toNat := by
            rcases hor with ⟨h, _⟩ | h
            · exact absurd h hc7
            · exact h
          refine x_skip (.then_normal ?_)
          refine x_seq (x_seq (x_region ?_))
          refine tl_y rfl (y_move (v := .int _ _) rfl) ?_
          refine tl_y rfl (y_neq rfl rfl) ?_
          refine tl_y rfl (y_move (v := .bool _) rfl) ?_
          refine tl_set (s := 75) (u := .bool false) rfl (rfl) ?_
          refine tl_y rfl (y_move (v := .int _ _) rfl) ?_
          refine tl_y rfl (y_move (v := .int _ _) rfl) ?_
          refine tl_y rfl (y_move (v := .int _ _) rfl) ?_
          refine tl_y rfl (y_addN64 rfl rfl (by omega)) ?_
          refine tl_y rfl (y_neq rfl rfl) ?_
          refine tl_y rfl (y_pickF rfl rfl) ?_
          refine tl_nil (.then_normal ?_)
          refine .sub (F' := [(1, _), (4, _), (5, _), (6, _), (7, _), (9, _), (11, _), (13, _), (14, _), (15, _), (81, _)]) (.cons rfl (.cons rfl (.cons rfl (.cons rfl (.cons rfl (.cons rfl (.cons rfl (.cons rfl (.cons rfl (.cons rfl (.cons rfl .nil))))))))))) ?_
          refine x_false rfl (by rw [decide_eq_false]; omega) ?_
          refine x_skip (.then_normal ?_)
          refine x_seq (x_region ?_)
          refine tl_y rfl (y_move (v := .int _ _) rfl) ?_
          refine tl_y rfl (y_addN64 rfl rfl (by omega)) ?_
          refine tl_y rfl (y_assign (v := .int _ _) rfl) ?_
          refine tl_nil (.then_normal ?_)
          refine x_exit (.then_exit (.block_exit (.then_normal ?_)))
          refine x_region ?_
          refine tl_y rfl (y_move (v := .int _ _) rfl) ?_
          refine tl_y rfl (y_addI rfl rfl (by omega)) ?_
          refine tl_y rfl (y_assign (v := .int _ _) rfl) ?_
          refine tl_nil (.loop_next (m' := 60 - (k + 1)) (by omega) (F' := [(1, _), (4, _), (5, _), (6, _), (7, _), (9, _), (11, _), (13, _), (14, _), (15, _)]) (.cons rfl (.cons rfl (.cons rfl (.cons rfl (.cons rfl (.cons rfl (.cons rfl (.cons rfl (.cons rfl (.cons rfl .nil)))))))))) ?_)
          exact ⟨k + 1, S', s', x', g + 1, sk, p, c, HA, hl, hc, r6, A6, l6, c6, rfl, by omega, hm6, hlv', within_mono hw' (by omega), by omega, by omega, by rw [h3]; exact hxt, by rw [h4]; exact hxb, by rw [h5]; exact hxr, by omega, by omega, h9, hd6, hb6, hh6, rfl, rfl, rfl⟩
      ·
        refine x_skip (.then_normal ?_)
        refine x_seq (x_region ?_)
        refine tl_y rfl (y_move (v := .pointer _) rfl) ?_
        refine tl_e rfl (e_call' rfl (Con.bring c inferInstance (State_spec x)) ?_)
        rintro _ _ _ _ ⟨rfl, rfl, rfl⟩
        refine .to (dL d r S (sL p d s A5 l5 c5 :: cL c x HA hl hc p :: L)) inferInstance ?_
        refine tl_y rfl (y_field rfl) ?_
        refine tl_y rfl (y_assign (v := .int _ _) rfl) ?_
        refine tl_nil (.then_normal ?_)
        refine .sub (F' := [(1, _), (4, _), (5, _), (6, _), (7, _), (9, _), (11, _), (13, _), (14, _), (15, _), (18, _)]) (.cons rfl (.cons rfl (.cons rfl (.cons rfl (.cons rfl (.cons rfl (.cons rfl (.cons rfl (.cons rfl (.cons rfl (.cons rfl .nil))))))))))) ?_
        refine x_seq (x_region ?_)
        refine tl_y rfl (y_move (v := .pointer _) rfl) ?_
        refine tl_y rfl (y_build rfl) ?_
        refine tl_e rfl (e_call' rfl (Up_spec hd5 (by have := hw.2.2; omega) (show Bytes _ none 0 0 [] from Row.nil _ _) (show Ints _ none 0 0 [] from Row.nil _ _) (by omega) 0) ?_)
        rintro _ M6 _ hM6 ⟨r6, hd6, rfl⟩
        have hm6 := hM5.trans hM6
        have hup := hlv.up
        have hul := upped_len hlv.bears
        refine tl_nil (.then_normal ?_)
        refine x_seq (x_region ?_)
        refine tl_y rfl (y_move (v := .pointer _) rfl) ?_
        refine tl_e rfl (e_call' rfl (sNew_ok hd6 0 8 (by omega) (by rw [hul, hlen]; omega)) ?_)
        rintro _ M7 _ hM7 ⟨p2, rfl, r7, A7, l7, c7, hd7, hb7, rfl⟩
        have hm7 := hm6.trans hM7
        have hok7 : OkS (upped S [] [] 0) (s0 0 8) := okS0 (by omega) (by rw [hul, hlen]; omega)
        obtain ⟨y, ey, y1, y2, y3, y4, y5⟩ : ∃ y : Cn, { x with next := x.reserved } = y ∧ y.next.toNat = x.reserved.toNat ∧ y.reserved = x.reserved ∧ y.total = x.total ∧ y.batch = x.batch ∧ y.retired = x.retired := ⟨_, rfl, rfl, rfl, rfl, rfl, rfl⟩
        obtain ⟨eO, hlvO⟩ := hup.opened (t := s0 0 8) (by rw [hf0]; rfl) (by rw [hlv.n]; rfl)
        rw [ey] at eO hlvO
        have hld := hup.load (t := s0 0 8) (by rw [hf0]; rfl) (by rw [hlv.n]; rfl)
        refine tl_y rfl (y_move (v := .tuple _) rfl) ?_
        refine tl_y rfl (y_extract rfl) ?_
        refine tl_y rfl (y_extract rfl) ?_
        refine tl_y rfl (y_assign (v := .pointer _) rfl) ?_
        refine tl_nil (.then_normal ?_)
        refine .sub (F' := [(1, _), (4, _), (5, _), (6, _), (7, _), (9, _), (11, _), (13, _), (14, _), (15, _), (18, _)]) (.cons rfl (.cons rfl (.cons rfl (.cons rfl (.cons rfl (.cons rfl (.cons rfl (.cons rfl (.cons rfl (.cons rfl (.cons rfl .nil))))))))))) ?_
        refine x_seq (x_seq (x_region ?_))
        refine tl_y rfl (y_move (v := .pointer _) rfl) ?_
        refine tl_y rfl (y_eqNilPtr rfl rfl) ?_
        refine tl_nil (.then_normal ?_)
        refine x_false rfl (rfl) ?_
        refine x_skip (.then_normal ?_)
        refine x_seq (x_region ?_)
        refine tl_y rfl (y_move (v := .pointer _) rfl) ?_
        refine tl_e rfl (e_call' rfl (cOpen_spec (hg.mono hm7) hd7 hok7 hb7) ?_)
        intro _ M8 _ hM8 hv
        have hm8 := hm7.trans hM8
        rw [eO, if_pos rfl, hld] at hv
        obtain ⟨c2, A8, n8, c8, rfl, hh8, r8, A9, l9, c9, hd8, hb8, rfl⟩ := hv
        refine .dropTo (dL d r8 (upped S [] [] 0) (sL p2 d s A9 l9 c9 :: cL c2 y A8 n8 c8 p2 :: L)) inferInstance ?_
        refine tl_y rfl (y_move (v := .tuple _) rfl) ?_
        refine tl_y rfl (y_extract rfl) ?_
        refine tl_y rfl (y_extract rfl) ?_
        refine tl_y rfl (y_assign (v := .pointer _) rfl) ?_
        refine tl_nil (.then_normal ?_)
        refine .sub (F' := [(1, _), (4, _), (5, _), (6, _), (7, _), (9, _), (11, _), (13, _), (14, _), (15, _), (18, _)]) (.cons rfl (.cons rfl (.cons rfl (.cons rfl (.cons rfl (.cons rfl (.cons rfl (.cons rfl (.cons rfl (.cons rfl (.cons rfl .nil))))))))))) ?_
        refine x_seq (x_seq (x_region ?_))
        refine tl_y rfl (y_move (v := .pointer _) rfl) ?_
        refine tl_y rfl (y_eqNilPtr rfl rfl) ?_
        refine tl_y rfl (y_move (v := .bool _) rfl) ?_
        refine tl_set (s := 104) (u := .bool false) rfl (rfl) ?_
        refine tl_y rfl (y_move (v := .pointer _) rfl) ?_
        refine tl_e rfl (e_call' rfl (Con.bring c2 inferInstance (State_spec y)) ?_)
        rintro _ _ _ _ ⟨rfl, rfl, rfl⟩
        refine tl_y rfl (y_field rfl) ?_
        refine tl_y rfl (y_move (v := .int _ _) rfl) ?_
        refine tl_y rfl (y_lss rfl rfl) ?_
        refine tl_y rfl (y_pickF rfl rfl) ?_
        refine tl_y rfl (y_move (v := .bool _) rfl) ?_
        refine tl_set (s := 111) (u := .bool false) rfl (by rw [decide_eq_false]; omega) ?_
        refine tl_y rfl (y_move (v := .pointer _) rfl) ?_
        refine tl_e rfl (e_call' rfl (State_spec y) ?_)
        rintro _ _ _ _ ⟨rfl, rfl, rfl⟩
        refine tl_y rfl (y_field rfl) ?_
        refine tl_y rfl (y_move (v := .int _ _) rfl) ?_
        refine tl_y rfl (y_subN64 rfl rfl (by omega)) ?_
        refine tl_y rfl (y_move (v := .int _ _) rfl) ?_
        refine tl_y rfl (y_geq rfl rfl) ?_
        refine tl_y rfl (y_pickF rfl rfl) ?_
        refine tl_nil (.then_normal ?_)
        refine .sub (F' := [(1, _), (4, _), (5, _), (6, _), (7, _), (9, _), (11, _), (13, _), (14, _), (15, _), (18, _), (119, _)]) (.cons rfl (.cons rfl (.cons rfl (.cons rfl (.cons rfl (.cons rfl (.cons rfl (.cons rfl (.cons rfl (.cons rfl (.cons rfl (.cons rfl .nil)))))))))))) ?_
        refine x_false rfl (by rw [decide_eq_false]; omega) ?_
        refine x_skip (.then_normal ?_)
        refine x_region ?_
        refine tl_y rfl (y_move (v := .int _ _) rfl) ?_
        refine tl_y rfl (y_move (v := .pointer _) rfl) ?_
        refine tl_e rfl (e_call' rfl (State_spec y) ?_)
        rintro _ _ _ _ ⟨rfl, rfl, rfl⟩
        refine .to (dL d r8 (upped S [] [] 0) (sL p2 d s A9 l9 c9 :: cL c2 y A8 n8 c8 p2 :: L)) inferInstance ?_
        refine tl_y rfl (y_field rfl) ?_
        refine tl_y rfl (y_addN64 rfl rfl (by omega)) ?_
        refine tl_y rfl (y_move (v := .int _ _) rfl) ?_
        refine tl_y rfl (y_subN64 rfl rfl (by omega)) ?_
        rw [show ((sk : Int) + (y.next.toNat : Int) - (x.next.toNat : Int)) = ((sk + x.reserved.toNat - x.next.toNat : Nat) : Int) by omega]
        refine tl_y rfl (y_assign (v := .int _ _) rfl) ?_
        refine tl_nil (.block_normal (.then_normal ?_))
        refine .sub (F' := [(1, _), (4, _), (5, _), (6, _), (7, _), (9, _), (11, _), (13, _), (14, _), (15, _)]) (.cons rfl (.cons rfl (.cons rfl (.cons rfl (.cons rfl (.cons rfl (.cons rfl (.cons rfl (.cons rfl (.cons rfl .nil)))))))))) ?_
        refine x_region ?_
        refine tl_y rfl (y_move (v := .int _ _) rfl) ?_
        refine tl_y rfl (y_addI rfl rfl (by omega)) ?_
        refine tl_y rfl (y_assign (v := .int _ _) rfl) ?_
        refine tl_nil (.loop_next (m' := 60 - (k + 1)) (by omega) (F' := [(1, _), (4, _), (5, _), (6, _), (7, _), (9, _), (11, _), (13, _), (14, _), (15, _)]) (.cons rfl (.cons rfl (.cons rfl (.cons rfl (.cons rfl (.cons rfl (.cons rfl (.cons rfl (.cons rfl (.cons rfl .nil)))))))))) ?_)
        exact ⟨k + 1, upped S [] [] 0, s, y, g, sk + x.reserved.toNat - x.next.toNat, p2, c2, A8, n8, c8, r8, A9, l9, c9, rfl, by omega, hm8, hlvO, upped_within, hf0, by rw [hul]; exact hlen, by rw [y3]; exact hxt, by rw [y4]; exact hxb, by rw [y5]; exact hxr, by omega, by omega, by rw [y2]; omega, hd8, hb8, hh8, rfl, rfl, rfl⟩
    ·
      refine x_exit (.then_exit (.loop_exit (.block_exit (.then_normal ?_))))
      refine .sub (F' := []) .nil ?_
      refine x_seq (x_region ?_)
      refine tl_y rfl (y_assign rfl) ?_
      refine tl_nil (.then_normal ?_)
      refine x_ret (ret1 rfl rfl hM5 rfl)
  ·
    refine tl_skip rfl ?_
    refine tl_skip rfl ?_
    refine tl_y rfl (y_pickF rfl rfl) ?_
    refine tl_nil (.then_normal ?_)
    refine .sub (F' := [(1, _), (4, _), (5, _), (6, _), (7, _), (9, _), (11, _), (13, _), (14, _), (15, _), (52, _)]) (.cons rfl (.cons rfl (.cons rfl (.cons rfl (.cons rfl (.cons rfl (.cons rfl (.cons rfl (.cons rfl (.cons rfl (.cons rfl .nil))))))))))) ?_
    refine x_false rfl rfl ?_
    refine x_exit (.then_exit (.loop_exit (.block_exit (.then_normal ?_))))
    refine .sub (F' := []) .nil ?_
    refine x_seq (x_region ?_)
    refine tl_y rfl (y_assign rfl) ?_
    refine tl_nil (.then_normal ?_)
    refine x_ret (ret1 rfl rfl hM5 rfl)
end
end Go.Proofs.YtbgdjdhbejbhkaaDoor
