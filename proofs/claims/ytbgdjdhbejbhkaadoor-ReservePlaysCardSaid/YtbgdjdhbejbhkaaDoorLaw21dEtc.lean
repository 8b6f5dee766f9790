/-
Contracts of functions, each proved by a walk through its code.
-/
import Derived.Test.YtbgdjdhbejbhkaaDoorRef21cEtc
import Derived.Test.YtbgdjdhbejbhkaaDoorLaw21eEtc
set_option linter.unusedVariables false
set_option linter.unusedSimpArgs false
set_option linter.constructorNameAsVariable false
namespace Go.Proofs.YtbgdjdhbejbhkaaDoor
open Go Go.Eng
theorem areaB_count (S S' : DS) (h1 : S'.sure = S.sure) (h2 : S'.pend = S.pend) (h3 : S'.down = S.down) (a : Nat) : ∀ k, areaB S' a k = areaB S a k
  | 0 => rfl
  | k + 1 => by
    have e : ∀ i, readRes S' i = readRes S i := fun i => by unfold readRes; rw [h1, h2, h3]
    rw [areaB, areaB, areaB_count S S' h1 h2 h3 a k, e]
theorem Bears.up {S : DS} {s : SS} (h : Bears S s) : Bears (upped S [] [] 0) s := by
  have e1 : (upped S [] [] 0).sure = S.sure := by show upGo [] 0 S.pend S.sure = S.sure; rw [h.calm.pend]; rfl
  have e2 : (upped S [] [] 0).pend = S.pend := by rw [h.calm.pend]; rfl
  have e3 : (upped S [] [] 0).down = S.down := by rw [h.calm.down]; rfl
  have ea := areaB_count S (upped S [] [] 0) e1 e2 e3
  refine ⟨⟨rfl, rfl, rfl, rfl, Int.le_refl 0, by rw [e1]; exact h.calm.len⟩, ⟨h.ok.n, by rw [e1]; exact h.ok.in_, h.ok.at_, h.ok.b⟩, fun h0 => ?_, fun h0 => ?_⟩
  · rw [ea, ea]; exact h.zero h0
  · rw [ea, ea]; exact h.own h0
theorem Live.up {S : DS} {s : SS} {x : Cn} {head : List UInt8} (h : Live S s x head) : Live (upped S [] [] 0) s x head := ⟨h.bears.up, h.nz, h.n, h.b, h.may, h.next⟩
theorem upped_within {S : DS} {B : Nat} : (upped S [] [] 0).within B := ⟨Int.le_refl 0, by show (0 : Int) ≤ B; omega, Nat.zero_le _⟩
theorem upped_len {S : DS} {s : SS} (h : Bears S s) : (upped S [] [] 0).sure.length = S.sure.length := by show (upGo [] 0 S.pend S.sure).length = _; rw [h.calm.pend]; rfl
section
variable {G : World} {M : Mem} {L R : Own}
theorem ReserveLoss_spec (hg : ShaG M) (b : UInt8) {A : Option Addr} {n sc : Nat} {bs : List Bool} (hs : Row M 1 A n sc (bs.map Value.bool)) :
    Con Tryd.prog 13 #[.int .u8 b.toNat, .slice A n sc] G M L (fun v M' L' => v = .bool true) noPanic := by
  have hb := b.toNat_lt
  have hsl : bs.length = n := by have := hs.len; simpa using this
  refine enter (args := [_, _]) (fn := Tryd.f13) ⟨Tryd.func13, rfl, by kernel_rfl, by kernel_rfl⟩ 127 rfl ?_
  refine x_seq (x_region ?_)
  refine tl_y rfl (y_assign rfl) ?_
  refine tl_nil (.then_normal ?_)
  refine x_seq (x_seq (x_region ?_))
  refine tl_e rfl (e_call' rfl (awake21_spec hg) ?_)
  rintro _ M1 _ hM1 ⟨rfl, rfl⟩
  have hm := hM1
  refine tl_y rfl (y_not rfl) ?_
  refine tl_nil (.then_normal ?_)
  refine x_false rfl (rfl) ?_
  refine x_skip (.then_normal ?_)
  refine x_seq (x_region ?_)
  refine tl_y rfl (y_move (v := .int _ _) rfl) ?_
  refine tl_y rfl (y_convN64 rfl (by omega)) ?_
  refine tl_y rfl (y_remI rfl rfl (by omega)) ?_
  refine tl_y rfl (y_addN64 rfl rfl (by omega)) ?_
  obtain ⟨B, eB⟩ := u64_mk (1 + b.toNat % 9) (by omega)
  rw [show (1 + (b.toNat : Int) % 9) = (B.toNat : Int) by omega]
  refine tl_y rfl (y_assign (v := .int _ _) rfl) ?_
  refine tl_nil (.then_normal ?_)
  refine .sub (F' := [(1, _), (4, _), (5, _)]) (.cons rfl (.cons rfl (.cons rfl .nil))) ?_
  refine x_seq (x_region ?_)
  refine tl_y rfl (y_assign rfl) ?_
  refine tl_nil (.then_normal ?_)
  refine x_seq (x_region ?_)
  refine tl_e rfl (e_call' rfl (New_spec 16) ?_)
  intro _ M2 L1 hM2 hv
  replace hm := hm.trans hM2
  rw [if_neg (by omega)] at hv
  obtain ⟨d, ⟨r2, hd2, rfl⟩, rfl⟩ := hv
  refine tl_y rfl (y_move (v := .tuple _) rfl) ?_
  refine tl_y rfl (y_extract rfl) ?_
  refine tl_y rfl (y_extract rfl) ?_
  refine tl_y rfl (y_assign (v := .pointer _) rfl) ?_
  refine tl_y rfl (y_assign (v := .int _ _) rfl) ?_
  refine tl_nil (.then_normal ?_)
  refine .sub (F' := [(1, _), (4, _), (5, _), (6, _), (7, _)]) (.cons rfl (.cons rfl (.cons rfl (.cons rfl (.cons rfl .nil))))) ?_
  refine x_seq (x_seq (x_region ?_))
  refine tl_y rfl (y_move (v := .pointer _) rfl) ?_
  refine tl_y rfl (y_eqNilPtr rfl rfl) ?_
  refine tl_nil (.then_normal ?_)
  refine x_false rfl (rfl) ?_
  refine x_skip (.then_normal ?_)
  refine x_seq (x_region ?_)
  refine tl_y rfl (y_move (v := .pointer _) rfl) ?_
  refine tl_e rfl (e_call' rfl (sNew_ok (S := fresh 16) hd2 0 8 (by omega) (by rw [fresh_len]; omega)) ?_)
  rintro _ M3 _ hM3 ⟨p, rfl, r3, A3, l3, c3, hd3, hb3, rfl⟩
  replace hm := hm.trans hM3
  have hok0 : OkS (fresh 16) (s0 0 8) := okS0 (by omega) (by rw [fresh_len]; omega)
  have hmay : mayB (newX 40 B) ([] : List UInt8).length = true := mayB_iff.2 (by show 1 ≤ (40 : UInt64).toNat ∧ (40 : UInt64).toNat ≤ _ ∧ 1 ≤ B.toNat ∧ B.toNat ≤ _ ∧ (0 : UInt64).toNat ≤ (40 : UInt64).toNat ∧ 0 ≤ 200; simp; omega)
  obtain ⟨S1, s1, eN1, hlive1, hnum1, hf1, hl1⟩ := live_new hmay
  have hw1 := newC_within (within_fresh 16) (s := s0 0 8) (show (8 : Nat) ≤ 8 by decide) [] 40 B
  rw [eN1] at hw1
  refine tl_y rfl (y_move (v := .tuple _) rfl) ?_
  refine tl_y rfl (y_extract rfl) ?_
  refine tl_y rfl (y_extract rfl) ?_
  refine tl_y rfl (y_assign (v := .pointer _) rfl) ?_
  refine tl_y rfl (y_assign (v := .int _ _) rfl) ?_
  refine tl_nil (.then_normal ?_)
  refine .sub (F' := [(1, _), (4, _), (5, _), (6, _), (7, _), (9, _)]) (.cons rfl (.cons rfl (.cons rfl (.cons rfl (.cons rfl (.cons rfl .nil)))))) ?_
  refine x_seq (x_seq (x_region ?_))
  refine tl_y rfl (y_move (v := .pointer _) rfl) ?_
  refine tl_y rfl (y_eqNilPtr rfl rfl) ?_
  refine tl_nil (.then_normal ?_)
  refine x_false rfl (rfl) ?_
  refine x_skip (.then_normal ?_)
  refine x_seq (x_region ?_)
  refine tl_y rfl (y_move (v := .pointer _) rfl) ?_
  refine tl_y rfl (y_move (v := .int _ _) rfl) ?_
  refine tl_y rfl (y_move (v := .int _ _) rfl) ?_
  refine tl_e rfl (e_call' rfl (cNew_spec (hg.mono hm) hd3 hok0 (within_fresh 16) (by omega) hb3 (show Bytes M3 none 0 0 [] from Row.nil M3 _) 40 B) ?_)
  intro _ M4 _ hM4 hv
  replace hm := hm.trans hM4
  rw [eN1, if_pos rfl] at hv
  obtain ⟨c, HA, hc, rfl, hh4, r4, A4, l4, c4, hd4, hb4, rfl⟩ := hv
  refine tl_y rfl (y_move (v := .tuple _) rfl) ?_
  refine tl_y rfl (y_extract rfl) ?_
  refine tl_y rfl (y_extract rfl) ?_
  refine tl_y rfl (y_assign (v := .pointer _) rfl) ?_
  refine tl_y rfl (y_assign (v := .int _ _) rfl) ?_
  refine tl_nil (.then_normal ?_)
  refine .sub (F' := [(1, _), (4, _), (5, _), (6, _), (7, _), (9, _), (11, _)]) (.cons rfl (.cons rfl (.cons rfl (.cons rfl (.cons rfl (.cons rfl (.cons rfl .nil))))))) ?_
  refine x_seq (x_region ?_)
  refine tl_y rfl (y_assign rfl) ?_
  refine tl_nil (.then_normal ?_)
  refine x_seq (x_region ?_)
  refine tl_y rfl (y_assign rfl) ?_
  refine tl_nil (.then_normal ?_)
  refine x_seq (x_seq (x_region ?_))
  refine tl_y rfl (y_assign rfl) ?_
  refine tl_nil (.then_normal ?_)
  refine x_block ?_
  refine x_loop (I := fun m' F D M5 L5 => ∃ (k : Nat) (S : DS) (s : SS) (x : Cn) (g sk : Nat) (p c : Nat) (HA : Option Addr) (hl hc : Nat) (r : DRep) (A5 : Option Addr) (l5 c5 : Nat), m' = 60 - k ∧ k ≤ 60 ∧ Le M M5 ∧ Live S s x [] ∧ S.within (9 * k + 9) ∧ s.first = 0 ∧ S.sure.length = 16 ∧ x.total = 40 ∧ x.batch = B ∧ x.retired = false ∧ x.next.toNat = g + sk ∧ s.num.toNat ≤ 1 + k ∧ x.reserved.toNat < x.next.toNat + B.toNat ∧ IsDisk M5 r S ∧ Bytes M5 A5 l5 c5 s.b ∧ Bytes M5 HA hl hc [] ∧ D = [] ∧ L5 = dL d r S (sL p d s A5 l5 c5 :: cL c x HA hl hc p :: L) ∧ F = [(1, .slice A n sc), (4, .bool false), (5, .int .u64 (B.toNat : Int)), (6, .int .u64 40), (7, .pointer (some ⟨d, 0, none⟩)), (9, .pointer (some ⟨p, 0, none⟩)), (11, .pointer (some ⟨c, 0, none⟩)), (13, .int .u64 g), (14, .int .u64 sk), (15, .int .i64 k)]) (60) (F0 := [(1, _), (4, _), (5, _), (6, _), (7, _), (9, _), (11, _), (13, _), (14, _), (15, _)]) ?_ (.cons rfl (.cons rfl (.cons rfl (.cons rfl (.cons rfl (.cons rfl (.cons rfl (.cons rfl (.cons rfl (.cons rfl .nil)))))))))) ?_  -- slots [1, 4, 5, 6, 7, 9, 11, 13, 14, 15], written [4, 9, 11, 13, 14, 15]
  · exact ⟨0, S1, s1, newX 40 B, 0, 0, p, c, HA, 0, hc, r4, A4, l4, c4, rfl, by omega, hm, hlive1, hw1, hf1, hl1, rfl, rfl, rfl, rfl, (by rw [hnum1]; decide), by show (0 : UInt64).toNat < (0 : UInt64).toNat + B.toNat; simp; omega, hd4, hb4, hh4, rfl, rfl, rfl⟩
  rintro m _ _ M5 L5 ⟨k, S, s, x, g, sk, p, c, HA, hl, hc, r, A5, l5, c5, rfl, hk, hM5, hlv, hw, hf0, hlen, hxt, hxb, hxr, hxn, hnum, hres, hd5, hb5, hh5, rfl, rfl, rfl⟩
  refine x_seq (x_seq (x_region ?_))
  refine tl_y rfl (y_move (v := .int _ _) rfl) ?_
  refine tl_y rfl (y_move (v := .slice _ _ _) rfl) ?_
  refine tl_y rfl (y_len rfl) ?_
  refine tl_y rfl (y_lss rfl rfl) ?_
  refine tl_y rfl (y_move (v := .bool _) rfl) ?_
  refine tl_cases (s := 49) rfl (fun hk1 => ?_) (fun hk1 => ?_)
  ·
    have hkn : k < n := by omega
    obtain ⟨g0, o0, rfl, hcell⟩ := (hs.mono hM5).addr (by omega)
    have hv5 : (bs.map Value.bool)[k]? = some (.bool (bs.getD k false)) := by rw [List.getElem?_map, List.getElem?_eq_getElem (by omega), List.getD_eq_getElem?_getD, List.getElem?_eq_getElem (by omega)]; rfl
    have ht40 : x.total.toNat = 40 := by rw [hxt]; rfl
    have hmm := mayB_iff.1 hlv.may
    have hnx := hlv.next
    refine tl_y rfl (y_move (v := .int _ _) rfl) ?_
    refine tl_y rfl (y_lss rfl rfl) ?_
    refine tl_y rfl (y_pickT rfl rfl) ?_
    refine tl_nil (.then_normal ?_)
    refine .sub (F' := [(1, _), (4, _), (5, _), (6, _), (7, _), (9, _), (11, _), (13, _), (14, _), (15, _), (52, _)]) (.cons rfl (.cons rfl (.cons rfl (.cons rfl (.cons rfl (.cons rfl (.cons rfl (.cons rfl (.cons rfl (.cons rfl (.cons rfl .nil))))))))))) ?_
    refine x_cond rfl (fun hc4 => ?_) (fun hc4 => ?_)
    ·
      refine x_skip (.then_normal ?_)
      refine x_seq ?_
      refine x_block ?_
      refine x_seq (x_seq (x_region ?_))
      refine tl_y rfl (y_move (v := .pointer _) rfl) ?_
      refine tl_y rfl (y_eqNilPtr rfl rfl) ?_
      refine tl_nil (.then_normal ?_)
      refine x_false rfl (rfl) ?_
      refine x_skip (.then_normal ?_)
      refine x_seq (x_seq (x_region ?_))
      refine tl_y rfl (y_move (v := .slice _ _ _) rfl) ?_
      refine tl_y rfl (y_move (v := .int _ _) rfl) ?_
      refine tl_y rfl (y_indexAddr rfl rfl (by omega)) ?_
      refine tl_y rfl (y_load rfl rfl (.at_ (hcell _ k _ hv5) (by omega))) ?_
      refine tl_nil (.then_normal ?_)
      refine .sub (F' := [(1, _), (4, _), (5, _), (6, _), (7, _), (9, _), (11, _), (13, _), (14, _), (15, _), (60, _)]) (.cons rfl (.cons rfl (.cons rfl (.cons rfl (.cons rfl (.cons rfl (.cons rfl (.cons rfl (.cons rfl (.cons rfl (.cons rfl .nil))))))))))) ?_
      refine x_condb rfl (fun hc6 => ?_) (fun hc6 => ?_)
      ·
        refine x_seq (x_region ?_)
        refine tl_y rfl (y_move (v := .pointer _) rfl) ?_
        refine tl_e rfl (e_call' rfl (Take_spec (hg.mono hM5) hd5 hlv.bears.ok hw (by omega) hb5 hh5 x) ?_)
        rintro _ M6 _ hM6 ⟨⟨r6, A6, l6, c6, hd6, hb6, rfl⟩, rfl⟩
        have hm6 := hM5.trans hM6
        obtain ⟨S', s', x', v', e', eT, hor⟩ : ∃ S' s' x' v' e', takeC S s x [] = (((S', s'), x'), (v', e')) ∧ ((e' = 9 ∧ x.next = x.total) ∨ (e' = 0 ∧ v' = x.next ∧ Live S' s' x' [] ∧ x'.next.toNat = x.next.toNat + 1 ∧ x'.total = x.total ∧ x'.batch = x.batch ∧ x'.retired = x.retired ∧ s'.first = s.first ∧ S'.sure.length = S.sure.length ∧ s'.num.toNat ≤ s.num.toNat + 1 ∧ x'.reserved.toNat < x'.next.toNat + B.toNat)) := by
          by_cases hov : x.next = x.total
          · exact ⟨_, _, _, _, _, take_over hxr hov, .inl ⟨rfl, hov⟩⟩
          · obtain ⟨S', s', x', eT, h1, h2, h3, h4, h5, h6, h7, h8⟩ := hlv.take hxr (by omega) (by have : x.next.toNat ≠ x.total.toNat := fun e => hov (UInt64.toNat_inj.1 e); omega)
            refine ⟨S', s', x', _, _, eT, .inr ⟨rfl, rfl, h1, h2, h3, h4, h5, h6, h7, ?_, ?_⟩⟩
            · rcases h8 with ⟨_, _, rfl, _⟩ | ⟨_, h, _⟩ <;> omega
            · rcases h8 with ⟨_, _, _, h⟩ | ⟨ha, _, h⟩
              · rw [h, h2]; omega
              · rw [h, h2, hxb]; omega
        have hw' := takeC_within hw (s := s) (by rw [hlv.n]; omega) x []
        rw [eT] at hw'
        obtain ⟨e1, e2, e3, e4, e5⟩ : (takeC S s x []).1.1.1 = S' ∧ (takeC S s x []).1.1.2 = s' ∧ (takeC S s x []).1.2 = x' ∧ (takeC S s x []).2.1 = v' ∧ (takeC S s x []).2.2 = e' := by rw [eT]; exact ⟨rfl, rfl, rfl, rfl, rfl⟩
        rw [e1] at hd6
        rw [e2] at hb6
        rw [e1, e2, e3, e4, e5]
        have hh6 := hh5.mono hM6
        refine tl_y rfl (y_move (v := .tuple _) rfl) ?_
        refine tl_y rfl (y_extract rfl) ?_
        refine tl_y rfl (y_extract rfl) ?_
        refine tl_y rfl (y_assign (v := .int _ _) rfl) ?_
        refine tl_y rfl (y_assign (v := .int _ _) rfl) ?_
        refine tl_nil (.then_normal ?_)
        refine .sub (F' := [(1, _), (4, _), (5, _), (6, _), (7, _), (9, _), (11, _), (13, _), (14, _), (15, _), (16, _), (17, _)]) (.cons rfl (.cons rfl (.cons rfl (.cons rfl (.cons rfl (.cons rfl (.cons rfl (.cons rfl (.cons rfl (.cons rfl (.cons rfl (.cons rfl .nil)))))))))))) ?_
        refine x_seq (x_seq (x_region ?_))
        refine tl_y rfl (y_move (v := .int _ _) rfl) ?_
        refine tl_y rfl (y_eql rfl rfl) ?_
        refine tl_nil (.then_normal ?_)
        refine x_cond rfl (fun hc7 => ?_) (fun hc7 => ?_)
        ·
          refine x_seq (x_region ?_)
          refine tl_y rfl (y_move (v := .int _ _) rfl) ?_
          refine tl_y rfl (y_move (v := .int _ _) rfl) ?_
          refine tl_y rfl (y_addN64 rfl rfl (by omega)) ?_
          refine tl_y rfl (y_move (v := .int _ _) rfl) ?_
          refine tl_y rfl (y_eql rfl rfl) ?_
          refine tl_y rfl (y_assign (v := .bool _) rfl) ?_
          refine tl_nil (.then_normal ?_)
          refine .sub (F' := [(1, _), (4, _), (5, _), (6, _), (7, _), (9, _), (11, _), (13, _), (14, _), (15, _)]) (.cons rfl (.cons rfl (.cons rfl (.cons rfl (.cons rfl (.cons rfl (.cons rfl (.cons rfl (.cons rfl (.cons rfl .nil)))))))))) ?_
          refine x_ret (.then_ret (.then_ret (.block_ret (.then_ret (.loop_ret (.block_ret (.then_ret (ret1 rfl rfl hm6 (by
  rcases hor with ⟨_, h⟩ | ⟨rfl, _⟩
  · rw [decide_eq_true]; rw [h, ht40] at hxn; omega
  · exact absurd hc7 (by decide))))))))))
        ·
          obtain ⟨rfl, rfl, hlv', h2, h3, h4, h5, h6, h7, h8, h9⟩ : e' = 0 ∧ v' = x.next ∧ Live S' s' x' [] ∧ x'.next.toNat = x.next.toNat + 1 ∧ x'.total = x.total ∧ x'.batch = x.batch ∧ x'.retired = x.retired ∧ s'.first = s.first ∧ S'.sure.length = S.sure.length ∧ s'.num.toNat ≤ s.num.toNat + 1 ∧ x'.reserved.toNat < x'.next.toNat + B.toNat := by
            rcases hor with ⟨h, _⟩ | h
            · exact absurd h hc7
            · exact h
          refine x_skip (.then_normal ?_)
          refine x_seq (x_seq (x_region ?_))
          refine tl_y rfl (y_move (v := .int _ _) rfl) ?_
          refine tl_y rfl (y_neq rfl rfl) ?_
          refine tl_y rfl (y_move (v := .bool _) rfl) ?_
          refine tl_set (s := 75) (u := .bool false) rfl (rfl) ?_
          refine tl_y rfl (y_move (v := .int _ _) rfl) ?_
          refine tl_y rfl (y_move (v := .int _ _) rfl) ?_
          refine tl_y rfl (y_move (v := .int _ _) rfl) ?_
          refine tl_y rfl (y_addN64 rfl rfl (by omega)) ?_
          refine tl_y rfl (y_neq rfl rfl) ?_
          refine tl_y rfl (y_pickF rfl rfl) ?_
          refine tl_nil (.then_normal ?_)
          refine .sub (F' := [(1, _), (4, _), (5, _), (6, _), (7, _), (9, _), (11, _), (13, _), (14, _), (15, _), (81, _)]) (.cons rfl (.cons rfl (.cons rfl (.cons rfl (.cons rfl (.cons rfl (.cons rfl (.cons rfl (.cons rfl (.cons rfl (.cons rfl .nil))))))))))) ?_
          refine x_false rfl (by rw [decide_eq_false]; omega) ?_
          refine x_skip (.then_normal ?_)
          refine x_seq (x_region ?_)
          refine tl_y rfl (y_move (v := .int _ _) rfl) ?_
          refine tl_y rfl (y_addN64 rfl rfl (by omega)) ?_
          refine tl_y rfl (y_assign (v := .int _ _) rfl) ?_
          refine tl_nil (.then_normal ?_)
          refine x_exit (.then_exit (.block_exit (.then_normal ?_)))
          refine x_region ?_
          refine tl_y rfl (y_move (v := .int _ _) rfl) ?_
          refine tl_y rfl (y_addI rfl rfl (by omega)) ?_
          refine tl_y rfl (y_assign (v := .int _ _) rfl) ?_
          refine tl_nil (.loop_next (m' := 60 - (k + 1)) (by omega) (F' := [(1, _), (4, _), (5, _), (6, _), (7, _), (9, _), (11, _), (13, _), (14, _), (15, _)]) (.cons rfl (.cons rfl (.cons rfl (.cons rfl (.cons rfl (.cons rfl (.cons rfl (.cons rfl (.cons rfl (.cons rfl .nil)))))))))) ?_)
          exact ⟨k + 1, S', s', x', g + 1, sk, p, c, HA, hl, hc, r6, A6, l6, c6, rfl, by omega, hm6, hlv', within_mono hw' (by omega), by omega, by omega, by rw [h3]; exact hxt, by rw [h4]; exact hxb, by rw [h5]; exact hxr, by omega, by omega, h9, hd6, hb6, hh6, rfl, rfl, rfl⟩
      ·
        refine x_skip (.then_normal ?_)
        refine x_seq (x_region ?_)
        refine tl_y rfl (y_move (v := .pointer _) rfl) ?_
        refine tl_e rfl (e_call' rfl (Con.bring c inferInstance (State_spec x)) ?_)
        rintro _ _ _ _ ⟨rfl, rfl, rfl⟩
        refine .to (dL d r S (sL p d s A5 l5 c5 :: cL c x HA hl hc p :: L)) inferInstance ?_
        refine tl_y rfl (y_field rfl) ?_
        refine tl_y rfl (y_assign (v := .int _ _) rfl) ?_
        refine tl_nil (.then_normal ?_)
        refine .sub (F' := [(1, _), (4, _), (5, _), (6, _), (7, _), (9, _), (11, _), (13, _), (14, _), (15, _), (18, _)]) (.cons rfl (.cons rfl (.cons rfl (.cons rfl (.cons rfl (.cons rfl (.cons rfl (.cons rfl (.cons rfl (.cons rfl (.cons rfl .nil))))))))))) ?_
        refine x_seq (x_region ?_)
        refine tl_y rfl (y_move (v := .pointer _) rfl) ?_
        refine tl_y rfl (y_build rfl) ?_
        refine tl_e rfl (e_call' rfl (Up_spec hd5 (by have := hw.2.2; omega) (show Bytes _ none 0 0 [] from Row.nil _ _) (show Ints _ none 0 0 [] from Row.nil _ _) (by omega) 0) ?_)
        rintro _ M6 _ hM6 ⟨r6, hd6, rfl⟩
        have hm6 := hM5.trans hM6
        have hup := hlv.up
        have hul := upped_len hlv.bears
        refine tl_nil (.then_normal ?_)
        refine x_seq (x_region ?_)
        refine tl_y rfl (y_move (v := .pointer _) rfl) ?_
        refine tl_e rfl (e_call' rfl (sNew_ok hd6 0 8 (by omega) (by rw [hul, hlen]; omega)) ?_)
        rintro _ M7 _ hM7 ⟨p2, rfl, r7, A7, l7, c7, hd7, hb7, rfl⟩
        have hm7 := hm6.trans hM7
        have hok7 : OkS (upped S [] [] 0) (s0 0 8) := okS0 (by omega) (by rw [hul, hlen]; omega)
        obtain ⟨y, ey, y1, y2, y3, y4, y5⟩ : ∃ y : Cn, { x with next := x.reserved } = y ∧ y.next.toNat = x.reserved.toNat ∧ y.reserved = x.reserved ∧ y.total = x.total ∧ y.batch = x.batch ∧ y.retired = x.retired := ⟨_, rfl, rfl, rfl, rfl, rfl, rfl⟩
        obtain ⟨eO, hlvO⟩ := hup.opened (t := s0 0 8) (by rw [hf0]; rfl) (by rw [hlv.n]; rfl)
        rw [ey] at eO hlvO
        have hld := hup.load (t := s0 0 8) (by rw [hf0]; rfl) (by rw [hlv.n]; rfl)
        refine tl_y rfl (y_move (v := .tuple _) rfl) ?_
        refine tl_y rfl (y_extract rfl) ?_
        refine tl_y rfl (y_extract rfl) ?_
        refine tl_y rfl (y_assign (v := .pointer _) rfl) ?_
        refine tl_nil (.then_normal ?_)
        refine .sub (F' := [(1, _), (4, _), (5, _), (6, _), (7, _), (9, _), (11, _), (13, _), (14, _), (15, _), (18, _)]) (.cons rfl (.cons rfl (.cons rfl (.cons rfl (.cons rfl (.cons rfl (.cons rfl (.cons rfl (.cons rfl (.cons rfl (.cons rfl .nil))))))))))) ?_
        refine x_seq (x_seq (x_region ?_))
        refine tl_y rfl (y_move (v := .pointer _) rfl) ?_
        refine tl_y rfl (y_eqNilPtr rfl rfl) ?_
        refine tl_nil (.then_normal ?_)
        refine x_false rfl (rfl) ?_
        refine x_skip (.then_normal ?_)
        refine x_seq (x_region ?_)
        refine tl_y rfl (y_move (v := .pointer _) rfl) ?_
        refine tl_e rfl (e_call' rfl (cOpen_spec (hg.mono hm7) hd7 hok7 hb7) ?_)
        intro _ M8 _ hM8 hv
        have hm8 := hm7.trans hM8
        rw [eO, if_pos rfl, hld] at hv
        obtain ⟨c2, A8, n8, c8, rfl, hh8, r8, A9, l9, c9, hd8, hb8, rfl⟩ := hv
        refine .dropTo (dL d r8 (upped S [] [] 0) (sL p2 d s A9 l9 c9 :: cL c2 y A8 n8 c8 p2 :: L)) inferInstance ?_
        refine tl_y rfl (y_move (v := .tuple _) rfl) ?_
        refine tl_y rfl (y_extract rfl) ?_
        refine tl_y rfl (y_extract rfl) ?_
        refine tl_y rfl (y_assign (v := .pointer _) rfl) ?_
        refine tl_nil (.then_normal ?_)
        refine .sub (F' := [(1, _), (4, _), (5, _), (6, _), (7, _), (9, _), (11, _), (13, _), (14, _), (15, _), (18, _)]) (.cons rfl (.cons rfl (.cons rfl (.cons rfl (.cons rfl (.cons rfl (.cons rfl (.cons rfl (.cons rfl (.cons rfl (.cons rfl .nil))))))))))) ?_
        refine x_seq (x_seq (x_region ?_))
        refine tl_y rfl (y_move (v := .pointer _) rfl) ?_
        refine tl_y rfl (y_eqNilPtr rfl rfl) ?_
        refine tl_y rfl (y_move (v := .bool _) rfl) ?_
        refine tl_set (s := 104) (u := .bool false) rfl (rfl) ?_
        refine tl_y rfl (y_move (v := .pointer _) rfl) ?_
        refine tl_e rfl (e_call' rfl (Con.bring c2 inferInstance (State_spec y)) ?_)
        rintro _ _ _ _ ⟨rfl, rfl, rfl⟩
        refine tl_y rfl (y_field rfl) ?_
        refine tl_y rfl (y_move (v := .int _ _) rfl) ?_
        refine tl_y rfl (y_lss rfl rfl) ?_
        refine tl_y rfl (y_pickF rfl rfl) ?_
        refine tl_y rfl (y_move (v := .bool _) rfl) ?_
        refine tl_set (s := 111) (u := .bool false) rfl (by rw [decide_eq_false]; omega) ?_
        refine tl_y rfl (y_move (v := .pointer _) rfl) ?_
        refine tl_e rfl (e_call' rfl (State_spec y) ?_)
        rintro _ _ _ _ ⟨rfl, rfl, rfl⟩
        refine tl_y rfl (y_field rfl) ?_
        refine tl_y rfl (y_move (v := .int _ _) rfl) ?_
        refine tl_y rfl (y_subN64 rfl rfl (by omega)) ?_
        refine tl_y rfl (y_move (v := .int _ _) rfl) ?_
        refine tl_y rfl (y_geq rfl rfl) ?_
        refine tl_y rfl (y_pickF rfl rfl) ?_
        refine tl_nil (.then_normal ?_)
        refine .sub (F' := [(1, _), (4, _), (5, _), (6, _), (7, _), (9, _), (11, _), (13, _), (14, _), (15, _), (18, _), (119, _)]) (.cons rfl (.cons rfl (.cons rfl (.cons rfl (.cons rfl (.cons rfl (.cons rfl (.cons rfl (.cons rfl (.cons rfl (.cons rfl (.cons rfl .nil)))))))))))) ?_
        refine x_false rfl (by rw [decide_eq_false]; omega) ?_
        refine x_skip (.then_normal ?_)
        refine x_region ?_
        refine tl_y rfl (y_move (v := .int _ _) rfl) ?_
        refine tl_y rfl (y_move (v := .pointer _) rfl) ?_
        refine tl_e rfl (e_call' rfl (State_spec y) ?_)
        rintro _ _ _ _ ⟨rfl, rfl, rfl⟩
        refine .to (dL d r8 (upped S [] [] 0) (sL p2 d s A9 l9 c9 :: cL c2 y A8 n8 c8 p2 :: L)) inferInstance ?_
        refine tl_y rfl (y_field rfl) ?_
        refine tl_y rfl (y_addN64 rfl rfl (by omega)) ?_
        refine tl_y rfl (y_move (v := .int _ _) rfl) ?_
        refine tl_y rfl (y_subN64 rfl rfl (by omega)) ?_
        rw [show ((sk : Int) + (y.next.toNat : Int) - (x.next.toNat : Int)) = ((sk + x.reserved.toNat - x.next.toNat : Nat) : Int) by omega]
        refine tl_y rfl (y_assign (v := .int _ _) rfl) ?_
        refine tl_nil (.block_normal (.then_normal ?_))
        refine .sub (F' := [(1, _), (4, _), (5, _), (6, _), (7, _), (9, _), (11, _), (13, _), (14, _), (15, _)]) (.cons rfl (.cons rfl (.cons rfl (.cons rfl (.cons rfl (.cons rfl (.cons rfl (.cons rfl (.cons rfl (.cons rfl .nil)))))))))) ?_
        refine x_region ?_
        refine tl_y rfl (y_move (v := .int _ _) rfl) ?_
        refine tl_y rfl (y_addI rfl rfl (by omega)) ?_
        refine tl_y rfl (y_assign (v := .int _ _) rfl) ?_
        refine tl_nil (.loop_next (m' := 60 - (k + 1)) (by omega) (F' := [(1, _), (4, _), (5, _), (6, _), (7, _), (9, _), (11, _), (13, _), (14, _), (15, _)]) (.cons rfl (.cons rfl (.cons rfl (.cons rfl (.cons rfl (.cons rfl (.cons rfl (.cons rfl (.cons rfl (.cons rfl .nil)))))))))) ?_)
        exact ⟨k + 1, upped S [] [] 0, s, y, g, sk + x.reserved.toNat - x.next.toNat, p2, c2, A8, n8, c8, r8, A9, l9, c9, rfl, by omega, hm8, hlvO, upped_within, hf0, by rw [hul]; exact hlen, by rw [y3]; exact hxt, by rw [y4]; exact hxb, by rw [y5]; exact hxr, by omega, by omega, by rw [y2]; omega, hd8, hb8, hh8, rfl, rfl, rfl⟩
    ·
      refine x_exit (.then_exit (.loop_exit (.block_exit (.then_normal ?_))))
      refine .sub (F' := []) .nil ?_
      refine x_seq (x_region ?_)
      refine tl_y rfl (y_assign rfl) ?_
      refine tl_nil (.then_normal ?_)
      refine x_ret (ret1 rfl rfl hM5 rfl)
  ·
    refine tl_skip rfl ?_
    refine tl_skip rfl ?_
    refine tl_y rfl (y_pickF rfl rfl) ?_
    refine tl_nil (.then_normal ?_)
    refine .sub (F' := [(1, _), (4, _), (5, _), (6, _), (7, _), (9, _), (11, _), (13, _), (14, _), (15, _), (52, _)]) (.cons rfl (.cons rfl (.cons rfl (.cons rfl (.cons rfl (.cons rfl (.cons rfl (.cons rfl (.cons rfl (.cons rfl (.cons rfl .nil))))))))))) ?_
    refine x_false rfl rfl ?_
    refine x_exit (.then_exit (.loop_exit (.block_exit (.then_normal ?_))))
    refine .sub (F' := []) .nil ?_
    refine x_seq (x_region ?_)
    refine tl_y rfl (y_assign rfl) ?_
    refine tl_nil (.then_normal ?_)
    refine x_ret (ret1 rfl rfl hM5 rfl)
end
end Go.Proofs.YtbgdjdhbejbhkaaDoor
set_option linter.unusedVariables false
set_option linter.unusedSimpArgs false
set_option linter.constructorNameAsVariable false
namespace Go.Proofs.YtbgdjdhbejbhkaaDoor
open Go Go.Eng
theorem put_ofNat (bs : List UInt8) (h : bs.length = 8) : putB (UInt64.ofNat (getB bs)).toNat 8 = bs := by
  have h1 := getB_lt bs
  rw [h] at h1
  rw [UInt64.toNat_ofNat', Nat.mod_eq_of_lt (by omega)]
  have := put_get bs
  rwa [h] at this
/-- What is read is written so. -/
theorem bytesC_readC {b : List UInt8} (h : (readC b).2 = 0) : mayB (readC b).1.1 (readC b).1.2.length = true ∧ bytesC (readC b).1.1 (readC b).1.2 = b := by
  by_cases h1 : b.length < 25
  · rw [readC, if_pos h1] at h; exact absurd h (by decide)
  by_cases h2 : 1 < (b.getD 24 0).toNat ∨ mayB (xOf b) (b.length - 25) = false
  · rw [readC, if_neg h1, if_pos h2] at h; exact absurd h (by decide)
  have e : readC b = ((xOf b, b.drop 25), 0) := by rw [readC, if_neg h1, if_neg h2]
  rw [e]
  refine ⟨?_, ?_⟩
  · have : (b.drop 25).length = b.length - 25 := by simp
    show mayB (xOf b) (b.drop 25).length = true
    rw [this]
    cases hm : mayB (xOf b) (b.length - 25) with
    | true => rfl
    | false => exact absurd (.inr hm) h2
  · show bytesC (xOf b) (b.drop 25) = b
    have hf : (if (xOf b).retired then (1 : UInt8) else 0) = b.getD 24 0 := by
      have hb : (b.getD 24 0).toNat ≤ 1 := by
        rcases Nat.lt_or_ge 1 (b.getD 24 0).toNat with h | h
        · exact absurd (.inl h) h2
        · exact h
      show (if (b.getD 24 0 == 1) = true then (1 : UInt8) else 0) = b.getD 24 0
      rcases Nat.eq_zero_or_pos (b.getD 24 0).toNat with h0 | h0
      · have : b.getD 24 0 = 0 := UInt8.toNat_inj.1 h0
        rw [this]; rfl
      · have : b.getD 24 0 = 1 := UInt8.toNat_inj.1 (by show _ = 1; omega)
        rw [this]; rfl
    have h24 : b.drop 24 = b.getD 24 0 :: b.drop 25 := by
      rw [List.drop_eq_getElem_cons (by omega), List.getD_eq_getElem?_getD, List.getElem?_eq_getElem (by omega)]; rfl
    rw [bytesC, hf, show putB (xOf b).total.toNat 8 = b.take 8 from put_ofNat _ (by simp; omega), show putB (xOf b).batch.toNat 8 = (b.drop 8).take 8 from put_ofNat _ (by simp; omega), show putB (xOf b).reserved.toNat 8 = (b.drop 16).take 8 from put_ofNat _ (by simp; omega), ← h24]
    have e1 : (b.drop 16).take 8 ++ b.drop 24 = b.drop 16 := by
      have := List.take_append_drop 8 (b.drop 16); rwa [List.drop_drop] at this
    have e2 : (b.drop 8).take 8 ++ b.drop 16 = b.drop 8 := by
      have := List.take_append_drop 8 (b.drop 8); rwa [List.drop_drop] at this
    rw [e1, e2, List.take_append_drop]
section
variable {G : World} {M : Mem} {L R : Own}
theorem ReserveBytes_spec (hg : ShaG M) (x : Cn) {A B : Option Addr} {n c m d : Nat} {head b : List UInt8} (hh : Bytes M A n c head) (hb : Bytes M B m d b) :
    Con Tryd.prog 9 #[.agg (List.toArray (ccells x)), .slice A n c, .slice B m d] G M L (fun v M' L' => v = .bool true) noPanic := by
  have hhl := hh.size
  have hbl := hb.size
  refine enter (args := [_, _, _]) (fn := Tryd.f9) ⟨Tryd.func9, rfl, by kernel_rfl, by kernel_rfl⟩ 122 rfl ?_
  refine x_seq (x_region ?_)
  refine tl_e rfl (e_box rfl (fun b1 => ?_))
  refine tl_y rfl (y_assign rfl) ?_
  refine tl_nil (.then_normal ?_)
  refine x_seq (x_seq (x_region ?_))
  refine tl_e rfl (e_call' rfl (awake21_spec hg) ?_)
  rintro _ M1 _ hM1 ⟨rfl, rfl⟩
  have hm := hM1
  refine tl_y rfl (y_not rfl) ?_
  refine tl_nil (.then_normal ?_)
  refine x_false rfl (rfl) ?_
  refine x_skip (.then_normal ?_)
  refine .sub (F' := [(1, _), (2, _), (3, _)]) (.cons rfl (.cons rfl (.cons rfl .nil))) ?_
  refine x_seq (x_seq (x_region ?_))
  refine tl_y rfl (y_move (v := .slice _ _ _) rfl) ?_
  refine tl_y rfl (y_len rfl) ?_
  refine tl_y rfl (y_gtr rfl rfl) ?_
  refine tl_y rfl (y_move (v := .bool _) rfl) ?_
  refine tl_cases (s := 28) rfl (fun hk1 => ?_) (fun hk1 => ?_)
  ·
    refine tl_skip rfl ?_
    refine tl_skip rfl ?_
    refine tl_skip rfl ?_
    refine tl_y rfl (y_pickT rfl rfl) ?_
    refine tl_nil (.then_normal ?_)
    refine .sub (F' := [(1, _), (2, _), (3, _), (32, _)]) (.cons rfl (.cons rfl (.cons rfl (.cons rfl .nil)))) ?_
    refine x_true rfl rfl ?_
    refine x_seq (x_region ?_)
    refine tl_y rfl (y_assign rfl) ?_
    refine tl_nil (.then_normal ?_)
    refine .sub (F' := [(6, _)]) (.cons rfl .nil) ?_
    refine x_ret (.then_ret (ret1 rfl rfl hm rfl))
  ·
    refine tl_y rfl (y_move (v := .slice _ _ _) rfl) ?_
    refine tl_y rfl (y_len rfl) ?_
    refine tl_y rfl (y_gtr rfl rfl) ?_
    refine tl_y rfl (y_pickF rfl rfl) ?_
    refine tl_nil (.then_normal ?_)
    refine .sub (F' := [(1, _), (2, _), (3, _), (32, _)]) (.cons rfl (.cons rfl (.cons rfl (.cons rfl .nil)))) ?_
    refine x_cond rfl (fun hc2 => ?_) (fun hc2 => ?_)
    ·
      refine x_seq (x_region ?_)
      refine tl_y rfl (y_assign rfl) ?_
      refine tl_nil (.then_normal ?_)
      refine .sub (F' := [(6, _)]) (.cons rfl .nil) ?_
      refine x_ret (.then_ret (ret1 rfl rfl hm rfl))
    ·
      refine x_skip (.then_normal ?_)
      refine x_seq (x_region ?_)
      refine tl_y rfl (y_loadAgg rfl rfl (.own inferInstance inferInstance)) ?_
      refine tl_y rfl (y_move (v := .slice _ _ _) rfl) ?_
      refine tl_e rfl (e_call' rfl (Bytes2_spec x (hh.mono hm)) ?_)
      rintro _ M2 _ hM2 ⟨rfl, A2, n2, c2, w, rfl, hw, ew⟩
      replace hm := hm.trans hM2
      refine tl_y rfl (y_move (v := .tuple _) rfl) ?_
      refine tl_y rfl (y_extract rfl) ?_
      refine tl_y rfl (y_extract rfl) ?_
      refine tl_y rfl (y_assign (v := .slice _ _ _) rfl) ?_
      refine tl_y rfl (y_assign (v := .int _ _) rfl) ?_
      refine tl_nil (.then_normal ?_)
      refine .sub (F' := [(1, _), (2, _), (3, _), (7, _), (8, _)]) (.cons rfl (.cons rfl (.cons rfl (.cons rfl (.cons rfl .nil))))) ?_
      refine x_seq (x_region ?_)
      refine tl_y rfl (y_loadAgg rfl rfl (.own inferInstance inferInstance)) ?_
      refine tl_y rfl (y_move (v := .slice _ _ _) rfl) ?_
      refine tl_e rfl (e_call' rfl (RBytes_spec x (hh.mono hm)) ?_)
      rintro _ M3 _ hM3 ⟨rfl, A3, n3, c3, v, rfl, hv, ev⟩
      replace hm := hm.trans hM3
      obtain rfl : v = w := by rw [ew, ev]
      refine tl_y rfl (y_move (v := .tuple _) rfl) ?_
      refine tl_y rfl (y_extract rfl) ?_
      refine tl_y rfl (y_extract rfl) ?_
      refine tl_y rfl (y_assign (v := .slice _ _ _) rfl) ?_
      refine tl_y rfl (y_assign (v := .int _ _) rfl) ?_
      refine tl_nil (.then_normal ?_)
      refine .sub (F' := [(1, _), (2, _), (3, _), (7, _), (8, _), (9, _), (10, _)]) (.cons rfl (.cons rfl (.cons rfl (.cons rfl (.cons rfl (.cons rfl (.cons rfl .nil))))))) ?_
      refine x_seq (x_region ?_)
      refine tl_y rfl (y_move (v := .slice _ _ _) rfl) ?_
      refine tl_e rfl (e_call' rfl (Read_spec' (hb.mono hm) (by omega)) ?_)
      rintro _ M4 _ hM4 ⟨rfl, A4, n4, c4, rfl, hA4⟩
      replace hm := hm.trans hM4
      refine tl_y rfl (y_move (v := .tuple _) rfl) ?_
      refine tl_y rfl (y_extract rfl) ?_
      refine tl_y rfl (y_extract rfl) ?_
      refine tl_y rfl (y_extract rfl) ?_
      refine tl_e rfl (e_alloc (fun b2 => ?_))
      refine tl_e rfl (e_store rfl rfl (by rfl) (by rfl) inferInstance inferInstance inferInstance ?_)
      refine tl_y rfl (y_assign (v := .slice _ _ _) rfl) ?_
      refine tl_y rfl (y_assign (v := .int _ _) rfl) ?_
      refine tl_nil (.then_normal ?_)
      refine .sub (F' := [(1, _), (2, _), (3, _), (7, _), (8, _), (9, _), (10, _), (11, _), (12, _), (13, _)]) (.cons rfl (.cons rfl (.cons rfl (.cons rfl (.cons rfl (.cons rfl (.cons rfl (.cons rfl (.cons rfl (.cons rfl .nil)))))))))) ?_
      refine x_seq (x_region ?_)
      refine tl_y rfl (y_move (v := .slice _ _ _) rfl) ?_
      refine tl_e rfl (e_call' rfl (RRead21_spec (hb.mono hm) (by omega)) ?_)
      rintro _ M5 _ hM5 ⟨rfl, rfl, A5, n5, c5, rfl, hA5⟩
      refine tl_y rfl (y_move (v := .tuple _) rfl) ?_
      refine tl_y rfl (y_extract rfl) ?_
      refine tl_y rfl (y_extract rfl) ?_
      refine tl_y rfl (y_extract rfl) ?_
      refine tl_e rfl (e_alloc (fun b3 => ?_))
      refine tl_e rfl (e_store rfl rfl (by rfl) (by rfl) inferInstance inferInstance inferInstance ?_)
      refine tl_y rfl (y_assign (v := .slice _ _ _) rfl) ?_
      refine tl_y rfl (y_assign (v := .int _ _) rfl) ?_
      refine tl_nil (.then_normal ?_)
      refine .sub (F' := [(1, _), (2, _), (3, _), (7, _), (8, _), (9, _), (10, _), (11, _), (12, _), (13, _), (14, _), (15, _), (16, _)]) (.cons rfl (.cons rfl (.cons rfl (.cons rfl (.cons rfl (.cons rfl (.cons rfl (.cons rfl (.cons rfl (.cons rfl (.cons rfl (.cons rfl (.cons rfl .nil))))))))))))) ?_
      refine x_seq (x_seq (x_region ?_))
      refine tl_y rfl (y_move (v := .slice _ _ _) rfl) ?_
      refine tl_y rfl (y_move (v := .slice _ _ _) rfl) ?_
      refine tl_e rfl (e_call' rfl (same_spec (hw.mono (hM3.trans hM4)) (hv.mono hM4)) ?_)
      rintro _ _ _ _ ⟨rfl, rfl, rfl⟩
      refine tl_y rfl (y_not rfl) ?_
      refine tl_y rfl (y_move (v := .bool _) rfl) ?_
      refine tl_set (s := 61) (u := .bool false) rfl (by simp) ?_
      refine tl_y rfl (y_move (v := .int _ _) rfl) ?_
      refine tl_y rfl (y_move (v := .int _ _) rfl) ?_
      refine tl_y rfl (y_neq rfl rfl) ?_
      refine tl_y rfl (y_pickF rfl rfl) ?_
      refine tl_y rfl (y_move (v := .bool _) rfl) ?_
      refine tl_set (s := 66) (u := .bool false) rfl (by simp) ?_
      refine tl_y rfl (y_loadAgg rfl rfl (.own inferInstance inferInstance)) ?_
      refine tl_y rfl (y_loadAgg rfl rfl (.own inferInstance inferInstance)) ?_
      refine tl_y rfl (y_neqS rfl rfl eqs81) ?_
      refine tl_y rfl (y_pickF rfl rfl) ?_
      refine tl_y rfl (y_move (v := .bool _) rfl) ?_
      refine tl_set (s := 71) (u := .bool false) rfl (by simp) ?_
      refine tl_y rfl (y_move (v := .slice _ _ _) rfl) ?_
      refine tl_y rfl (y_move (v := .slice _ _ _) rfl) ?_
      refine tl_e rfl (e_call' rfl (same_spec hA4 hA5) ?_)
      rintro _ _ _ _ ⟨rfl, rfl, rfl⟩
      refine tl_y rfl (y_not rfl) ?_
      refine tl_y rfl (y_pickF rfl rfl) ?_
      refine tl_y rfl (y_move (v := .bool _) rfl) ?_
      refine tl_set (s := 77) (u := .bool false) rfl (by simp) ?_
      refine tl_y rfl (y_move (v := .int _ _) rfl) ?_
      refine tl_y rfl (y_move (v := .int _ _) rfl) ?_
      refine tl_y rfl (y_neq rfl rfl) ?_
      refine tl_y rfl (y_pickF rfl rfl) ?_
      refine tl_nil (.then_normal ?_)
      refine .sub (F' := [(1, _), (2, _), (3, _), (7, _), (8, _), (11, _), (12, _), (13, _), (81, _)]) (.cons rfl (.cons rfl (.cons rfl (.cons rfl (.cons rfl (.cons rfl (.cons rfl (.cons rfl (.cons rfl .nil))))))))) ?_
      refine x_false rfl (by simp) ?_
      refine x_skip (.then_normal ?_)
      refine x_seq (x_seq (x_region ?_))
      refine tl_y rfl (y_move (v := .int _ _) rfl) ?_
      refine tl_y rfl (y_eql rfl rfl) ?_
      refine tl_nil (.then_normal ?_)
      refine x_cond rfl (fun hc4 => ?_) (fun hc4 => ?_)
      ·
        have hmx : mayB x n = true := by
          cases hb : mayB x n with
          | true => rfl
          | false => rw [hb] at hc4; exact absurd hc4 (by decide)
        have eR : readC v = (({ x with next := x.reserved }, head), 0) := by rw [ev, if_pos hmx, readC_bytesC (by rw [hhl]; exact hmx)]
        refine x_seq (x_region ?_)
        refine tl_y rfl (y_move (v := .slice _ _ _) rfl) ?_
        refine tl_e rfl (e_call' rfl (Read_spec' (hw.mono (hM3.trans hM4)) (by have := hw.size; rw [ev, if_pos hmx, bytesC_length] at this; have := (mayB_iff.1 hmx).2.2.2.2.2; omega)) ?_)
        rintro _ M6 _ hM6 ⟨rfl, A6, n6, c6, rfl, hA6⟩
        have hm6 := hm.trans hM6
        rw [eR] at hA6 ⊢
        refine tl_y rfl (y_move (v := .tuple _) rfl) ?_
        refine tl_y rfl (y_extract rfl) ?_
        refine tl_y rfl (y_extract rfl) ?_
        refine tl_y rfl (y_extract rfl) ?_
        refine tl_e rfl (e_alloc (fun b4 => ?_))
        refine tl_e rfl (e_store rfl rfl (by rfl) (by rfl) inferInstance inferInstance inferInstance ?_)
        refine tl_y rfl (y_assign (v := .slice _ _ _) rfl) ?_
        refine tl_y rfl (y_assign (v := .int _ _) rfl) ?_
        refine tl_nil (.then_normal ?_)
        refine .sub (F' := [(1, _), (2, _), (3, _), (11, _), (12, _), (13, _), (17, _), (18, _), (19, _)]) (.cons rfl (.cons rfl (.cons rfl (.cons rfl (.cons rfl (.cons rfl (.cons rfl (.cons rfl (.cons rfl .nil))))))))) ?_
        refine x_seq (x_region ?_)
        refine tl_y rfl (y_loadAgg rfl rfl (.own inferInstance inferInstance)) ?_
        refine tl_e rfl (e_alloc (fun b5 => ?_))
        refine tl_e rfl (e_store rfl rfl (by rfl) (by rfl) inferInstance inferInstance inferInstance ?_)
        refine tl_nil (.then_normal ?_)
        refine x_seq (x_region ?_)
        refine tl_y rfl (y_fieldAddr rfl) ?_
        refine tl_y rfl (y_load rfl rfl (.own inferInstance inferInstance)) ?_
        refine tl_y rfl (y_fieldAddr rfl) ?_
        refine tl_e rfl (e_store rfl rfl (by rfl) (by rfl) inferInstance inferInstance inferInstance ?_)
        refine tl_nil (.then_normal ?_)
        refine .sub (F' := [(1, _), (2, _), (11, _), (12, _), (13, _), (17, _), (18, _), (19, _), (20, _)]) (.cons rfl (.cons rfl (.cons rfl (.cons rfl (.cons rfl (.cons rfl (.cons rfl (.cons rfl (.cons rfl .nil))))))))) ?_
        refine x_seq (x_region ?_)
        refine tl_y rfl (y_move (v := .int _ _) rfl) ?_
        refine tl_y rfl (y_neq rfl rfl) ?_
        refine tl_y rfl (y_move (v := .bool _) rfl) ?_
        refine tl_set (s := 96) (u := .bool false) rfl (by simp) ?_
        refine tl_y rfl (y_loadAgg rfl rfl (.own inferInstance inferInstance)) ?_
        refine tl_y rfl (y_loadAgg rfl rfl (.own inferInstance inferInstance)) ?_
        refine tl_y rfl (y_neqS rfl rfl eqs81) ?_
        refine tl_y rfl (y_pickF rfl rfl) ?_
        refine tl_y rfl (y_move (v := .bool _) rfl) ?_
        refine tl_set (s := 101) (u := .bool false) rfl (by simp) ?_
        refine tl_y rfl (y_move (v := .slice _ _ _) rfl) ?_
        refine tl_y rfl (y_move (v := .slice _ _ _) rfl) ?_
        refine tl_e rfl (e_call' rfl (same_spec hA6 (hh.mono hm6)) ?_)
        rintro _ _ _ _ ⟨rfl, rfl, rfl⟩
        refine tl_y rfl (y_not rfl) ?_
        refine tl_y rfl (y_pickF rfl rfl) ?_
        refine tl_nil (.then_normal ?_)
        refine .sub (F' := [(2, _), (11, _), (12, _), (13, _), (106, _)]) (.cons rfl (.cons rfl (.cons rfl (.cons rfl (.cons rfl .nil))))) ?_
        refine x_false rfl (by simp) ?_
        refine x_skip (.then_normal ?_)
        refine x_seq (x_seq (x_region ?_))
        refine tl_y rfl (y_move (v := .int _ _) rfl) ?_
        refine tl_y rfl (y_neq rfl rfl) ?_
        refine tl_nil (.then_normal ?_)
        refine x_cond rfl (fun hc6 => ?_) (fun hc6 => ?_)
        ·
          refine x_seq (x_region ?_)
          refine tl_y rfl (y_assign rfl) ?_
          refine tl_nil (.then_normal ?_)
          refine .sub (F' := [(6, _)]) (.cons rfl .nil) ?_
          refine x_ret (.then_ret (ret1 rfl rfl hm6 rfl))
        ·
          have h0 : (readC b).2 = 0 := by omega
          obtain ⟨hmy, hby⟩ := bytesC_readC h0
          have hn4 := hA4.size
          rw [hn4] at hmy
          refine x_skip (.then_normal ?_)
          refine .sub (F' := [(2, _), (11, _), (12, _)]) (.cons rfl (.cons rfl (.cons rfl .nil))) ?_
          refine x_seq (x_region ?_)
          refine tl_y rfl (y_loadAgg rfl rfl (.own inferInstance inferInstance)) ?_
          refine tl_y rfl (y_move (v := .slice _ _ _) rfl) ?_
          refine tl_e rfl (e_call' rfl (Bytes2_spec (readC b).1.1 (hA4.mono hM6)) ?_)
          rintro _ M7 _ hM7 ⟨rfl, A7, n7, c7, w7, rfl, hw7, ew7⟩
          rw [if_pos hmy, hby] at ew7
          rw [if_pos hmy]
          refine tl_y rfl (y_move (v := .tuple _) rfl) ?_
          refine tl_y rfl (y_extract rfl) ?_
          refine tl_y rfl (y_extract rfl) ?_
          refine tl_y rfl (y_assign (v := .slice _ _ _) rfl) ?_
          refine tl_y rfl (y_assign (v := .int _ _) rfl) ?_
          refine tl_nil (.then_normal ?_)
          refine .sub (F' := [(2, _), (21, _), (22, _)]) (.cons rfl (.cons rfl (.cons rfl .nil))) ?_
          refine x_seq (x_region ?_)
          refine tl_y rfl (y_move (v := .int _ _) rfl) ?_
          refine tl_y rfl (y_eql rfl rfl) ?_
          refine tl_y rfl (y_move (v := .bool _) rfl) ?_
          refine tl_set (s := 117) (u := .bool true) rfl (by simp) ?_
          refine tl_y rfl (y_move (v := .slice _ _ _) rfl) ?_
          refine tl_y rfl (y_move (v := .slice _ _ _) rfl) ?_
          refine tl_e rfl (e_call' rfl (same_spec hw7 (hb.mono (hm6.trans hM7))) ?_)
          rintro _ _ _ _ ⟨rfl, rfl, rfl⟩
          refine tl_y rfl (y_pickT rfl rfl) ?_
          refine tl_y rfl (y_assign (v := .bool _) rfl) ?_
          refine tl_nil (.then_normal ?_)
          refine .sub (F' := [(6, _)]) (.cons rfl .nil) ?_
          refine x_ret (ret1 rfl rfl (hm6.trans hM7) (by rw [ew7, decide_eq_true rfl]))
      ·
        refine x_skip (.then_normal ?_)
        refine .sub (F' := [(2, _), (11, _), (12, _), (13, _)]) (.cons rfl (.cons rfl (.cons rfl (.cons rfl .nil)))) ?_
        refine x_seq (x_seq (x_region ?_))
        refine tl_y rfl (y_move (v := .int _ _) rfl) ?_
        refine tl_y rfl (y_neq rfl rfl) ?_
        refine tl_nil (.then_normal ?_)
        refine x_cond rfl (fun hc7 => ?_) (fun hc7 => ?_)
        ·
          refine x_seq (x_region ?_)
          refine tl_y rfl (y_assign rfl) ?_
          refine tl_nil (.then_normal ?_)
          refine .sub (F' := [(6, _)]) (.cons rfl .nil) ?_
          refine x_ret (.then_ret (ret1 rfl rfl hm rfl))
        ·
          have h0 : (readC b).2 = 0 := by omega
          obtain ⟨hmy, hby⟩ := bytesC_readC h0
          have hn4 := hA4.size
          rw [hn4] at hmy
          refine x_skip (.then_normal ?_)
          refine x_seq (x_region ?_)
          refine tl_y rfl (y_loadAgg rfl rfl (.own inferInstance inferInstance)) ?_
          refine tl_y rfl (y_move (v := .slice _ _ _) rfl) ?_
          refine tl_e rfl (e_call' rfl (Bytes2_spec (readC b).1.1 hA4) ?_)
          rintro _ M7 _ hM7 ⟨rfl, A7, n7, c7, w7, rfl, hw7, ew7⟩
          rw [if_pos hmy, hby] at ew7
          rw [if_pos hmy]
          refine tl_y rfl (y_move (v := .tuple _) rfl) ?_
          refine tl_y rfl (y_extract rfl) ?_
          refine tl_y rfl (y_extract rfl) ?_
          refine tl_y rfl (y_assign (v := .slice _ _ _) rfl) ?_
          refine tl_y rfl (y_assign (v := .int _ _) rfl) ?_
          refine tl_nil (.then_normal ?_)
          refine .sub (F' := [(2, _), (21, _), (22, _)]) (.cons rfl (.cons rfl (.cons rfl .nil))) ?_
          refine x_seq (x_region ?_)
          refine tl_y rfl (y_move (v := .int _ _) rfl) ?_
          refine tl_y rfl (y_eql rfl rfl) ?_
          refine tl_y rfl (y_move (v := .bool _) rfl) ?_
          refine tl_set (s := 117) (u := .bool true) rfl (by simp) ?_
          refine tl_y rfl (y_move (v := .slice _ _ _) rfl) ?_
          refine tl_y rfl (y_move (v := .slice _ _ _) rfl) ?_
          refine tl_e rfl (e_call' rfl (same_spec hw7 (hb.mono (hm.trans hM7))) ?_)
          rintro _ _ _ _ ⟨rfl, rfl, rfl⟩
          refine tl_y rfl (y_pickT rfl rfl) ?_
          refine tl_y rfl (y_assign (v := .bool _) rfl) ?_
          refine tl_nil (.then_normal ?_)
          refine .sub (F' := [(6, _)]) (.cons rfl .nil) ?_
          refine x_ret (ret1 rfl rfl (hm.trans hM7) (by rw [ew7, decide_eq_true rfl]))
end
end Go.Proofs.YtbgdjdhbejbhkaaDoor
set_option linter.unusedVariables false
set_option linter.unusedSimpArgs false
set_option linter.constructorNameAsVariable false
namespace Go.Proofs.YtbgdjdhbejbhkaaDoor
open Go Go.Eng
/-- What stays behind each act: the slots may be, little is pending, the numbers are small. -/
structure Kept (S : DS) (s : SS) (j : Nat) : Prop where
  ok : OkS S s
  within : S.within (9 * j + 9)
  tame : Tame S j
  first : s.first = 0
  n : s.n = 8
  num : s.num.toNat ≤ j
theorem Kept.save {S : DS} {s : SS} {j : Nat} (h : Kept S s j) (hj : j < 255) (b : List UInt8) : Kept (saveRes S s b).1.1 (saveRes S s b).1.2 (j + 1) := by
  obtain ⟨h1, h2⟩ := h.tame.save h.first h.n h.ok.at_ h.num hj b
  have hn := saveRes_n S s b
  exact ⟨saveRes_ok h.ok b, within_mono (saveRes_within h.within (by rw [h.n]; omega) b) (by omega), h1, by rw [hn.2]; exact h.first, by rw [hn.1]; exact h.n, h2⟩
theorem Kept.mono {S : DS} {s : SS} {j j' : Nat} (h : Kept S s j) (hj : j ≤ j') : Kept S s j' := ⟨h.ok, within_mono h.within (by omega), h.tame.mono hj, h.first, h.n, Nat.le_trans h.num hj⟩
theorem Kept.of {S S' : DS} {s : SS} {j : Nat} (h : Kept S s j) (e1 : S'.sure = S.sure) (e2 : S'.pend = S.pend) (e3 : S'.count = S.count) : Kept S' s j := by
  obtain ⟨⟨a1, a2, a3, a4⟩, b, ⟨c1, c2, c3, c4, c5⟩, d1, d2, d3⟩ := h
  exact ⟨⟨a1, by rw [e1]; exact a2, a3, a4⟩, by unfold DS.within at b ⊢; rw [e2, e3]; exact b, ⟨by rw [e1]; exact c1, by rw [e1]; exact c2, by rw [e2]; exact c3, by rw [e1]; exact c4, by rw [e2]; exact c5⟩, d1, d2, d3⟩
theorem Kept.load {S : DS} {s : SS} {j : Nat} (h : Kept S s j) : Kept S (loadRes S s).1 j := by
  have hn := loadRes_n S s
  exact ⟨loadRes_ok h.ok, h.within, h.tame, by rw [hn.2]; exact h.first, by rw [hn.1]; exact h.n, h.tame.load h.first h.n h.num⟩
theorem Kept.new {S : DS} {s : SS} {j : Nat} (h : Kept S s j) (hj : j < 255) (head : List UInt8) (t b : UInt64) : Kept (newC S s head t b).1.1 (newC S s head t b).1.2 (j + 1) := by
  unfold newC
  split
  · exact h.mono (by omega)
  · split
    · exact h.load.mono (by omega)
    · split
      · exact h.load.save hj _
      · exact h.load.mono (by omega)
theorem Kept.csave {S : DS} {s : SS} {j : Nat} (h : Kept S s j) (hj : j < 255) (x x' : Cn) (head : List UInt8) : Kept (saveC S s x x' head).1.1.1 (saveC S s x x' head).1.1.2 (j + 1) := by
  unfold saveC
  split
  · exact h.mono (by omega)
  · split
    · exact h.mono (by omega)
    · split
      · exact h.save hj _
      · exact h.save hj _
theorem Kept.take {S : DS} {s : SS} {j : Nat} (h : Kept S s j) (hj : j < 255) (x : Cn) (head : List UInt8) : Kept (takeC S s x head).1.1.1 (takeC S s x head).1.1.2 (j + 1) := by
  unfold takeC
  split
  · exact h.mono (by omega)
  · split
    · exact h.mono (by omega)
    · split
      · split
        · exact h.csave hj _ _ _
        · exact h.csave hj _ _ _
      · exact h.mono (by omega)
/-- A counter that may be, whose next number is none that is not reserved. -/
def Fit (x : Cn) (head : List UInt8) : Prop := mayB x head.length = true ∧ x.next.toNat ≤ x.reserved.toNat
theorem Fit.more {x : Cn} {head : List UInt8} (h : Fit x head) (hnt : ¬ x.next = x.total) (hnr : x.next = x.reserved) : Fit (moreC x) head ∧ x.next.toNat < (moreC x).reserved.toNat := by
  have hmb := mayB_iff.1 h.1
  have hsum : (x.reserved + x.batch).toNat = x.reserved.toNat + x.batch.toNat := by rw [UInt64.toNat_add]; omega
  have hres : (moreC x).reserved = if x.total.toNat < (x.reserved + x.batch).toNat then x.total else x.reserved + x.batch := rfl
  have hne : x.next.toNat ≠ x.total.toNat := fun e => hnt (UInt64.toNat_inj.1 e)
  have he : x.next.toNat = x.reserved.toNat := by rw [hnr]
  have hr : (moreC x).reserved.toNat ≤ x.total.toNat ∧ x.next.toNat < (moreC x).reserved.toNat := by
    rw [hres]; split <;> omega
  exact ⟨⟨mayB_iff.2 ⟨hmb.1, hmb.2.1, hmb.2.2.1, hmb.2.2.2.1, hr.1, hmb.2.2.2.2.2⟩, by show x.next.toNat ≤ _; omega⟩, hr.2⟩
theorem Fit.next {x : Cn} {head : List UInt8} (h : Fit x head) (hlt : x.next.toNat < x.reserved.toNat) : Fit (nextC' x) head := by
  have hmb := mayB_iff.1 h.1
  have : (x.next + 1).toNat = x.next.toNat + 1 := by rw [UInt64.toNat_add]; simp; omega
  exact ⟨h.1, by show (x.next + 1).toNat ≤ x.reserved.toNat; omega⟩
theorem Fit.take {S : DS} {s : SS} {x : Cn} {head : List UInt8} (h : Fit x head) : Fit (takeC S s x head).1.2 head := by
  unfold takeC
  split
  · exact h
  · split
    · exact h
    · rename_i hnt
      split
      · rename_i hnr
        obtain ⟨h1, h2⟩ := h.more hnt hnr
        have hs : (saveC S s x (moreC x) head).2 ≠ 0 ∧ (saveC S s x (moreC x) head).1.2 = x ∨ (saveC S s x (moreC x) head).2 = 0 ∧ (saveC S s x (moreC x) head).1.2 = moreC x ∨ (saveC S s x (moreC x) head).1.2 = x ∧ moreC x = x := by
          unfold saveC
          split
          · rename_i e; exact .inr (.inr ⟨rfl, e⟩)
          · split
            · exact .inl ⟨by simp, rfl⟩
            · split
              · rename_i e; exact .inl ⟨e, rfl⟩
              · exact .inr (.inl ⟨rfl, rfl⟩)
        split
        · rename_i hc
          rcases hs with ⟨_, e⟩ | ⟨e, _⟩ | ⟨e, _⟩
          · show Fit (saveC S s x (moreC x) head).1.2 head; rw [e]; exact h
          · exact absurd e hc
          · show Fit (saveC S s x (moreC x) head).1.2 head; rw [e]; exact h
        · rename_i hc
          show Fit (nextC' (saveC S s x (moreC x) head).1.2) head
          rcases hs with ⟨e, _⟩ | ⟨_, e⟩ | ⟨e, e2⟩
          · exact absurd e hc
          · rw [e]; exact h1.next h2
          · rw [e2] at h2; rw [hnr] at h2; omega
      · rename_i hnr
        have : x.next.toNat ≠ x.reserved.toNat := fun e => hnr (UInt64.toNat_inj.1 e)
        have := h.2
        exact h.next (by omega)
theorem Fit.retire {S : DS} {s : SS} {x : Cn} {head : List UInt8} (h : Fit x head) : Fit (retireC S s x head).1.2 head := by
  have h' : Fit { x with retired := true } head := h
  unfold retireC saveC
  split
  · exact h
  · split
    · exact h
    · split
      · exact h
      · exact h'
theorem fit_new {t b : UInt64} {head : List UInt8} {S : DS} {s : SS} (h : (newC S s head t b).2 = 0) : Fit (newX t b) head := by
  unfold newC at h
  by_cases hm : mayB (newX t b) head.length = false
  · rw [if_pos hm] at h; exact absurd h (by simp)
  · exact ⟨by simpa using hm, Nat.le_refl _⟩
theorem fit_open {S : DS} {s : SS} (h : (openC S s).2 = 0) : Fit (openC S s).1.1 (openC S s).1.2 := by
  unfold openC at h ⊢
  split at h
  · rename_i e; exact absurd h e
  · rename_i e
    rw [if_neg e]
    exact ⟨(bytesC_readC h).1, by
      unfold readC at h ⊢
      split at h
      · exact absurd h (by simp)
      · rename_i e1
        split at h
        · exact absurd h (by simp)
        · rename_i e2
          rw [if_neg e1, if_neg e2]
          exact Nat.le_refl _⟩
theorem upped_within' {S : DS} {B : Nat} {cs : List UInt8} {xs : List Int} {stop : Int} : (upped S cs xs stop).within B := ⟨Int.le_refl 0, by show (0 : Int) ≤ B; omega, Nat.zero_le _⟩
theorem Kept.up {S : DS} {s : SS} {j : Nat} (h : Kept S s j) (cs : List UInt8) (xs : List Int) (stop : Int) : Kept (upped S cs xs stop) s j := by
  have ht := h.tame.up cs xs stop
  refine ⟨⟨h.ok.n, ?_, h.ok.at_, h.ok.b⟩, upped_within', ht, h.first, h.n, h.num⟩
  rw [ht.len, h.first, h.n]
  omega
theorem Kept.slots {S : DS} {s : SS} {j : Nat} (h : Kept S s j) : Kept S (s0 0 8) j :=
  ⟨okS0 (by omega) (by rw [h.tame.len]; omega), h.within, h.tame, rfl, rfl, Nat.zero_le _⟩
end Go.Proofs.YtbgdjdhbejbhkaaDoor
