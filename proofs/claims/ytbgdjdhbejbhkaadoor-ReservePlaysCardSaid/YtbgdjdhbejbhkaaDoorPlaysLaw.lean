/-
Contracts of functions, each proved by a walk through its code.
-/
import Derived.Test.YtbgdjdhbejbhkaaDoorLaw21dEtc
set_option linter.unusedVariables false
set_option linter.unusedSimpArgs false
set_option linter.constructorNameAsVariable false
namespace Go.Proofs.YtbgdjdhbejbhkaaDoor
open Go Go.Eng
/-- One act, as it lies. -/
structure A21 where
  kind : Int
  choices : List UInt8
  fail : List Int
  stop : Int
abbrev acells21 (a : A21) (Ac : Option Addr) (nc cc : Nat) (Af : Option Addr) (nf cf : Nat) : List Value := [.int .i64 a.kind, .slice Ac nc cc, .slice Af nf cf, .int .i64 a.stop]
inductive Acts21 (M : Mem) : List Value → List A21 → Prop
  | nil : Acts21 M [] []
  | cons {a : A21} {Ac : Option Addr} {nc cc : Nat} {Af : Option Addr} {nf cf : Nat} {vs : List Value} {as_ : List A21} : Bytes M Ac nc cc a.choices → Ints M Af nf cf a.fail → Acts21 M vs as_ → Acts21 M (acells21 a Ac nc cc Af nf cf ++ vs) (a :: as_)
theorem Acts21.len {M : Mem} {vs : List Value} {as_ : List A21} (h : Acts21 M vs as_) : vs.length = as_.length * 4 := by
  induction h with
  | nil => rfl
  | cons _ _ _ ih => simp; omega
theorem Acts21.get {M : Mem} {vs : List Value} {as_ : List A21} (h : Acts21 M vs as_) : ∀ k, k < as_.length → ∃ a Ac nc cc Af nf cf, (vs.drop (k * 4)).take 4 = acells21 a Ac nc cc Af nf cf ∧ Bytes M Ac nc cc a.choices ∧ Ints M Af nf cf a.fail := by
  induction h with
  | nil => intro k hk; simp at hk
  | @cons a Ac nc cc Af nf cf vs as_ hb hi ht ih =>
    intro k hk
    cases k with
    | zero => exact ⟨a, Ac, nc, cc, Af, nf, cf, by simp, hb, hi⟩
    | succ k =>
      obtain ⟨a', x1, x2, x3, x4, x5, x6, h1, h2, h3⟩ := ih k (by simpa using hk)
      refine ⟨a', x1, x2, x3, x4, x5, x6, ?_, h2, h3⟩
      rw [← h1, show (k + 1) * 4 = 4 + k * 4 by omega, ← List.drop_drop]
      rfl
/-- Both sides stand: the program's disk and slots and counter (or none), the reference's. -/
def Pair (d q : Nat) (P : Option Addr) (kk p pr : Nat) (S : DS) (s : SS) (m : Nat) (is : Bool) (R : Own) (M' : Mem) (L' : Own) : Prop :=
  ∃ rd A l c rr lv E0 A2 l2 c2 HB hb hcb Ec Q x head, IsDisk M' rd S ∧ Bytes M' A l c s.b ∧ IsRef M' rr S ∧ OwnRow 147 2 rr.la rr.ln rr.lc lv E0 ∧ rr.ln ≤ m ∧ Bytes M' A2 l2 c2 s.b ∧ Bytes M' HB hb hcb head ∧
    ((P = none ∧ is = false ∧ Ec = []) ∨ (∃ c HA hl hc, P = some ⟨c, 0, none⟩ ∧ is = true ∧ Q = some ⟨pr, 0, none⟩ ∧ Bytes M' HA hl hc head ∧ Fit x head ∧ Ec = [cL c x HA hl hc p])) ∧
    L' = dL d rd S (sL p d s A l c :: (Ec ++ (rsL pr q s (atR s) s.num A2 l2 c2 :: rL q rr S (E0 ++ (rcL kk is x HB hb hcb Q :: R)))))
section
variable {G : World} {M : Mem} {L R : Own}
theorem big_spec (a : A21) (Ac : Option Addr) (nc cc : Nat) (Af : Option Addr) (nf cf : Nat) :
    Con Tryd.prog 57 #[.agg #[.int .i64 a.kind, .slice Ac nc cc, .slice Af nf cf, .int .i64 a.stop]] G M L (fun v M' L' => M = M' ∧ L = L' ∧ v = .bool (decide (300 < nc ∨ 300 < nf))) noPanic := by
  refine enter (args := [_]) (fn := Tryd.f57) ⟨Tryd.func57, rfl, by kernel_rfl, by kernel_rfl⟩ 14 rfl ?_
  refine x_seq (x_region ?_)
  refine tl_e rfl (e_box rfl (fun b1 => ?_))
  refine tl_y rfl (y_assign rfl) ?_
  refine tl_nil (.then_normal ?_)
  refine x_seq (x_region ?_)
  refine tl_y rfl (y_fieldAddr rfl) ?_
  refine tl_y rfl (y_load rfl rfl (.own inferInstance inferInstance)) ?_
  refine tl_y rfl (y_len rfl) ?_
  refine tl_y rfl (y_gtr rfl rfl) ?_
  refine tl_y rfl (y_move (v := .bool _) rfl) ?_
  refine tl_cases (s := 7) rfl (fun hk1 => ?_) (fun hk1 => ?_)
  ·
    refine tl_skip rfl ?_
    refine tl_skip rfl ?_
    refine tl_skip rfl ?_
    refine tl_skip rfl ?_
    refine tl_skip rfl ?_
    refine tl_y rfl (y_pickT rfl rfl) ?_
    refine tl_y rfl (y_assign (v := .bool _) rfl) ?_
    refine tl_nil (.then_normal ?_)
    refine .sub (F' := [(2, _)]) (.cons rfl .nil) ?_
    refine x_ret (.dropTo L inferInstance (ret1 rfl rfl (Le.refl _) ⟨rfl, rfl, by congr 1; symm; rw [decide_eq_true_eq]; omega⟩))
  ·
    refine tl_y rfl (y_fieldAddr rfl) ?_
    refine tl_y rfl (y_fieldAddr rfl) ?_
    refine tl_y rfl (y_load rfl rfl (.own inferInstance inferInstance)) ?_
    refine tl_y rfl (y_len rfl) ?_
    refine tl_y rfl (y_gtr rfl rfl) ?_
    refine tl_y rfl (y_pickF rfl rfl) ?_
    refine tl_y rfl (y_assign (v := .bool _) rfl) ?_
    refine tl_nil (.then_normal ?_)
    refine .sub (F' := [(2, _)]) (.cons rfl .nil) ?_
    refine x_ret (.dropTo L inferInstance (ret1 rfl rfl (Le.refl _) ⟨rfl, rfl, by congr 1; rw [decide_eq_decide]; omega⟩))
theorem ReservePlays_spec (hg : ShaG M) (total batch : UInt64) {HA : Option Addr} {hn hc : Nat} {head : List UInt8} (hh : Bytes M HA hn hc head) {A : Option Addr} {n c : Nat} {vs : List Value} {as_ : List A21} (hrow : Row M 4 A n c vs) (hacts : Acts21 M vs as_) :
    Con Tryd.prog 14 #[.agg #[.int .u64 (total.toNat : Int), .int .u64 (batch.toNat : Int), .slice HA hn hc], .slice A n c] G M L (fun v M' L' => v = .bool true) noPanic := by
  have hhl := hh.size
  have hal := hacts.len
  have hvl := hrow.len
  refine enter (args := [_, _]) (fn := Tryd.f14) ⟨Tryd.func14, rfl, by kernel_rfl, by kernel_rfl⟩ 252 rfl ?_
  refine x_seq (x_region ?_)
  refine tl_e rfl (e_box rfl (fun b1 => ?_))
  refine tl_y rfl (y_assign rfl) ?_
  refine tl_nil (.then_normal ?_)
  refine x_seq (x_seq (x_region ?_))
  refine tl_e rfl (e_call' rfl (awake21_spec hg) ?_)
  rintro _ M1 _ hM1 ⟨rfl, rfl⟩
  have hm := hM1
  refine tl_y rfl (y_not rfl) ?_
  refine tl_nil (.then_normal ?_)
  refine x_false rfl (rfl) ?_
  refine x_skip (.then_normal ?_)
  refine x_seq (x_seq (x_region ?_))
  refine tl_y rfl (y_fieldAddr rfl) ?_
  refine tl_y rfl (y_load rfl rfl (.own inferInstance inferInstance)) ?_
  refine tl_y rfl (y_len rfl) ?_
  refine tl_y rfl (y_gtr rfl rfl) ?_
  refine tl_nil (.then_normal ?_)
  refine .sub (F' := [(1, _), (2, _), (4, _), (26, _)]) (.cons rfl (.cons rfl (.cons rfl (.cons rfl .nil)))) ?_
  refine x_cond rfl (fun hc2 => ?_) (fun hc2 => ?_)
  ·
    refine x_seq (x_region ?_)
    refine tl_y rfl (y_assign rfl) ?_
    refine tl_nil (.then_normal ?_)
    refine x_ret (.then_ret (ret1 rfl rfl hm rfl))
  ·
    refine x_skip (.then_normal ?_)
    refine x_seq (x_region ?_)
    refine tl_e rfl (e_call' rfl (New_spec 16) ?_)
    intro _ M2 L2 hM2 hv
    replace hm := hm.trans hM2
    rw [if_neg (by omega)] at hv
    obtain ⟨d, ⟨r2, hd2, rfl⟩, rfl⟩ := hv
    refine tl_y rfl (y_move (v := .tuple _) rfl) ?_
    refine tl_y rfl (y_extract rfl) ?_
    refine tl_y rfl (y_extract rfl) ?_
    refine tl_y rfl (y_assign (v := .pointer _) rfl) ?_
    refine tl_y rfl (y_assign (v := .int _ _) rfl) ?_
    refine tl_nil (.then_normal ?_)
    refine .sub (F' := [(1, _), (2, _), (4, _), (5, _)]) (.cons rfl (.cons rfl (.cons rfl (.cons rfl .nil)))) ?_
    refine x_seq (x_region ?_)
    refine tl_e rfl (e_call' rfl (RNew_spec 16 (by omega)) ?_)
    rintro _ M3 _ hM3 ⟨q, hk3, rfl⟩
    replace hm := hm.trans hM3
    obtain ⟨rr3, hr3, rfl, g1, g2, g3⟩ := hk3.out
    change IsDisk M2 r2 (fresh 16) at hd2
    change IsRef M3 rr3 (fresh 16) at hr3
    refine .eqL (L' := rL q rr3 (fresh 16) (dL d r2 (fresh 16) ((b1, .cells (List.toArray [.int .u64 (total.toNat : Int), .int .u64 (batch.toNat : Int), .slice HA hn hc]) 101 (0, 0)) :: L))) rfl ?_
    have hL0 : OwnRow 147 2 rr3.la rr3.ln rr3.lc [] [] := by rw [g1, g2, g3]; exact .nil
    refine tl_y rfl (y_assign (v := .pointer _) rfl) ?_
    refine tl_nil (.then_normal ?_)
    refine x_seq (x_seq (x_region ?_))
    refine tl_y rfl (y_move (v := .pointer _) rfl) ?_
    refine tl_y rfl (y_eqNilPtr rfl rfl) ?_
    refine tl_nil (.then_normal ?_)
    refine x_false rfl (rfl) ?_
    refine x_skip (.then_normal ?_)
    refine x_seq (x_region ?_)
    refine tl_y rfl (y_move (v := .pointer _) rfl) ?_
    refine tl_e rfl (e_call' rfl (Con.to (dL d r2 (fresh 16) (rL q rr3 (fresh 16) ((b1, .cells (List.toArray [.int .u64 (total.toNat : Int), .int .u64 (batch.toNat : Int), .slice HA hn hc]) 101 (0, 0)) :: L))) inferInstance (sNew_ok (S := fresh 16) (hd2.mono hM3) 0 8 (by omega) (by rw [fresh_len]; omega))) ?_)
    rintro _ M4 _ hM4 ⟨p, rfl, r4, A4, l4, c4, hd4, hb4, rfl⟩
    replace hm := hm.trans hM4
    have hk0 : Kept (fresh 16) (s0 0 8) 0 := ⟨okS0 (by omega) (by rw [fresh_len]; omega), within_mono (within_fresh 16) (by omega), tame_fresh, rfl, rfl, Nat.le_refl _⟩
    refine tl_y rfl (y_move (v := .tuple _) rfl) ?_
    refine tl_y rfl (y_extract rfl) ?_
    refine tl_y rfl (y_extract rfl) ?_
    refine tl_y rfl (y_assign (v := .pointer _) rfl) ?_
    refine tl_y rfl (y_assign (v := .int _ _) rfl) ?_
    refine tl_nil (.then_normal ?_)
    refine .sub (F' := [(1, _), (2, _), (4, _), (5, _), (7, _), (8, _)]) (.cons rfl (.cons rfl (.cons rfl (.cons rfl (.cons rfl (.cons rfl .nil)))))) ?_
    refine x_seq (x_region ?_)
    refine tl_y rfl (y_move (v := .pointer _) rfl) ?_
    refine tl_e rfl (e_call' rfl (RNew20_spec 0 8) ?_)
    rintro _ _ _ _ ⟨rfl, pr, rfl, rfl⟩
    refine tl_y rfl (y_assign (v := .pointer _) rfl) ?_
    refine tl_nil (.then_normal ?_)
    refine x_seq (x_seq (x_region ?_))
    refine tl_y rfl (y_move (v := .pointer _) rfl) ?_
    refine tl_y rfl (y_eqNilPtr rfl rfl) ?_
    refine tl_nil (.then_normal ?_)
    refine x_false rfl (rfl) ?_
    refine x_skip (.then_normal ?_)
    refine .sub (F' := [(1, _), (2, _), (4, _), (5, _), (7, _), (8, _), (10, _)]) (.cons rfl (.cons rfl (.cons rfl (.cons rfl (.cons rfl (.cons rfl (.cons rfl .nil))))))) ?_
    refine x_seq (x_region ?_)
    refine tl_y rfl (y_move (v := .pointer _) rfl) ?_
    refine tl_y rfl (y_fieldAddr rfl) ?_
    refine tl_y rfl (y_load rfl rfl (.own inferInstance inferInstance)) ?_
    refine tl_y rfl (y_fieldAddr rfl) ?_
    refine tl_y rfl (y_load rfl rfl (.own inferInstance inferInstance)) ?_
    refine tl_y rfl (y_fieldAddr rfl) ?_
    refine tl_y rfl (y_load rfl rfl (.own inferInstance inferInstance)) ?_
    refine .to (dL d r4 (fresh 16) (sL p d (s0 0 8) A4 l4 c4 :: rsL pr q (s0 0 8) (-1) 0 none 0 0 :: rL q rr3 (fresh 16) ((b1, .cells (List.toArray [.int .u64 (total.toNat : Int), .int .u64 (batch.toNat : Int), .slice HA hn hc]) 101 (0, 0)) :: L))) inferInstance ?_
    refine tl_e rfl (e_call' rfl (cNew_spec (hg.mono hm) hd4 hk0.ok hk0.within (by omega) hb4 (hh.mono hm) total batch) ?_)
    intro v5 M5 L5 hM5 hv
    replace hm := hm.trans hM5
    have hk1 := hk0.new (by omega) head total batch
    obtain ⟨P, Ec, r5, A5, l5, c5, rfl, hd5, hb5, hP, rfl⟩ : ∃ P Ec r5 A5 l5 c5, v5 = .tuple #[.pointer P, .int .i64 (newC (fresh 16) (s0 0 8) head total batch).2] ∧ IsDisk M5 r5 (newC (fresh 16) (s0 0 8) head total batch).1.1 ∧ Bytes M5 A5 l5 c5 (newC (fresh 16) (s0 0 8) head total batch).1.2.b ∧
        ((P = none ∧ (newC (fresh 16) (s0 0 8) head total batch).2 ≠ 0 ∧ Ec = []) ∨ (∃ c HA' hc', P = some ⟨c, 0, none⟩ ∧ (newC (fresh 16) (s0 0 8) head total batch).2 = 0 ∧ Bytes M5 HA' hn hc' head ∧ Ec = [cL c (newX total batch) HA' hn hc' p])) ∧
        L5 = dL d r5 (newC (fresh 16) (s0 0 8) head total batch).1.1 (sL p d (newC (fresh 16) (s0 0 8) head total batch).1.2 A5 l5 c5 :: (Ec ++ (rsL pr q (s0 0 8) (-1) 0 none 0 0 :: rL q rr3 (fresh 16) ((b1, .cells (List.toArray [.int .u64 (total.toNat : Int), .int .u64 (batch.toNat : Int), .slice HA hn hc]) 101 (0, 0)) :: L)))) := by
      split at hv
      · rename_i h0
        obtain ⟨c, A', c', rfl, hh', r5, A5, l5, c5, hd5, hb5, rfl⟩ := hv
        exact ⟨_, _, r5, A5, l5, c5, by rw [h0], hd5, hb5, .inr ⟨c, A', c', rfl, h0, hh', rfl⟩, rfl⟩
      · rename_i h0
        obtain ⟨rfl, r5, A5, l5, c5, hd5, hb5, rfl⟩ := hv
        exact ⟨none, [], r5, A5, l5, c5, rfl, hd5, hb5, .inl ⟨rfl, h0, rfl⟩, rfl⟩
    refine tl_y rfl (y_move (v := .tuple _) rfl) ?_
    refine tl_y rfl (y_extract rfl) ?_
    refine tl_y rfl (y_extract rfl) ?_
    refine tl_y rfl (y_assign (v := .pointer _) rfl) ?_
    refine tl_y rfl (y_assign (v := .int _ _) rfl) ?_
    refine tl_nil (.then_normal ?_)
    refine .sub (F' := [(1, _), (2, _), (4, _), (5, _), (7, _), (8, _), (10, _), (11, _), (12, _)]) (.cons rfl (.cons rfl (.cons rfl (.cons rfl (.cons rfl (.cons rfl (.cons rfl (.cons rfl (.cons rfl .nil))))))))) ?_
    refine x_seq (x_region ?_)
    refine tl_y rfl (y_move (v := .pointer _) rfl) ?_
    refine tl_y rfl (y_fieldAddr rfl) ?_
    refine tl_y rfl (y_load rfl rfl (.own inferInstance inferInstance)) ?_
    refine tl_y rfl (y_fieldAddr rfl) ?_
    refine tl_y rfl (y_load rfl rfl (.own inferInstance inferInstance)) ?_
    refine tl_y rfl (y_fieldAddr rfl) ?_
    refine tl_y rfl (y_load rfl rfl (.own inferInstance inferInstance)) ?_
    refine .to (rsL pr q (s0 0 8) (-1) 0 none 0 0 :: rL q rr3 (fresh 16) (dL d r5 (newC (fresh 16) (s0 0 8) head total batch).1.1 (sL p d (newC (fresh 16) (s0 0 8) head total batch).1.2 A5 l5 c5 :: (Ec ++ ((b1, .cells (List.toArray [.int .u64 (total.toNat : Int), .int .u64 (batch.toNat : Int), .slice HA hn hc]) 101 (0, 0)) :: L))))) inferInstance ?_
    refine tl_e rfl (e_call' rfl (RNew21_spec (E0 := []) (s := s0 0 8) ((hr3.mono hM4).mono hM5) hk0.ok hk0.within (by omega) (show Bytes M5 none 0 0 [] from Row.nil _ _) hL0 (by rw [g2]; omega) (hh.mono hm) total batch) ?_)
    intro v6 M6 L6 hM6 hv6
    replace hm := hm.trans hM6
    obtain ⟨kk, rfl, hcs⟩ := hv6
    obtain ⟨is, x, HB, hb, hcb, Q, hd6, hRS, hB6, hPP⟩ : ∃ is x HB hb hcb Q, ∃ hd6 : List UInt8, RS pr q (newC (fresh 16) (s0 0 8) head total batch).1.1 (newC (fresh 16) (s0 0 8) head total batch).1.2 (rr3.ln + 1) (rcL kk is x HB hb hcb Q :: (dL d r5 (newC (fresh 16) (s0 0 8) head total batch).1.1 (sL p d (newC (fresh 16) (s0 0 8) head total batch).1.2 A5 l5 c5 :: (Ec ++ ((b1, .cells (List.toArray [.int .u64 (total.toNat : Int), .int .u64 (batch.toNat : Int), .slice HA hn hc]) 101 (0, 0)) :: L))))) M6 L6 ∧ Bytes M6 HB hb hcb hd6 ∧
        ((P = none ∧ is = false ∧ Ec = []) ∨ (∃ c HA hl hc, P = some ⟨c, 0, none⟩ ∧ is = true ∧ Q = some ⟨pr, 0, none⟩ ∧ Bytes M6 HA hl hc hd6 ∧ Fit x hd6 ∧ Ec = [cL c x HA hl hc p])) := by
      rcases hP with ⟨h1, h2, h3⟩ | ⟨c, HA', hc', h1, h2, h3, h4⟩
      · rw [if_neg h2] at hcs
        exact ⟨false, zeroC, none, 0, 0, none, [], hcs, Row.nil _ _, .inl ⟨h1, rfl, h3⟩⟩
      · rw [if_pos h2] at hcs
        exact ⟨true, newX total batch, HA, hn, hc, some ⟨pr, 0, none⟩, head, hcs, hh.mono hm, .inr ⟨c, HA', hn, hc', h1, rfl, rfl, h3.mono hM6, fit_new h2, h4⟩⟩
    obtain ⟨rr6, lv6, E6, A6, l6, c6, hr6, hE6, hln6, hb6, rfl⟩ := hRS
    refine .to (dL d r5 (newC (fresh 16) (s0 0 8) head total batch).1.1 (sL p d (newC (fresh 16) (s0 0 8) head total batch).1.2 A5 l5 c5 :: (Ec ++ (rsL pr q (newC (fresh 16) (s0 0 8) head total batch).1.2 (atR (newC (fresh 16) (s0 0 8) head total batch).1.2) (newC (fresh 16) (s0 0 8) head total batch).1.2.num A6 l6 c6 :: rL q rr6 (newC (fresh 16) (s0 0 8) head total batch).1.1 (E6 ++ (rcL kk is x HB hb hcb Q :: (b1, .cells (List.toArray [.int .u64 (total.toNat : Int), .int .u64 (batch.toNat : Int), .slice HA hn hc]) 101 (0, 0)) :: L)))))) inferInstance ?_
    have hpair : Pair d q P kk p pr (newC (fresh 16) (s0 0 8) head total batch).1.1 (newC (fresh 16) (s0 0 8) head total batch).1.2 1 is ((b1, .cells (List.toArray [.int .u64 (total.toNat : Int), .int .u64 (batch.toNat : Int), .slice HA hn hc]) 101 (0, 0)) :: L) M6 (dL d r5 (newC (fresh 16) (s0 0 8) head total batch).1.1 (sL p d (newC (fresh 16) (s0 0 8) head total batch).1.2 A5 l5 c5 :: (Ec ++ (rsL pr q (newC (fresh 16) (s0 0 8) head total batch).1.2 (atR (newC (fresh 16) (s0 0 8) head total batch).1.2) (newC (fresh 16) (s0 0 8) head total batch).1.2.num A6 l6 c6 :: rL q rr6 (newC (fresh 16) (s0 0 8) head total batch).1.1 (E6 ++ (rcL kk is x HB hb hcb Q :: (b1, .cells (List.toArray [.int .u64 (total.toNat : Int), .int .u64 (batch.toNat : Int), .slice HA hn hc]) 101 (0, 0)) :: L)))))) :=
      ⟨r5, A5, l5, c5, rr6, lv6, E6, A6, l6, c6, HB, hb, hcb, Ec, Q, x, hd6, hd5.mono hM6, hb5.mono hM6, hr6, hE6, by rw [g2] at hln6; exact hln6, hb6, hB6, hPP, rfl⟩
    refine tl_y rfl (y_move (v := .tuple _) rfl) ?_
    refine tl_y rfl (y_extract rfl) ?_
    refine tl_y rfl (y_extract rfl) ?_
    refine tl_y rfl (y_assign (v := .pointer _) rfl) ?_
    refine tl_y rfl (y_assign (v := .int _ _) rfl) ?_
    refine tl_nil (.then_normal ?_)
    refine .sub (F' := [(1, _), (2, _), (4, _), (5, _), (7, _), (8, _), (10, _), (11, _), (12, _), (13, _), (14, _)]) (.cons rfl (.cons rfl (.cons rfl (.cons rfl (.cons rfl (.cons rfl (.cons rfl (.cons rfl (.cons rfl (.cons rfl (.cons rfl .nil))))))))))) ?_
    refine x_seq (x_seq (x_region ?_))
    refine tl_y rfl (y_move (v := .int _ _) rfl) ?_
    refine tl_y rfl (y_move (v := .int _ _) rfl) ?_
    refine tl_y rfl (y_neq rfl rfl) ?_
    refine tl_y rfl (y_move (v := .bool _) rfl) ?_
    refine tl_set (s := 68) (u := .bool false) rfl (by simp) ?_
    refine tl_y rfl (y_move (v := .pointer _) rfl) ?_
    refine tl_y rfl (y_neNilPtr rfl rfl) ?_
    refine tl_y rfl (y_move (v := .pointer _) rfl) ?_
    refine tl_y rfl (y_nilCheck rfl) ?_
    refine tl_y rfl (y_fieldAddr rfl) ?_
    refine tl_y rfl (y_load rfl rfl (.own inferInstance inferInstance)) ?_
    refine tl_y rfl (y_neqBool rfl rfl) ?_
    refine tl_y rfl (y_pickF rfl rfl) ?_
    refine tl_nil (.then_normal ?_)
    refine .sub (F' := [(1, _), (2, _), (4, _), (5, _), (7, _), (8, _), (10, _), (11, _), (12, _), (13, _), (14, _), (76, _)]) (.cons rfl (.cons rfl (.cons rfl (.cons rfl (.cons rfl (.cons rfl (.cons rfl (.cons rfl (.cons rfl (.cons rfl (.cons rfl (.cons rfl .nil)))))))))))) ?_
    refine x_false rfl (by rcases hPP with ⟨rfl, rfl, _⟩ | ⟨_, _, _, _, rfl, rfl, _⟩ <;> rfl) ?_
    refine x_skip (.then_normal ?_)
    refine x_seq (x_seq (x_region ?_))
    refine tl_y rfl (y_assign rfl) ?_
    refine tl_nil (.then_normal ?_)
    refine x_block ?_
    refine x_loop (I := fun m' F D M7 L7 => ∃ (k : Nat) (S : DS) (s : SS) (P : Option Addr) (kk p pr : Nat) (is : Bool) (e1 e2 : Int), m' = 60 - k ∧ k ≤ 60 ∧ Le M M7 ∧ Kept S s (k + 1) ∧ Pair d q P kk p pr S s (k + 1) is ((b1, .cells (List.toArray [.int .u64 (total.toNat : Int), .int .u64 (batch.toNat : Int), .slice HA hn hc]) 101 (0, 0)) :: L) M7 L7 ∧ D = [] ∧ F = [(1, .slice A n c), (2, .pointer (some ⟨b1, 0, none⟩)), (4, .bool false), (5, .pointer (some ⟨d, 0, none⟩)), (7, .pointer (some ⟨q, 0, none⟩)), (8, .pointer (some ⟨p, 0, none⟩)), (10, .pointer (some ⟨pr, 0, none⟩)), (11, .pointer P), (12, .int .i64 e1), (13, .pointer (some ⟨kk, 0, none⟩)), (14, .int .i64 e2), (15, .int .i64 k)]) (60) (F0 := [(1, _), (2, _), (4, _), (5, _), (7, _), (8, _), (10, _), (11, _), (12, _), (13, _), (14, _), (15, _)]) ?_ (.cons rfl (.cons rfl (.cons rfl (.cons rfl (.cons rfl (.cons rfl (.cons rfl (.cons rfl (.cons rfl (.cons rfl (.cons rfl (.cons rfl .nil)))))))))))) ?_  -- slots [1, 2, 4, 5, 7, 8, 10, 11, 12, 13, 14, 15], written [4, 8, 10, 11, 12, 13, 14, 15]
    · exact ⟨0, _, _, P, kk, p, pr, is, _, _, rfl, by omega, hm, hk1, hpair, rfl, rfl⟩
    rintro m _ _ M7 L7 ⟨k, S, s, P, kk, p, pr, is, e1, e2, rfl, hk, hM7, hkp, hpr, rfl, rfl⟩
    refine x_seq (x_seq (x_region ?_))
    refine tl_y rfl (y_move (v := .int _ _) rfl) ?_
    refine tl_y rfl (y_move (v := .slice _ _ _) rfl) ?_
    refine tl_y rfl (y_len rfl) ?_
    refine tl_y rfl (y_lss rfl rfl) ?_
    refine tl_y rfl (y_move (v := .bool _) rfl) ?_
    refine tl_cases (s := 81) rfl (fun hk2 => ?_) (fun hk2 => ?_)
    ·
      have hkn : k < n := by omega
      obtain ⟨g, o, rfl, hcn⟩ := (hrow.mono hM7).cellsN (by omega)
      obtain ⟨a, Ac, nc, cc, Af, nf, cf, hget, hcs, hfs⟩ := hacts.get k (by omega)
      have hce := fun L => hcn L (k * 4) 4 (by omega)
      rw [hget] at hce
      replace hcs := hcs.mono hM7
      replace hfs := hfs.mono hM7
      obtain ⟨rd, A1, l1, c1, rr, lv, E0, A2, l2, c2, HB, hb, hcb, Ec, Q, x, hd, hdk, hba, hrf, hlE, hlm, hbb, hHB, hcase, rfl⟩ := hpr
      refine tl_y rfl (y_move (v := .int _ _) rfl) ?_
      refine tl_y rfl (y_lss rfl rfl) ?_
      refine tl_y rfl (y_pickT rfl rfl) ?_
      refine tl_nil (.then_normal ?_)
      refine .sub (F' := [(1, _), (2, _), (4, _), (5, _), (7, _), (8, _), (10, _), (11, _), (12, _), (13, _), (14, _), (15, _), (84, _)]) (.cons rfl (.cons rfl (.cons rfl (.cons rfl (.cons rfl (.cons rfl (.cons rfl (.cons rfl (.cons rfl (.cons rfl (.cons rfl (.cons rfl (.cons rfl .nil))))))))))))) ?_
      refine x_cond rfl (fun hc6 => ?_) (fun hc6 => ?_)
      ·
        refine x_skip (.then_normal ?_)
        refine x_seq ?_
        refine x_block ?_
        refine x_seq (x_region ?_)
        refine tl_y rfl (y_move (v := .slice _ _ _) rfl) ?_
        refine tl_y rfl (y_move (v := .int _ _) rfl) ?_
        refine tl_y rfl (y_indexAddr rfl rfl (by omega)) ?_
        refine tl_y rfl (y_loadAgg rfl rfl (.at_ (hce _) (by omega))) ?_
        refine tl_e rfl (e_alloc (fun b2 => ?_))
        refine tl_e rfl (e_store rfl rfl (by rfl) (by rfl) inferInstance inferInstance inferInstance ?_)
        refine tl_nil (.then_normal ?_)
        refine .sub (F' := [(1, _), (2, _), (4, _), (5, _), (7, _), (8, _), (10, _), (11, _), (12, _), (13, _), (14, _), (15, _), (16, _)]) (.cons rfl (.cons rfl (.cons rfl (.cons rfl (.cons rfl (.cons rfl (.cons rfl (.cons rfl (.cons rfl (.cons rfl (.cons rfl (.cons rfl (.cons rfl .nil))))))))))))) ?_
        refine x_seq (x_seq (x_region ?_))
        refine tl_y rfl (y_loadAgg rfl rfl (.own inferInstance inferInstance)) ?_
        refine tl_e rfl (e_call' rfl (big_spec a Ac nc cc Af nf cf) ?_)
        rintro _ _ _ _ ⟨rfl, rfl, rfl⟩
        refine tl_nil (.then_normal ?_)
        refine x_cond rfl (fun hc7 => ?_) (fun hc7 => ?_)
        ·
          refine x_seq (x_region ?_)
          refine tl_y rfl (y_assign rfl) ?_
          refine tl_nil (.then_normal ?_)
          refine x_ret (.then_ret (.block_ret (.then_ret (.loop_ret (.block_ret (.then_ret (ret1 rfl rfl hM7 rfl)))))))
        ·
          refine x_skip (.then_normal ?_)
          refine x_seq (x_region ?_)
          refine tl_y rfl (y_assign rfl) ?_
          refine tl_nil (.then_normal ?_)
          refine x_seq (x_region ?_)
          refine tl_y rfl (y_assign rfl) ?_
          refine tl_nil (.then_normal ?_)
          refine x_join (I := fun F D M8 L8 => ∃ (S' : DS) (s' : SS) (P' : Option Addr) (kk' p' pr' : Nat) (is' : Bool) (e : Int) (L9 : Own), D = [] ∧ Le M7 M8 ∧ Kept S' s' (k + 2) ∧ DropTo L8 L9 ∧ Pair d q P' kk' p' pr' S' s' (k + 2) is' ((b1, .cells (List.toArray [.int .u64 (total.toNat : Int), .int .u64 (batch.toNat : Int), .slice HA hn hc]) 101 (0, 0)) :: L) M8 L9 ∧ F = [(1, .slice (some ⟨g, o, none⟩) n c), (2, .pointer (some ⟨b1, 0, none⟩)), (4, .bool false), (5, .pointer (some ⟨d, 0, none⟩)), (7, .pointer (some ⟨q, 0, none⟩)), (8, .pointer (some ⟨p', 0, none⟩)), (10, .pointer (some ⟨pr', 0, none⟩)), (11, .pointer P'), (12, .int .i64 e), (13, .pointer (some ⟨kk', 0, none⟩)), (14, .int .i64 e), (15, .int .i64 k)]) ?_ (fun Jj2 => ?_)
          ·
            rintro _ _ M8 L8 ⟨S', s', P', kk', p', pr', is', e, L9, rfl, hM8, hkp', hdr8, hpr', rfl⟩  -- slots [1, 2, 4, 5, 7, 8, 10, 11, 12, 13, 14, 15]
            refine x_seq (x_seq ?_)
            obtain ⟨rd', A1', l1', c1', rr', lv', E0', A2', l2', c2', HB', hb', hcb', Ec', Q', x', hd', hdk', hba', hrf', hlE', hlm', hbb', hHB', hcase', rfl⟩ := hpr'
            refine .dropTo _ hdr8 ?_
            refine x_draw 22 hmix rfl ?_
            refine to_p 0 rfl (by kernel_rfl) rfl (y_move (v := .int _ _) rfl) ?_
            refine to_p 1 rfl (by kernel_rfl) rfl (y_move (v := .int _ _) rfl) ?_
            refine to_p 2 rfl (by kernel_rfl) rfl (y_neq rfl rfl) ?_
            refine to_p 3 rfl (by kernel_rfl) rfl (y_move (v := .bool _) rfl) ?_
            refine to_set (s := 212) (u := .bool false) rfl (by simp) ?_
            refine to_p 4 rfl (by kernel_rfl) rfl (y_move (v := .pointer _) rfl) ?_
            refine to_p 5 rfl (by kernel_rfl) rfl (y_neNilPtr rfl rfl) ?_
            refine to_p 6 rfl (by kernel_rfl) rfl (y_move (v := .pointer _) rfl) ?_
            refine to_p 7 rfl (by kernel_rfl) rfl (y_nilCheck rfl) ?_
            refine to_p 8 rfl (by kernel_rfl) rfl (y_fieldAddr rfl) ?_
            refine to_y 9 rfl (by kernel_rfl) rfl (y_load rfl rfl (.own inferInstance inferInstance)) ?_
            refine to_p 10 rfl (by kernel_rfl) rfl (y_neqBool rfl rfl) ?_
            refine to_p 11 rfl (by kernel_rfl) rfl (y_pickF rfl rfl) ?_
            refine to_p 12 rfl (by kernel_rfl) rfl (y_move (v := .bool _) rfl) ?_
            refine to_set (s := 221) (u := .bool false) rfl (by rcases hcase' with ⟨rfl, rfl, _⟩ | ⟨_, _, _, _, rfl, rfl, _⟩ <;> rfl) ?_
            refine to_p 13 rfl (by kernel_rfl) rfl (y_move (v := .pointer _) rfl) ?_
            refine to_p 15 rfl (by kernel_rfl) rfl (y_move (v := .pointer _) rfl) ?_
            refine to_p 16 rfl (by kernel_rfl) rfl (y_nilCheck rfl) ?_
            refine to_p 17 rfl (by kernel_rfl) rfl (y_fieldAddr rfl) ?_
            refine to_y 18 rfl (by kernel_rfl) rfl (y_load rfl rfl (.own inferInstance inferInstance)) ?_
            refine to_e 14 rfl (by kernel_rfl) rfl (e_call' rfl (Sure_spec hdk') ?_)
            rintro _ M9 _ hM9 ⟨rfl, A9, n9, c9, vs9, rfl, hr9, hb9⟩
            refine ⟨⟨hM9, Keeps.mem⟩, ?_⟩
            refine to_e 19 rfl (by kernel_rfl) rfl (e_call' rfl (all_spec hr9 (hrf'.s.in_ inferInstance (by omega)) hb9 (hrf'.sure.mono hM9)) ?_)
            rintro _ _ _ _ ⟨rfl, rfl, rfl⟩
            refine ⟨⟨hM9, Keeps.mem⟩, ?_⟩
            refine to_p 20 rfl (by kernel_rfl) rfl (y_not rfl) ?_
            refine to_p 21 rfl (by kernel_rfl) rfl (y_pickF rfl rfl) ?_
            refine to_nil (by kernel_rfl) (.then_normal ?_)
            refine .sub (F' := [(1, _), (2, _), (4, _), (5, _), (7, _), (8, _), (10, _), (11, _), (12, _), (13, _), (14, _), (15, _), (230, _)]) (.cons rfl (.cons rfl (.cons rfl (.cons rfl (.cons rfl (.cons rfl (.cons rfl (.cons rfl (.cons rfl (.cons rfl (.cons rfl (.cons rfl (.cons rfl .nil))))))))))))) ?_
            refine x_false rfl (by simp) ?_
            refine x_skip (.then_normal ?_)
            refine x_seq ?_
            refine x_draw 21 hmix rfl ?_
            refine to_p 0 rfl (by kernel_rfl) rfl (y_move (v := .pointer _) rfl) ?_
            refine to_p 1 rfl (by kernel_rfl) rfl (y_neNilPtr rfl rfl) ?_
            rw [show (!P'.isNone) = decide (P' ≠ none) from by cases P' <;> rfl]
            refine to_p 2 rfl (by kernel_rfl) rfl (y_move (v := .bool _) rfl) ?_
            refine to_cases (s := 233) rfl (fun hk5 => ?_) (fun hk5 => ?_)
            ·
              obtain ⟨cc', HA', hl', hcc', rfl, rfl, rfl, hHA', hfit', rfl⟩ : ∃ c HA hl hc, P' = some ⟨c, 0, none⟩ ∧ is' = true ∧ Q' = some ⟨pr', 0, none⟩ ∧ Bytes M8 HA hl hc hd' ∧ Fit x' hd' ∧ Ec' = [cL c x' HA hl hc p'] := by
                rcases hcase' with ⟨h, _⟩ | h
                · exact absurd h hk5
                · exact h
              have hhl' := hHA'.size
              have hf200 := (mayB_iff.1 hfit'.1).2.2.2.2.2
              simp only [List.cons_append, List.nil_append]
              refine to_p 3 rfl (by kernel_rfl) rfl (y_move (v := .pointer _) rfl) ?_
              refine to_p 5 rfl (by kernel_rfl) rfl (y_move (v := .pointer _) rfl) ?_
              refine to_p 6 rfl (by kernel_rfl) rfl (y_nilCheck rfl) ?_
              refine to_p 7 rfl (by kernel_rfl) rfl (y_fieldAddr rfl) ?_
              refine to_y 8 rfl (by kernel_rfl) rfl (y_loadAgg rfl rfl (.own inferInstance inferInstance)) ?_
              refine to_e 4 rfl (by kernel_rfl) rfl (e_call' rfl (Con.bring cc' inferInstance (State_spec x')) ?_)
              rintro _ _ _ _ ⟨rfl, rfl, rfl⟩
              refine ⟨⟨(by first | exact Le.refl _ | assumption), Keeps.mem⟩, ?_⟩
              refine to_p 9 rfl (by kernel_rfl) rfl (y_neqS rfl rfl eqs81) ?_
              refine to_p 10 rfl (by kernel_rfl) rfl (y_move (v := .bool _) rfl) ?_
              refine to_set (s := 241) (u := .bool false) rfl (by simp) ?_
              refine to_p 11 rfl (by kernel_rfl) rfl (y_move (v := .pointer _) rfl) ?_
              refine to_p 13 rfl (by kernel_rfl) rfl (y_move (v := .pointer _) rfl) ?_
              refine to_p 14 rfl (by kernel_rfl) rfl (y_nilCheck rfl) ?_
              refine to_p 15 rfl (by kernel_rfl) rfl (y_fieldAddr rfl) ?_
              refine to_y 16 rfl (by kernel_rfl) rfl (y_load rfl rfl (.own inferInstance inferInstance)) ?_
              refine to_e 12 rfl (by kernel_rfl) rfl (e_call' rfl (Con.bring cc' inferInstance (Head_spec x' (hHA'.mono hM9) (by omega))) ?_)
              rintro _ M10 _ hM10 ⟨rfl, A10, c10, rfl, hA10⟩
              refine ⟨⟨hM10, Keeps.mem⟩, ?_⟩
              refine to_e 17 rfl (by kernel_rfl) rfl (e_call' rfl (same_spec hA10 ((hHB'.mono hM9).mono hM10)) ?_)
              rintro _ _ _ _ ⟨rfl, rfl, rfl⟩
              refine ⟨⟨hM10, Keeps.mem⟩, ?_⟩
              refine to_p 18 rfl (by kernel_rfl) rfl (y_not rfl) ?_
              refine to_p 19 rfl (by kernel_rfl) rfl (y_pickF rfl rfl) ?_
              refine to_p 20 rfl (by kernel_rfl) rfl (y_pickT rfl rfl) ?_
              refine to_nil (by kernel_rfl) (.then_normal ?_)
              refine .sub (F' := [(1, _), (2, _), (4, _), (5, _), (7, _), (8, _), (10, _), (11, _), (12, _), (13, _), (14, _), (15, _), (251, _)]) (.cons rfl (.cons rfl (.cons rfl (.cons rfl (.cons rfl (.cons rfl (.cons rfl (.cons rfl (.cons rfl (.cons rfl (.cons rfl (.cons rfl (.cons rfl .nil))))))))))))) ?_
              refine x_false rfl (by simp) ?_
              refine x_skip (.block_normal (.then_normal ?_))
              refine x_region ?_
              refine .to (dL d rd' S' (sL p' d s' A1' l1' c1' :: (cL cc' x' HA' hl' hcc' p' :: (rsL pr' q s' (atR s') s'.num A2' l2' c2' :: rL q rr' S' (E0' ++ (rcL kk' true x' HB' hb' hcb' (some ⟨pr', 0, none⟩) :: (b1, .cells (List.toArray [.int .u64 (total.toNat : Int), .int .u64 (batch.toNat : Int), .slice HA hn hc]) 101 (0, 0)) :: L)))))) inferInstance ?_
              refine tl_y rfl (y_move (v := .int _ _) rfl) ?_
              refine tl_y rfl (y_addI rfl rfl (by omega)) ?_
              refine tl_y rfl (y_assign (v := .int _ _) rfl) ?_
              refine tl_nil (.loop_next (m' := 60 - (k + 1)) (by omega) (F' := [(1, _), (2, _), (4, _), (5, _), (7, _), (8, _), (10, _), (11, _), (12, _), (13, _), (14, _), (15, _)]) (.cons rfl (.cons rfl (.cons rfl (.cons rfl (.cons rfl (.cons rfl (.cons rfl (.cons rfl (.cons rfl (.cons rfl (.cons rfl (.cons rfl .nil)))))))))))) ?_)
              exact ⟨k + 1, S', s', _, kk', p', pr', true, e, e, rfl, by omega, hM7.trans (hM8.trans (hM9.trans hM10)), hkp', ⟨rd', A1', l1', c1', rr', lv', E0', A2', l2', c2', HB', hb', hcb', _, _, x', hd', hdk'.mono (hM9.trans hM10), hba'.mono (hM9.trans hM10), hrf'.mono (hM9.trans hM10), hlE', hlm', hbb'.mono (hM9.trans hM10), hHB'.mono (hM9.trans hM10), .inr ⟨cc', HA', hl', hcc', rfl, rfl, rfl, hHA'.mono (hM9.trans hM10), hfit', rfl⟩, rfl⟩, rfl, rfl⟩
            ·
              refine to_skip 3 rfl (by kernel_rfl) rfl ?_
              refine to_skip 4 rfl (by kernel_rfl) rfl ?_
              refine to_skip 5 rfl (by kernel_rfl) rfl ?_
              refine to_skip 6 rfl (by kernel_rfl) rfl ?_
              refine to_skip 7 rfl (by kernel_rfl) rfl ?_
              refine to_skip 8 rfl (by kernel_rfl) rfl ?_
              refine to_skip 9 rfl (by kernel_rfl) rfl ?_
              refine to_skip 10 rfl (by kernel_rfl) rfl ?_
              refine to_skip 11 rfl (by kernel_rfl) rfl ?_
              refine to_skip 12 rfl (by kernel_rfl) rfl ?_
              refine to_skip 13 rfl (by kernel_rfl) rfl ?_
              refine to_skip 14 rfl (by kernel_rfl) rfl ?_
              refine to_skip 15 rfl (by kernel_rfl) rfl ?_
              refine to_skip 16 rfl (by kernel_rfl) rfl ?_
              refine to_skip 17 rfl (by kernel_rfl) rfl ?_
              refine to_skip 18 rfl (by kernel_rfl) rfl ?_
              refine to_skip 19 rfl (by kernel_rfl) rfl ?_
              refine to_p 20 rfl (by kernel_rfl) rfl (y_pickF rfl rfl) ?_
              refine to_nil (by kernel_rfl) (.then_normal ?_)
              refine .sub (F' := [(1, _), (2, _), (4, _), (5, _), (7, _), (8, _), (10, _), (11, _), (12, _), (13, _), (14, _), (15, _), (251, _)]) (.cons rfl (.cons rfl (.cons rfl (.cons rfl (.cons rfl (.cons rfl (.cons rfl (.cons rfl (.cons rfl (.cons rfl (.cons rfl (.cons rfl (.cons rfl .nil))))))))))))) ?_
              refine x_false rfl rfl ?_
              refine x_skip (.block_normal (.then_normal ?_))
              refine x_region ?_
              refine tl_y rfl (y_move (v := .int _ _) rfl) ?_
              refine tl_y rfl (y_addI rfl rfl (by omega)) ?_
              refine tl_y rfl (y_assign (v := .int _ _) rfl) ?_
              refine tl_nil (.loop_next (m' := 60 - (k + 1)) (by omega) (F' := [(1, _), (2, _), (4, _), (5, _), (7, _), (8, _), (10, _), (11, _), (12, _), (13, _), (14, _), (15, _)]) (.cons rfl (.cons rfl (.cons rfl (.cons rfl (.cons rfl (.cons rfl (.cons rfl (.cons rfl (.cons rfl (.cons rfl (.cons rfl (.cons rfl .nil)))))))))))) ?_)
              exact ⟨k + 1, S', s', P', kk', p', pr', is', e, e, rfl, by omega, hM7.trans (hM8.trans hM9), hkp', ⟨rd', A1', l1', c1', rr', lv', E0', A2', l2', c2', HB', hb', hcb', Ec', Q', x', hd', hdk'.mono hM9, hba'.mono hM9, hrf'.mono hM9, hlE', hlm', hbb'.mono hM9, hHB'.mono hM9, (by rcases hcase' with ⟨h1, h2, h3⟩ | ⟨c, HA, hl, hc, h1, h2, h3, h4, h5, h6⟩; exact .inl ⟨h1, h2, h3⟩; exact .inr ⟨c, HA, hl, hc, h1, h2, h3, h4.mono hM9, h5, h6⟩), rfl⟩, rfl, rfl⟩
          ·
            refine x_seq (x_region ?_)
            refine tl_y rfl (y_fieldAddr rfl) ?_
            refine tl_y rfl (y_load rfl rfl (.own inferInstance inferInstance)) ?_
            refine tl_nil (.then_normal ?_)
            refine x_block ?_
            refine x_seq (x_region ?_)
            refine tl_y rfl (y_eql rfl rfl) ?_
            refine tl_y rfl (y_assign (v := .bool _) rfl) ?_
            refine tl_nil (.then_normal ?_)
            refine .sub (F' := [(1, _), (2, _), (4, _), (5, _), (7, _), (8, _), (10, _), (11, _), (12, _), (13, _), (14, _), (15, _), (16, _), (94, _), (95, _)]) (.cons rfl (.cons rfl (.cons rfl (.cons rfl (.cons rfl (.cons rfl (.cons rfl (.cons rfl (.cons rfl (.cons rfl (.cons rfl (.cons rfl (.cons rfl (.cons rfl (.cons rfl .nil))))))))))))))) ?_
            refine x_cond rfl (fun hc10 => ?_) (fun hc10 => ?_)
            ·
              refine x_seq (x_region ?_)
              refine tl_y rfl (y_move (v := .pointer _) rfl) ?_
              refine tl_y rfl (y_neNilPtr rfl rfl) ?_
              refine tl_nil (.then_normal ?_)
              refine .sub (F' := [(1, _), (2, _), (4, _), (5, _), (7, _), (8, _), (10, _), (11, _), (12, _), (13, _), (14, _), (15, _), (98, _)]) (.cons rfl (.cons rfl (.cons rfl (.cons rfl (.cons rfl (.cons rfl (.cons rfl (.cons rfl (.cons rfl (.cons rfl (.cons rfl (.cons rfl (.cons rfl .nil))))))))))))) ?_
              refine x_condb rfl (fun hc11 => ?_) (fun hc11 => ?_)
              ·
                obtain ⟨ci, HA0, hl0, hc0, rfl, rfl, rfl, hHA0, hfit, rfl⟩ : ∃ c HA hl hc, P = some ⟨c, 0, none⟩ ∧ is = true ∧ Q = some ⟨pr, 0, none⟩ ∧ Bytes M7 HA hl hc hd ∧ Fit x hd ∧ Ec = [cL c x HA hl hc p] := by
                  rcases hcase with ⟨rfl, _⟩ | h
                  · exact absurd hc11 (by simp)
                  · exact h
                have hk255 : k + 1 < 255 := by omega
                have hnum := hkp.num
                simp only [List.cons_append, List.nil_append]
                refine .to (dL d rd S (sL p d s A1 l1 c1 :: cL ci x HA0 hl0 hc0 p :: (b2, .cells (List.toArray [.int .i64 a.kind, .slice Ac nc cc, .slice Af nf cf, .int .i64 a.stop]) 109 (0, 0)) :: rsL pr q s (atR s) s.num A2 l2 c2 :: rL q rr S (E0 ++ (rcL kk true x HB hb hcb (some ⟨pr, 0, none⟩) :: (b1, .cells (List.toArray [.int .u64 (total.toNat : Int), .int .u64 (batch.toNat : Int), .slice HA hn hc]) 101 (0, 0)) :: L)))) inferInstance ?_
                refine x_seq (x_region ?_)
                refine tl_y rfl (y_move (v := .pointer _) rfl) ?_
                refine tl_e rfl (e_call' rfl (Take_spec (hg.mono hM7) hdk hkp.ok hkp.within (by omega) hba hHA0 x) ?_)
                rintro _ M8 _ hM8 ⟨⟨rd3, A3, l3, c3, hd3, hb3, rfl⟩, rfl⟩
                refine tl_y rfl (y_move (v := .tuple _) rfl) ?_
                refine tl_y rfl (y_extract rfl) ?_
                refine tl_y rfl (y_extract rfl) ?_
                refine tl_y rfl (y_assign (v := .int _ _) rfl) ?_
                refine tl_y rfl (y_assign (v := .int _ _) rfl) ?_
                refine tl_nil (.then_normal ?_)
                refine .sub (F' := [(1, _), (2, _), (4, _), (5, _), (7, _), (8, _), (10, _), (11, _), (12, _), (13, _), (14, _), (15, _), (17, _), (18, _)]) (.cons rfl (.cons rfl (.cons rfl (.cons rfl (.cons rfl (.cons rfl (.cons rfl (.cons rfl (.cons rfl (.cons rfl (.cons rfl (.cons rfl (.cons rfl (.cons rfl .nil)))))))))))))) ?_
                refine x_seq (x_region ?_)
                refine tl_y rfl (y_move (v := .pointer _) rfl) ?_
                refine .to (rcL kk true x HB hb hcb (some ⟨pr, 0, none⟩) :: rsL pr q s (atR s) s.num A2 l2 c2 :: rL q rr S (E0 ++ (dL d rd3 (takeC S s x hd).1.1.1 (sL p d (takeC S s x hd).1.1.2 A3 l3 c3 :: cL ci (takeC S s x hd).1.2 HA0 hl0 hc0 p :: (b2, .cells (List.toArray [.int .i64 a.kind, .slice Ac nc cc, .slice Af nf cf, .int .i64 a.stop]) 109 (0, 0)) :: (b1, .cells (List.toArray [.int .u64 (total.toNat : Int), .int .u64 (batch.toNat : Int), .slice HA hn hc]) 101 (0, 0)) :: L)))) inferInstance ?_
                refine tl_e rfl (e_call' rfl (RTake_spec (hrf.mono hM8) hkp.ok hkp.within (by omega) (hbb.mono hM8) (by omega) hlE (by omega) (hHB.mono hM8) x hfit.1 hfit.2) ?_)
                rintro _ M9 _ hM9 ⟨⟨rr4, lv4, E4, A4, l4, c4, hr4, hE4, hm4, hb4, rfl⟩, rfl⟩
                refine tl_y rfl (y_move (v := .tuple _) rfl) ?_
                refine tl_y rfl (y_extract rfl) ?_
                refine tl_y rfl (y_extract rfl) ?_
                refine tl_y rfl (y_assign (v := .int _ _) rfl) ?_
                refine tl_y rfl (y_assign (v := .int _ _) rfl) ?_
                refine tl_nil (.then_normal ?_)
                refine .sub (F' := [(1, _), (2, _), (4, _), (5, _), (7, _), (8, _), (10, _), (11, _), (12, _), (13, _), (14, _), (15, _), (17, _), (18, _), (19, _), (20, _)]) (.cons rfl (.cons rfl (.cons rfl (.cons rfl (.cons rfl (.cons rfl (.cons rfl (.cons rfl (.cons rfl (.cons rfl (.cons rfl (.cons rfl (.cons rfl (.cons rfl (.cons rfl (.cons rfl .nil)))))))))))))))) ?_
                refine x_seq (x_region ?_)
                refine tl_y rfl (y_move (v := .int _ _) rfl) ?_
                refine tl_y rfl (y_move (v := .int _ _) rfl) ?_
                refine tl_y rfl (y_neq rfl rfl) ?_
                refine tl_y rfl (y_move (v := .bool _) rfl) ?_
                refine tl_set (s := 112) (u := .bool false) rfl (by simp) ?_
                refine tl_y rfl (y_move (v := .int _ _) rfl) ?_
                refine tl_y rfl (y_move (v := .int _ _) rfl) ?_
                refine tl_y rfl (y_neq rfl rfl) ?_
                refine tl_y rfl (y_pickF rfl rfl) ?_
                refine tl_nil (.then_normal ?_)
                refine .sub (F' := [(1, _), (2, _), (4, _), (5, _), (7, _), (8, _), (10, _), (11, _), (12, _), (13, _), (14, _), (15, _), (116, _)]) (.cons rfl (.cons rfl (.cons rfl (.cons rfl (.cons rfl (.cons rfl (.cons rfl (.cons rfl (.cons rfl (.cons rfl (.cons rfl (.cons rfl (.cons rfl .nil))))))))))))) ?_
                refine x_false rfl (by simp) ?_
                refine x_skip (.block_normal (.then_normal (.sub (F' := [(1, _), (2, _), (4, _), (5, _), (7, _), (8, _), (10, _), (11, _), (12, _), (13, _), (14, _), (15, _)]) (.cons rfl (.cons rfl (.cons rfl (.cons rfl (.cons rfl (.cons rfl (.cons rfl (.cons rfl (.cons rfl (.cons rfl (.cons rfl (.cons rfl .nil)))))))))))) (Jj2 _ _ _ _ ?_))))
                exact ⟨(takeC S s x hd).1.1.1, (takeC S s x hd).1.1.2, some ⟨ci, 0, none⟩, kk, p, pr, true, 0, dL d rd3 (takeC S s x hd).1.1.1 (sL p d (takeC S s x hd).1.1.2 A3 l3 c3 :: (cL ci (takeC S s x hd).1.2 HA0 hl0 hc0 p :: (rsL pr q (takeC S s x hd).1.1.2 (atR (takeC S s x hd).1.1.2) (takeC S s x hd).1.1.2.num A4 l4 c4 :: rL q rr4 (takeC S s x hd).1.1.1 (E4 ++ (rcL kk true (takeC S s x hd).1.2 HB hb hcb (some ⟨pr, 0, none⟩) :: (b1, .cells (List.toArray [.int .u64 (total.toNat : Int), .int .u64 (batch.toNat : Int), .slice HA hn hc]) 101 (0, 0)) :: L))))), rfl, hM8.trans hM9, hkp.take hk255 x hd, inferInstance, ⟨rd3, A3, l3, c3, rr4, lv4, E4, A4, l4, c4, HB, hb, hcb, [cL ci (takeC S s x hd).1.2 HA0 hl0 hc0 p], some ⟨pr, 0, none⟩, (takeC S s x hd).1.2, hd, hd3.mono hM9, hb3.mono hM9, hr4, hE4, by omega, hb4, (hHB.mono hM8).mono hM9, .inr ⟨ci, HA0, hl0, hc0, rfl, rfl, rfl, (hHA0.mono hM8).mono hM9, hfit.take, rfl⟩, rfl⟩, rfl⟩
              ·
                refine x_skip (.block_normal (.then_normal (.sub (F' := [(1, _), (2, _), (4, _), (5, _), (7, _), (8, _), (10, _), (11, _), (12, _), (13, _), (14, _), (15, _)]) (.cons rfl (.cons rfl (.cons rfl (.cons rfl (.cons rfl (.cons rfl (.cons rfl (.cons rfl (.cons rfl (.cons rfl (.cons rfl (.cons rfl .nil)))))))))))) (Jj2 _ _ _ _ ?_))))
                exact ⟨S, s, P, kk, p, pr, is, 0, dL d rd S (sL p d s A1 l1 c1 :: (Ec ++ (rsL pr q s (atR s) s.num A2 l2 c2 :: rL q rr S (E0 ++ (rcL kk is x HB hb hcb Q :: (b1, .cells (List.toArray [.int .u64 (total.toNat : Int), .int .u64 (batch.toNat : Int), .slice HA hn hc]) 101 (0, 0)) :: L))))), rfl, Le.refl _, hkp.mono (by omega), inferInstance, ⟨rd, A1, l1, c1, rr, lv, E0, A2, l2, c2, HB, hb, hcb, Ec, Q, x, hd, hdk, hba, hrf, hlE, by omega, hbb, hHB, hcase, rfl⟩, rfl⟩
            ·
              refine x_seq (x_region ?_)
              refine tl_y rfl (y_eql rfl rfl) ?_
              refine tl_y rfl (y_assign (v := .bool _) rfl) ?_
              refine tl_nil (.then_normal ?_)
              refine x_cond rfl (fun hc13 => ?_) (fun hc13 => ?_)
              ·
                refine x_seq (x_region ?_)
                refine tl_y rfl (y_move (v := .pointer _) rfl) ?_
                refine tl_y rfl (y_neNilPtr rfl rfl) ?_
                rw [show (!P.isNone) = decide (P ≠ none) from by cases P <;> rfl]
                refine tl_y rfl (y_move (v := .bool _) rfl) ?_
                refine tl_cases (s := 121) rfl (fun hk8 => ?_) (fun hk8 => ?_)
                ·
                  obtain ⟨ci, HA0, hl0, hc0, rfl, rfl, rfl, hHA0, hfit, rfl⟩ : ∃ c HA hl hc, P = some ⟨c, 0, none⟩ ∧ is = true ∧ Q = some ⟨pr, 0, none⟩ ∧ Bytes M7 HA hl hc hd ∧ Fit x hd ∧ Ec = [cL c x HA hl hc p] := by
                    rcases hcase with ⟨h, _⟩ | h
                    · exact absurd h hk8
                    · exact h
                  have hk255 : k + 1 < 255 := by omega
                  have hnum := hkp.num
                  simp only [List.cons_append, List.nil_append]
                  refine .to (dL d rd S (sL p d s A1 l1 c1 :: cL ci x HA0 hl0 hc0 p :: (b2, .cells (List.toArray [.int .i64 a.kind, .slice Ac nc cc, .slice Af nf cf, .int .i64 a.stop]) 109 (0, 0)) :: rsL pr q s (atR s) s.num A2 l2 c2 :: rL q rr S (E0 ++ (rcL kk true x HB hb hcb (some ⟨pr, 0, none⟩) :: (b1, .cells (List.toArray [.int .u64 (total.toNat : Int), .int .u64 (batch.toNat : Int), .slice HA hn hc]) 101 (0, 0)) :: L)))) inferInstance ?_
                  refine tl_y rfl (y_move (v := .pointer _) rfl) ?_
                  refine tl_e rfl (e_call' rfl (Retire_spec (hg.mono hM7) hdk hkp.ok hkp.within (by omega) hba hHA0 x) ?_)
                  rintro _ M8 _ hM8 ⟨⟨rd3, A3, l3, c3, hd3, hb3, rfl⟩, rfl⟩
                  refine .to (rcL kk true x HB hb hcb (some ⟨pr, 0, none⟩) :: rsL pr q s (atR s) s.num A2 l2 c2 :: rL q rr S (E0 ++ (dL d rd3 (retireC S s x hd).1.1.1 (sL p d (retireC S s x hd).1.1.2 A3 l3 c3 :: cL ci (retireC S s x hd).1.2 HA0 hl0 hc0 p :: (b2, .cells (List.toArray [.int .i64 a.kind, .slice Ac nc cc, .slice Af nf cf, .int .i64 a.stop]) 109 (0, 0)) :: (b1, .cells (List.toArray [.int .u64 (total.toNat : Int), .int .u64 (batch.toNat : Int), .slice HA hn hc]) 101 (0, 0)) :: L)))) inferInstance ?_
                  refine tl_y rfl (y_move (v := .pointer _) rfl) ?_
                  refine tl_e rfl (e_call' rfl (RRetire_spec (hrf.mono hM8) hkp.ok hkp.within (by omega) (hbb.mono hM8) (by omega) hlE (by omega) (hHB.mono hM8) x hfit.1) ?_)
                  rintro _ M9 _ hM9 ⟨⟨rr4, lv4, E4, A4, l4, c4, hr4, hE4, hm4, hb4, rfl⟩, rfl⟩
                  refine tl_y rfl (y_neq rfl rfl) ?_
                  refine tl_y rfl (y_pickT rfl rfl) ?_
                  refine tl_nil (.then_normal ?_)
                  refine .sub (F' := [(1, _), (2, _), (4, _), (5, _), (7, _), (8, _), (10, _), (11, _), (12, _), (13, _), (14, _), (15, _), (127, _)]) (.cons rfl (.cons rfl (.cons rfl (.cons rfl (.cons rfl (.cons rfl (.cons rfl (.cons rfl (.cons rfl (.cons rfl (.cons rfl (.cons rfl (.cons rfl .nil))))))))))))) ?_
                  refine x_false rfl (by simp) ?_
                  refine x_skip (.block_normal (.then_normal (.sub (F' := [(1, _), (2, _), (4, _), (5, _), (7, _), (8, _), (10, _), (11, _), (12, _), (13, _), (14, _), (15, _)]) (.cons rfl (.cons rfl (.cons rfl (.cons rfl (.cons rfl (.cons rfl (.cons rfl (.cons rfl (.cons rfl (.cons rfl (.cons rfl (.cons rfl .nil)))))))))))) (Jj2 _ _ _ _ ?_))))
                  exact ⟨(retireC S s x hd).1.1.1, (retireC S s x hd).1.1.2, some ⟨ci, 0, none⟩, kk, p, pr, true, 0, dL d rd3 (retireC S s x hd).1.1.1 (sL p d (retireC S s x hd).1.1.2 A3 l3 c3 :: (cL ci (retireC S s x hd).1.2 HA0 hl0 hc0 p :: (rsL pr q (retireC S s x hd).1.1.2 (atR (retireC S s x hd).1.1.2) (retireC S s x hd).1.1.2.num A4 l4 c4 :: rL q rr4 (retireC S s x hd).1.1.1 (E4 ++ (rcL kk true (retireC S s x hd).1.2 HB hb hcb (some ⟨pr, 0, none⟩) :: (b1, .cells (List.toArray [.int .u64 (total.toNat : Int), .int .u64 (batch.toNat : Int), .slice HA hn hc]) 101 (0, 0)) :: L))))), rfl, hM8.trans hM9, hkp.csave hk255 x { x with retired := true } hd, inferInstance, ⟨rd3, A3, l3, c3, rr4, lv4, E4, A4, l4, c4, HB, hb, hcb, [cL ci (retireC S s x hd).1.2 HA0 hl0 hc0 p], some ⟨pr, 0, none⟩, (retireC S s x hd).1.2, hd, hd3.mono hM9, hb3.mono hM9, hr4, hE4, by omega, hb4, (hHB.mono hM8).mono hM9, .inr ⟨ci, HA0, hl0, hc0, rfl, rfl, rfl, (hHA0.mono hM8).mono hM9, hfit.retire, rfl⟩, rfl⟩, rfl⟩
                ·
                  refine tl_skip rfl ?_
                  refine tl_skip rfl ?_
                  refine tl_skip rfl ?_
                  refine tl_skip rfl ?_
                  refine tl_skip rfl ?_
                  refine tl_y rfl (y_pickF rfl rfl) ?_
                  refine tl_nil (.then_normal ?_)
                  refine .sub (F' := [(1, _), (2, _), (4, _), (5, _), (7, _), (8, _), (10, _), (11, _), (12, _), (13, _), (14, _), (15, _), (127, _)]) (.cons rfl (.cons rfl (.cons rfl (.cons rfl (.cons rfl (.cons rfl (.cons rfl (.cons rfl (.cons rfl (.cons rfl (.cons rfl (.cons rfl (.cons rfl .nil))))))))))))) ?_
                  refine x_false rfl rfl ?_
                  refine x_skip (.block_normal (.then_normal (.sub (F' := [(1, _), (2, _), (4, _), (5, _), (7, _), (8, _), (10, _), (11, _), (12, _), (13, _), (14, _), (15, _)]) (.cons rfl (.cons rfl (.cons rfl (.cons rfl (.cons rfl (.cons rfl (.cons rfl (.cons rfl (.cons rfl (.cons rfl (.cons rfl (.cons rfl .nil)))))))))))) (Jj2 _ _ _ _ ?_))))
                  exact ⟨S, s, P, kk, p, pr, is, 0, dL d rd S (sL p d s A1 l1 c1 :: (Ec ++ (rsL pr q s (atR s) s.num A2 l2 c2 :: rL q rr S (E0 ++ (rcL kk is x HB hb hcb Q :: (b1, .cells (List.toArray [.int .u64 (total.toNat : Int), .int .u64 (batch.toNat : Int), .slice HA hn hc]) 101 (0, 0)) :: L))))), rfl, Le.refl _, hkp.mono (by omega), inferInstance, ⟨rd, A1, l1, c1, rr, lv, E0, A2, l2, c2, HB, hb, hcb, Ec, Q, x, hd, hdk, hba, hrf, hlE, by omega, hbb, hHB, hcase, rfl⟩, rfl⟩
              ·
                refine x_seq (x_region ?_)
                refine tl_y rfl (y_eql rfl rfl) ?_
                refine tl_y rfl (y_assign (v := .bool _) rfl) ?_
                refine tl_nil (.then_normal ?_)
                refine .sub (F' := [(1, _), (2, _), (4, _), (5, _), (7, _), (8, _), (10, _), (11, _), (12, _), (13, _), (14, _), (15, _), (16, _), (94, _), (128, _)]) (.cons rfl (.cons rfl (.cons rfl (.cons rfl (.cons rfl (.cons rfl (.cons rfl (.cons rfl (.cons rfl (.cons rfl (.cons rfl (.cons rfl (.cons rfl (.cons rfl (.cons rfl .nil))))))))))))))) ?_
                refine x_cond rfl (fun hc15 => ?_) (fun hc15 => ?_)
                ·
                  refine x_seq (x_region ?_)
                  refine tl_y rfl (y_move (v := .pointer _) rfl) ?_
                  refine tl_y rfl (y_fieldAddr rfl) ?_
                  refine tl_y rfl (y_loadAgg rfl rfl (.own inferInstance inferInstance)) ?_
                  refine tl_e rfl (e_call' rfl (Con.to (dL d rd S (sL p d s A1 l1 c1 :: (b2, .cells (List.toArray [.int .i64 a.kind, .slice Ac nc cc, .slice Af nf cf, .int .i64 a.stop]) 109 (0, 0)) :: (Ec ++ (rsL pr q s (atR s) s.num A2 l2 c2 :: rL q rr S (E0 ++ (rcL kk is x HB hb hcb Q :: (b1, .cells (List.toArray [.int .u64 (total.toNat : Int), .int .u64 (batch.toNat : Int), .slice HA hn hc]) 101 (0, 0)) :: L)))))) inferInstance (Plan_spec hdk hfs (by omega) a.stop)) ?_)
                  rintro _ M8 _ hM8 ⟨r8, hd8, rfl⟩
                  refine tl_nil (.then_normal ?_)
                  refine .sub (F' := [(1, _), (2, _), (4, _), (5, _), (7, _), (8, _), (10, _), (11, _), (12, _), (13, _), (14, _), (15, _), (16, _)]) (.cons rfl (.cons rfl (.cons rfl (.cons rfl (.cons rfl (.cons rfl (.cons rfl (.cons rfl (.cons rfl (.cons rfl (.cons rfl (.cons rfl (.cons rfl .nil))))))))))))) ?_
                  refine x_region ?_
                  refine tl_y rfl (y_move (v := .pointer _) rfl) ?_
                  refine tl_y rfl (y_fieldAddr rfl) ?_
                  refine tl_y rfl (y_loadAgg rfl rfl (.own inferInstance inferInstance)) ?_
                  refine tl_y rfl (y_nilCheck rfl) ?_
                  refine tl_y rfl (y_fieldAddr rfl) ?_
                  refine tl_e rfl (e_store rfl rfl (by rfl) (by rfl) inferInstance inferInstance inferInstance ?_)
                  refine tl_nil (.block_normal (.then_normal (.sub (F' := [(1, _), (2, _), (4, _), (5, _), (7, _), (8, _), (10, _), (11, _), (12, _), (13, _), (14, _), (15, _)]) (.cons rfl (.cons rfl (.cons rfl (.cons rfl (.cons rfl (.cons rfl (.cons rfl (.cons rfl (.cons rfl (.cons rfl (.cons rfl (.cons rfl .nil)))))))))))) (Jj2 _ _ _ _ ?_))))
                  exact ⟨{ S with fail := a.fail, stop := a.stop }, s, P, kk, p, pr, is, 0, dL d r8 { S with fail := a.fail, stop := a.stop } (sL p d s A1 l1 c1 :: (Ec ++ (rsL pr q s (atR s) s.num A2 l2 c2 :: rL q { rr with fa := Af, fn := nf, fc := cf } { S with fail := a.fail, stop := a.stop } (E0 ++ (rcL kk is x HB hb hcb Q :: (b1, .cells (List.toArray [.int .u64 (total.toNat : Int), .int .u64 (batch.toNat : Int), .slice HA hn hc]) 101 (0, 0)) :: L))))), rfl, hM8, (hkp.mono (by omega)).of rfl rfl rfl, inferInstance, ⟨r8, A1, l1, c1, { rr with fa := Af, fn := nf, fc := cf }, lv, E0, A2, l2, c2, HB, hb, hcb, Ec, Q, x, hd, hd8, hba.mono hM8, ⟨hrf.s, hrf.w, hrf.h, hrf.sure.mono hM8, hrf.what.mono hM8, hfs.mono hM8, hrf.sl, hrf.pl, hrf.sz⟩, hlE, by show rr.ln ≤ k + 2; omega, hbb.mono hM8, hHB.mono hM8, (by rcases hcase with ⟨h1, h2, h3⟩ | ⟨c, HA, hl, hc, h1, h2, h3, h4, h5, h6⟩; exact .inl ⟨h1, h2, h3⟩; exact .inr ⟨c, HA, hl, hc, h1, h2, h3, h4.mono hM8, h5, h6⟩), rfl⟩, rfl⟩
                ·
                  refine x_seq (x_region ?_)
                  refine tl_y rfl (y_eql rfl rfl) ?_
                  refine tl_y rfl (y_assign (v := .bool _) rfl) ?_
                  refine tl_nil (.then_normal ?_)
                  refine x_cond rfl (fun hc16 => ?_) (fun hc16 => ?_)
                  ·
                    refine x_seq (x_region ?_)
                    refine tl_y rfl (y_move (v := .pointer _) rfl) ?_
                    refine tl_e rfl (e_call' rfl (Con.to (dL d rd S (sL p d s A1 l1 c1 :: (b2, .cells (List.toArray [.int .i64 a.kind, .slice Ac nc cc, .slice Af nf cf, .int .i64 a.stop]) 109 (0, 0)) :: (Ec ++ (rsL pr q s (atR s) s.num A2 l2 c2 :: rL q rr S (E0 ++ (rcL kk is x HB hb hcb Q :: (b1, .cells (List.toArray [.int .u64 (total.toNat : Int), .int .u64 (batch.toNat : Int), .slice HA hn hc]) 101 (0, 0)) :: L)))))) inferInstance (Stop_spec hdk)) ?_)
                    rintro _ M8 _ hM8 ⟨rfl, r8, hd8, rfl⟩
                    refine tl_nil (.then_normal ?_)
                    refine .sub (F' := [(1, _), (2, _), (4, _), (5, _), (7, _), (8, _), (10, _), (11, _), (12, _), (13, _), (14, _), (15, _)]) (.cons rfl (.cons rfl (.cons rfl (.cons rfl (.cons rfl (.cons rfl (.cons rfl (.cons rfl (.cons rfl (.cons rfl (.cons rfl (.cons rfl .nil)))))))))))) ?_
                    refine x_region ?_
                    refine tl_y rfl (y_move (v := .pointer _) rfl) ?_
                    refine tl_y rfl (y_nilCheck rfl) ?_
                    refine tl_y rfl (y_fieldAddr rfl) ?_
                    refine tl_e rfl (e_store rfl rfl (by rfl) (by rfl) inferInstance inferInstance inferInstance ?_)
                    refine tl_nil (.block_normal (.then_normal (.sub (F' := [(1, _), (2, _), (4, _), (5, _), (7, _), (8, _), (10, _), (11, _), (12, _), (13, _), (14, _), (15, _)]) (.cons rfl (.cons rfl (.cons rfl (.cons rfl (.cons rfl (.cons rfl (.cons rfl (.cons rfl (.cons rfl (.cons rfl (.cons rfl (.cons rfl .nil)))))))))))) (Jj2 _ _ _ _ ?_))))
                    exact ⟨{ S with down := true }, s, P, kk, p, pr, is, 0, dL d r8 { S with down := true } (sL p d s A1 l1 c1 :: (Ec ++ (rsL pr q s (atR s) s.num A2 l2 c2 :: rL q rr { S with down := true } (E0 ++ (rcL kk is x HB hb hcb Q :: (b1, .cells (List.toArray [.int .u64 (total.toNat : Int), .int .u64 (batch.toNat : Int), .slice HA hn hc]) 101 (0, 0)) :: L))))), rfl, hM8, (hkp.mono (by omega)).of rfl rfl rfl, inferInstance, ⟨r8, A1, l1, c1, rr, lv, E0, A2, l2, c2, HB, hb, hcb, Ec, Q, x, hd, hd8, hba.mono hM8, ⟨hrf.s, hrf.w, hrf.h, hrf.sure, hrf.what, hrf.fail, hrf.sl, hrf.pl, hrf.sz⟩, hlE, by show rr.ln ≤ k + 2; omega, hbb.mono hM8, hHB.mono hM8, (by rcases hcase with ⟨h1, h2, h3⟩ | ⟨c, HA, hl, hc, h1, h2, h3, h4, h5, h6⟩; exact .inl ⟨h1, h2, h3⟩; exact .inr ⟨c, HA, hl, hc, h1, h2, h3, h4.mono hM8, h5, h6⟩), rfl⟩, rfl⟩
                  ·
                    refine x_join (I := fun F D M8 L8 => ∃ t : Bool, D = [] ∧ M7 = M8 ∧ (b2, .cells (List.toArray [.int .i64 a.kind, .slice Ac nc cc, .slice Af nf cf, .int .i64 a.stop]) 109 (0, 0)) :: dL d rd S (sL p d s A1 l1 c1 :: (Ec ++ (rsL pr q s (atR s) s.num A2 l2 c2 :: rL q rr S (E0 ++ (rcL kk is x HB hb hcb Q :: (b1, .cells (List.toArray [.int .u64 (total.toNat : Int), .int .u64 (batch.toNat : Int), .slice HA hn hc]) 101 (0, 0)) :: L))))) = L8 ∧ F = [(1, .slice (some ⟨g, o, none⟩) n c), (2, .pointer (some ⟨b1, 0, none⟩)), (4, .bool false), (5, .pointer (some ⟨d, 0, none⟩)), (7, .pointer (some ⟨q, 0, none⟩)), (8, .pointer (some ⟨p, 0, none⟩)), (10, .pointer (some ⟨pr, 0, none⟩)), (11, .pointer P), (12, .int .i64 0), (13, .pointer (some ⟨kk, 0, none⟩)), (14, .int .i64 0), (15, .int .i64 k), (16, .pointer (some ⟨b2, 0, none⟩)), (146, .bool t)]) ?_ (fun Jj3 => ?_)
                    ·
                      rintro _ _ _ _ ⟨t, rfl, rfl, rfl, rfl⟩  -- slots [1, 2, 4, 5, 7, 8, 10, 11, 12, 13, 14, 15, 16, 146]
                      refine x_condb rfl (fun hc17 => ?_) (fun hc17 => ?_)
                      ·
                        refine x_join (I := fun F D M8 L8 => ∃ (S1 : DS) (rd1 : DRep) (rr1 : RRep), D = [] ∧ Le M7 M8 ∧ Kept S1 s (k + 1) ∧ IsDisk M8 rd1 S1 ∧ IsRef M8 rr1 S1 ∧ rr1.la = rr.la ∧ rr1.ln = rr.ln ∧ rr1.lc = rr.lc ∧ L8 = dL d rd1 S1 ((b2, .cells (List.toArray [.int .i64 a.kind, .slice Ac nc cc, .slice Af nf cf, .int .i64 a.stop]) 109 (0, 0)) :: rL q rr1 S1 (E0 ++ ((b1, .cells (List.toArray [.int .u64 (total.toNat : Int), .int .u64 (batch.toNat : Int), .slice HA hn hc]) 101 (0, 0)) :: L))) ∧ F = [(1, .slice (some ⟨g, o, none⟩) n c), (2, .pointer (some ⟨b1, 0, none⟩)), (4, .bool false), (5, .pointer (some ⟨d, 0, none⟩)), (7, .pointer (some ⟨q, 0, none⟩)), (8, .pointer (some ⟨p, 0, none⟩)), (10, .pointer (some ⟨pr, 0, none⟩)), (11, .pointer P), (12, .int .i64 0), (13, .pointer (some ⟨kk, 0, none⟩)), (14, .int .i64 0), (15, .int .i64 k), (16, .pointer (some ⟨b2, 0, none⟩))]) ?_ (fun Jj4 => ?_)
                        ·
                          rintro _ _ M8 _ ⟨S1, rd1, rr1, rfl, hM8, hk1', hd1', hr1', g1', g2', g3', rfl, rfl⟩  -- slots [1, 2, 4, 5, 7, 8, 10, 11, 12, 13, 14, 15, 16]
                          refine x_seq (x_region ?_)
                          refine tl_y rfl (y_move (v := .pointer _) rfl) ?_
                          refine tl_e rfl (e_call' rfl (sNew_ok (S := S1) hd1' 0 8 (by omega) (by rw [hk1'.tame.len]; omega)) ?_)
                          rintro _ M9 _ hM9 ⟨p2, rfl, r9, A9, l9, c9, hd9, hb9, rfl⟩
                          have hks := hk1'.slots
                          have hlE1 : OwnRow 147 2 rr1.la rr1.ln rr1.lc lv E0 := by rw [g1', g2', g3']; exact hlE
                          have hm9 := hM7.trans (hM8.trans hM9)
                          refine tl_y rfl (y_move (v := .tuple _) rfl) ?_
                          refine tl_y rfl (y_extract rfl) ?_
                          refine tl_y rfl (y_extract rfl) ?_
                          refine tl_y rfl (y_assign (v := .pointer _) rfl) ?_
                          refine tl_nil (.then_normal ?_)
                          refine .sub (F' := [(1, _), (2, _), (4, _), (5, _), (7, _), (8, _), (10, _), (11, _), (12, _), (13, _), (14, _), (15, _), (16, _)]) (.cons rfl (.cons rfl (.cons rfl (.cons rfl (.cons rfl (.cons rfl (.cons rfl (.cons rfl (.cons rfl (.cons rfl (.cons rfl (.cons rfl (.cons rfl .nil))))))))))))) ?_
                          refine x_seq (x_region ?_)
                          refine tl_y rfl (y_move (v := .pointer _) rfl) ?_
                          refine tl_e rfl (e_call' rfl (RNew20_spec 0 8) ?_)
                          rintro _ _ _ _ ⟨rfl, pr2, rfl, rfl⟩
                          refine tl_y rfl (y_assign (v := .pointer _) rfl) ?_
                          refine tl_nil (.then_normal ?_)
                          refine x_seq (x_seq (x_region ?_))
                          refine tl_y rfl (y_move (v := .pointer _) rfl) ?_
                          refine tl_y rfl (y_eqNilPtr rfl rfl) ?_
                          refine tl_nil (.then_normal ?_)
                          refine x_false rfl (rfl) ?_
                          refine x_skip (.then_normal ?_)
                          refine .sub (F' := [(1, _), (2, _), (4, _), (5, _), (7, _), (8, _), (10, _), (11, _), (12, _), (13, _), (14, _), (15, _), (16, _)]) (.cons rfl (.cons rfl (.cons rfl (.cons rfl (.cons rfl (.cons rfl (.cons rfl (.cons rfl (.cons rfl (.cons rfl (.cons rfl (.cons rfl (.cons rfl .nil))))))))))))) ?_
                          refine x_seq (x_region ?_)
                          refine tl_y rfl (y_fieldAddr rfl) ?_
                          refine tl_y rfl (y_load rfl rfl (.own inferInstance inferInstance)) ?_
                          refine tl_y rfl (y_eql rfl rfl) ?_
                          refine tl_nil (.then_normal ?_)
                          refine x_cond rfl (fun hc19 => ?_) (fun hc19 => ?_)
                          ·
                            refine x_seq (x_region ?_)
                            refine tl_y rfl (y_move (v := .pointer _) rfl) ?_
                            refine tl_y rfl (y_fieldAddr rfl) ?_
                            refine tl_y rfl (y_load rfl rfl (.own inferInstance inferInstance)) ?_
                            refine tl_y rfl (y_fieldAddr rfl) ?_
                            refine tl_y rfl (y_load rfl rfl (.own inferInstance inferInstance)) ?_
                            refine tl_y rfl (y_fieldAddr rfl) ?_
                            refine tl_y rfl (y_load rfl rfl (.own inferInstance inferInstance)) ?_
                            refine .to (dL d r9 S1 (sL p2 d (s0 0 8) A9 l9 c9 :: rsL pr2 q (s0 0 8) (-1) 0 none 0 0 :: rL q rr1 S1 (E0 ++ ((b1, .cells (List.toArray [.int .u64 (total.toNat : Int), .int .u64 (batch.toNat : Int), .slice HA hn hc]) 101 (0, 0)) :: (b2, .cells (List.toArray [.int .i64 a.kind, .slice Ac nc cc, .slice Af nf cf, .int .i64 a.stop]) 109 (0, 0)) :: L)))) inferInstance ?_
                            refine tl_e rfl (e_call' rfl (cNew_spec (hg.mono hm9) hd9 hks.ok hks.within (by omega) hb9 (hh.mono hm9) total batch) ?_)
                            intro v5 M5 L5 hM5 hv
                            have hkN := hks.new (by omega) head total batch
                            obtain ⟨P5, E5, r5, A5, l5, c5, rfl, hd5, hb5, hP, rfl⟩ : ∃ P E5 r5 A5 l5 c5, v5 = .tuple #[.pointer P, .int .i64 (newC S1 (s0 0 8) head total batch).2] ∧ IsDisk M5 r5 (newC S1 (s0 0 8) head total batch).1.1 ∧ Bytes M5 A5 l5 c5 (newC S1 (s0 0 8) head total batch).1.2.b ∧
                                ((P = none ∧ (newC S1 (s0 0 8) head total batch).2 ≠ 0 ∧ E5 = []) ∨ (∃ c HA' hc', P = some ⟨c, 0, none⟩ ∧ (newC S1 (s0 0 8) head total batch).2 = 0 ∧ Bytes M5 HA' hn hc' head ∧ E5 = [cL c (newX total batch) HA' hn hc' p2])) ∧
                                L5 = dL d r5 (newC S1 (s0 0 8) head total batch).1.1 (sL p2 d (newC S1 (s0 0 8) head total batch).1.2 A5 l5 c5 :: (E5 ++ (rsL pr2 q (s0 0 8) (-1) 0 none 0 0 :: rL q rr1 S1 (E0 ++ ((b1, .cells (List.toArray [.int .u64 (total.toNat : Int), .int .u64 (batch.toNat : Int), .slice HA hn hc]) 101 (0, 0)) :: (b2, .cells (List.toArray [.int .i64 a.kind, .slice Ac nc cc, .slice Af nf cf, .int .i64 a.stop]) 109 (0, 0)) :: L))))) := by
                              split at hv
                              · rename_i h0
                                obtain ⟨c, A', c', rfl, hh', r5, A5, l5, c5, hd5, hb5, rfl⟩ := hv
                                exact ⟨_, _, r5, A5, l5, c5, by rw [h0], hd5, hb5, .inr ⟨c, A', c', rfl, h0, hh', rfl⟩, rfl⟩
                              · rename_i h0
                                obtain ⟨rfl, r5, A5, l5, c5, hd5, hb5, rfl⟩ := hv
                                exact ⟨none, [], r5, A5, l5, c5, rfl, hd5, hb5, .inl ⟨rfl, h0, rfl⟩, rfl⟩
                            refine tl_y rfl (y_move (v := .tuple _) rfl) ?_
                            refine tl_y rfl (y_extract rfl) ?_
                            refine tl_y rfl (y_extract rfl) ?_
                            refine tl_y rfl (y_assign (v := .pointer _) rfl) ?_
                            refine tl_y rfl (y_assign (v := .int _ _) rfl) ?_
                            refine tl_nil (.then_normal ?_)
                            refine .sub (F' := [(1, _), (2, _), (4, _), (5, _), (7, _), (8, _), (10, _), (11, _), (12, _), (13, _), (14, _), (15, _)]) (.cons rfl (.cons rfl (.cons rfl (.cons rfl (.cons rfl (.cons rfl (.cons rfl (.cons rfl (.cons rfl (.cons rfl (.cons rfl (.cons rfl .nil)))))))))))) ?_
                            refine x_region ?_
                            refine tl_y rfl (y_move (v := .pointer _) rfl) ?_
                            refine tl_y rfl (y_fieldAddr rfl) ?_
                            refine tl_y rfl (y_load rfl rfl (.own inferInstance inferInstance)) ?_
                            refine tl_y rfl (y_fieldAddr rfl) ?_
                            refine tl_y rfl (y_load rfl rfl (.own inferInstance inferInstance)) ?_
                            refine tl_y rfl (y_fieldAddr rfl) ?_
                            refine tl_y rfl (y_load rfl rfl (.own inferInstance inferInstance)) ?_
                            refine .to (rsL pr2 q (s0 0 8) (-1) 0 none 0 0 :: rL q rr1 S1 (E0 ++ (dL d r5 (newC S1 (s0 0 8) head total batch).1.1 (sL p2 d (newC S1 (s0 0 8) head total batch).1.2 A5 l5 c5 :: (E5 ++ ((b1, .cells (List.toArray [.int .u64 (total.toNat : Int), .int .u64 (batch.toNat : Int), .slice HA hn hc]) 101 (0, 0)) :: (b2, .cells (List.toArray [.int .i64 a.kind, .slice Ac nc cc, .slice Af nf cf, .int .i64 a.stop]) 109 (0, 0)) :: L)))))) inferInstance ?_
                            refine tl_e rfl (e_call' rfl (RNew21_spec (s := s0 0 8) ((hr1'.mono hM9).mono hM5) hks.ok hks.within (by omega) (show Bytes M5 none 0 0 [] from Row.nil _ _) hlE1 (by omega) (hh.mono (hm9.trans hM5)) total batch) ?_)
                            intro v6 M6 L6 hM6 hv6
                            obtain ⟨k6, rfl, hcs6⟩ := hv6
                            obtain ⟨is6, x6, HB6, hb6', hcb6, Q6, hd6, hRS, hB6, hPP⟩ : ∃ is x HB hb hcb Q, ∃ hd6 : List UInt8, RS pr2 q (newC S1 (s0 0 8) head total batch).1.1 (newC S1 (s0 0 8) head total batch).1.2 (rr1.ln + 1) (rcL k6 is x HB hb hcb Q :: (dL d r5 (newC S1 (s0 0 8) head total batch).1.1 (sL p2 d (newC S1 (s0 0 8) head total batch).1.2 A5 l5 c5 :: (E5 ++ ((b1, .cells (List.toArray [.int .u64 (total.toNat : Int), .int .u64 (batch.toNat : Int), .slice HA hn hc]) 101 (0, 0)) :: (b2, .cells (List.toArray [.int .i64 a.kind, .slice Ac nc cc, .slice Af nf cf, .int .i64 a.stop]) 109 (0, 0)) :: L))))) M6 L6 ∧ Bytes M6 HB hb hcb hd6 ∧
                                ((P5 = none ∧ is = false ∧ E5 = []) ∨ (∃ c HA hl hc, P5 = some ⟨c, 0, none⟩ ∧ is = true ∧ Q = some ⟨pr2, 0, none⟩ ∧ Bytes M6 HA hl hc hd6 ∧ Fit x hd6 ∧ E5 = [cL c x HA hl hc p2])) := by
                              rcases hP with ⟨h1, h2, h3⟩ | ⟨c, HA', hc', h1, h2, h3, h4⟩
                              · rw [if_neg h2] at hcs6
                                exact ⟨false, zeroC, none, 0, 0, none, [], hcs6, Row.nil _ _, .inl ⟨h1, rfl, h3⟩⟩
                              · rw [if_pos h2] at hcs6
                                exact ⟨true, newX total batch, HA, hn, hc, some ⟨pr2, 0, none⟩, head, hcs6, hh.mono (hm9.trans (hM5.trans hM6)), .inr ⟨c, HA', hn, hc', h1, rfl, rfl, h3.mono hM6, fit_new h2, h4⟩⟩
                            obtain ⟨rr6, lv6, E6, A6, l6, c6, hr6, hE6, hln6, hb6, rfl⟩ := hRS
                            refine tl_y rfl (y_move (v := .tuple _) rfl) ?_
                            refine tl_y rfl (y_extract rfl) ?_
                            refine tl_y rfl (y_extract rfl) ?_
                            refine tl_y rfl (y_assign (v := .pointer _) rfl) ?_
                            refine tl_y rfl (y_assign (v := .int _ _) rfl) ?_
                            refine tl_nil (.block_normal (.then_normal (.sub (F' := [(1, _), (2, _), (4, _), (5, _), (7, _), (8, _), (10, _), (11, _), (12, _), (13, _), (14, _), (15, _)]) (.cons rfl (.cons rfl (.cons rfl (.cons rfl (.cons rfl (.cons rfl (.cons rfl (.cons rfl (.cons rfl (.cons rfl (.cons rfl (.cons rfl .nil)))))))))))) (Jj2 _ _ _ _ ?_))))
                            exact ⟨(newC S1 (s0 0 8) head total batch).1.1, (newC S1 (s0 0 8) head total batch).1.2, P5, k6, p2, pr2, is6, (newC S1 (s0 0 8) head total batch).2, dL d r5 (newC S1 (s0 0 8) head total batch).1.1 (sL p2 d (newC S1 (s0 0 8) head total batch).1.2 A5 l5 c5 :: (E5 ++ (rsL pr2 q (newC S1 (s0 0 8) head total batch).1.2 (atR (newC S1 (s0 0 8) head total batch).1.2) (newC S1 (s0 0 8) head total batch).1.2.num A6 l6 c6 :: rL q rr6 (newC S1 (s0 0 8) head total batch).1.1 (E6 ++ (rcL k6 is6 x6 HB6 hb6' hcb6 Q6 :: (b1, .cells (List.toArray [.int .u64 (total.toNat : Int), .int .u64 (batch.toNat : Int), .slice HA hn hc]) 101 (0, 0)) :: L))))), rfl, hM8.trans (hM9.trans (hM5.trans hM6)), hkN, inferInstance, ⟨r5, A5, l5, c5, rr6, lv6, E6, A6, l6, c6, HB6, hb6', hcb6, E5, Q6, x6, hd6, hd5.mono hM6, hb5.mono hM6, hr6, hE6, by omega, hb6, hB6, hPP, rfl⟩, rfl⟩
                          ·
                            refine x_seq (x_region ?_)
                            refine tl_y rfl (y_move (v := .pointer _) rfl) ?_
                            refine .to (dL d r9 S1 (sL p2 d (s0 0 8) A9 l9 c9 :: rsL pr2 q (s0 0 8) (-1) 0 none 0 0 :: rL q rr1 S1 (E0 ++ ((b1, .cells (List.toArray [.int .u64 (total.toNat : Int), .int .u64 (batch.toNat : Int), .slice HA hn hc]) 101 (0, 0)) :: (b2, .cells (List.toArray [.int .i64 a.kind, .slice Ac nc cc, .slice Af nf cf, .int .i64 a.stop]) 109 (0, 0)) :: L)))) inferInstance ?_
                            refine tl_e rfl (e_call' rfl (cOpen_spec (hg.mono hm9) hd9 hks.ok hb9) ?_)
                            intro v5 M5 L5 hM5 hv
                            have hkN := hks.load.mono (Nat.le_succ (k + 1))
                            obtain ⟨P5, E5, r5, A5, l5, c5, rfl, hd5, hb5, hP, rfl⟩ : ∃ P E5 r5 A5 l5 c5, v5 = .tuple #[.pointer P, .int .i64 (openC S1 (s0 0 8)).2] ∧ IsDisk M5 r5 S1 ∧ Bytes M5 A5 l5 c5 (loadRes S1 (s0 0 8)).1.b ∧
                                ((P = none ∧ (openC S1 (s0 0 8)).2 ≠ 0 ∧ E5 = []) ∨ (∃ c HA' hl' hc', P = some ⟨c, 0, none⟩ ∧ (openC S1 (s0 0 8)).2 = 0 ∧ Bytes M5 HA' hl' hc' (openC S1 (s0 0 8)).1.2 ∧ E5 = [cL c (openC S1 (s0 0 8)).1.1 HA' hl' hc' p2])) ∧
                                L5 = dL d r5 S1 (sL p2 d (loadRes S1 (s0 0 8)).1 A5 l5 c5 :: (E5 ++ (rsL pr2 q (s0 0 8) (-1) 0 none 0 0 :: rL q rr1 S1 (E0 ++ ((b1, .cells (List.toArray [.int .u64 (total.toNat : Int), .int .u64 (batch.toNat : Int), .slice HA hn hc]) 101 (0, 0)) :: (b2, .cells (List.toArray [.int .i64 a.kind, .slice Ac nc cc, .slice Af nf cf, .int .i64 a.stop]) 109 (0, 0)) :: L))))) := by
                              split at hv
                              · rename_i h0
                                obtain ⟨c, A', n', c', rfl, hh', r5, A5, l5, c5, hd5, hb5, rfl⟩ := hv
                                exact ⟨_, _, r5, A5, l5, c5, by rw [h0], hd5, hb5, .inr ⟨c, A', n', c', rfl, h0, hh', rfl⟩, rfl⟩
                              · rename_i h0
                                obtain ⟨rfl, r5, A5, l5, c5, hd5, hb5, rfl⟩ := hv
                                exact ⟨none, [], r5, A5, l5, c5, rfl, hd5, hb5, .inl ⟨rfl, h0, rfl⟩, rfl⟩
                            refine tl_y rfl (y_move (v := .tuple _) rfl) ?_
                            refine tl_y rfl (y_extract rfl) ?_
                            refine tl_y rfl (y_extract rfl) ?_
                            refine tl_y rfl (y_assign (v := .pointer _) rfl) ?_
                            refine tl_y rfl (y_assign (v := .int _ _) rfl) ?_
                            refine tl_nil (.then_normal ?_)
                            refine .sub (F' := [(1, _), (2, _), (4, _), (5, _), (7, _), (8, _), (10, _), (11, _), (12, _), (13, _), (14, _), (15, _)]) (.cons rfl (.cons rfl (.cons rfl (.cons rfl (.cons rfl (.cons rfl (.cons rfl (.cons rfl (.cons rfl (.cons rfl (.cons rfl (.cons rfl .nil)))))))))))) ?_
                            refine x_region ?_
                            refine tl_y rfl (y_move (v := .pointer _) rfl) ?_
                            refine .to (rsL pr2 q (s0 0 8) (-1) 0 none 0 0 :: rL q rr1 S1 (E0 ++ (dL d r5 S1 (sL p2 d (loadRes S1 (s0 0 8)).1 A5 l5 c5 :: (E5 ++ ((b1, .cells (List.toArray [.int .u64 (total.toNat : Int), .int .u64 (batch.toNat : Int), .slice HA hn hc]) 101 (0, 0)) :: (b2, .cells (List.toArray [.int .i64 a.kind, .slice Ac nc cc, .slice Af nf cf, .int .i64 a.stop]) 109 (0, 0)) :: L)))))) inferInstance ?_
                            refine tl_e rfl (e_call' rfl (ROpen21_spec (s := s0 0 8) ((hr1'.mono hM9).mono hM5) hks.ok (show Bytes M5 none 0 0 [] from Row.nil _ _) hlE1) ?_)
                            intro v6 M6 L6 hM6 hv6
                            obtain ⟨k6, rfl, hcs6⟩ := hv6
                            obtain ⟨is6, x6, HB6, hb6', hcb6, Q6, hd6, hRS, hB6, hPP⟩ : ∃ is x HB hb hcb Q, ∃ hd6 : List UInt8, RS pr2 q S1 (loadRes S1 (s0 0 8)).1 rr1.ln (rcL k6 is x HB hb hcb Q :: (dL d r5 S1 (sL p2 d (loadRes S1 (s0 0 8)).1 A5 l5 c5 :: (E5 ++ ((b1, .cells (List.toArray [.int .u64 (total.toNat : Int), .int .u64 (batch.toNat : Int), .slice HA hn hc]) 101 (0, 0)) :: (b2, .cells (List.toArray [.int .i64 a.kind, .slice Ac nc cc, .slice Af nf cf, .int .i64 a.stop]) 109 (0, 0)) :: L))))) M6 L6 ∧ Bytes M6 HB hb hcb hd6 ∧
                                ((P5 = none ∧ is = false ∧ E5 = []) ∨ (∃ c HA hl hc, P5 = some ⟨c, 0, none⟩ ∧ is = true ∧ Q = some ⟨pr2, 0, none⟩ ∧ Bytes M6 HA hl hc hd6 ∧ Fit x hd6 ∧ E5 = [cL c x HA hl hc p2])) := by
                              rcases hP with ⟨h1, h2, h3⟩ | ⟨c, HA', hl', hc', h1, h2, h3, h4⟩
                              · rw [if_neg h2] at hcs6
                                exact ⟨false, zeroC, none, 0, 0, none, [], hcs6, Row.nil _ _, .inl ⟨h1, rfl, h3⟩⟩
                              · rw [if_pos h2] at hcs6
                                obtain ⟨HA6, hl6, hc6, hh6, hRS6⟩ := hcs6
                                exact ⟨true, (openC S1 (s0 0 8)).1.1, HA6, hl6, hc6, some ⟨pr2, 0, none⟩, (openC S1 (s0 0 8)).1.2, hRS6, hh6, .inr ⟨c, HA', hl', hc', h1, rfl, rfl, h3.mono hM6, fit_open h2, h4⟩⟩
                            obtain ⟨rr6, lv6, E6, A6, l6, c6, hr6, hE6, hln6, hb6, rfl⟩ := hRS
                            refine tl_y rfl (y_move (v := .tuple _) rfl) ?_
                            refine tl_y rfl (y_extract rfl) ?_
                            refine tl_y rfl (y_extract rfl) ?_
                            refine tl_y rfl (y_assign (v := .pointer _) rfl) ?_
                            refine tl_y rfl (y_assign (v := .int _ _) rfl) ?_
                            refine tl_nil (.block_normal (.then_normal (.sub (F' := [(1, _), (2, _), (4, _), (5, _), (7, _), (8, _), (10, _), (11, _), (12, _), (13, _), (14, _), (15, _)]) (.cons rfl (.cons rfl (.cons rfl (.cons rfl (.cons rfl (.cons rfl (.cons rfl (.cons rfl (.cons rfl (.cons rfl (.cons rfl (.cons rfl .nil)))))))))))) (Jj2 _ _ _ _ ?_))))
                            exact ⟨S1, (loadRes S1 (s0 0 8)).1, P5, k6, p2, pr2, is6, (openC S1 (s0 0 8)).2, dL d r5 S1 (sL p2 d (loadRes S1 (s0 0 8)).1 A5 l5 c5 :: (E5 ++ (rsL pr2 q (loadRes S1 (s0 0 8)).1 (atR (loadRes S1 (s0 0 8)).1) (loadRes S1 (s0 0 8)).1.num A6 l6 c6 :: rL q rr6 S1 (E6 ++ (rcL k6 is6 x6 HB6 hb6' hcb6 Q6 :: (b1, .cells (List.toArray [.int .u64 (total.toNat : Int), .int .u64 (batch.toNat : Int), .slice HA hn hc]) 101 (0, 0)) :: L))))), rfl, hM8.trans (hM9.trans (hM5.trans hM6)), hkN, inferInstance, ⟨r5, A5, l5, c5, rr6, lv6, E6, A6, l6, c6, HB6, hb6', hcb6, E5, Q6, x6, hd6, hd5.mono hM6, hb5.mono hM6, hr6, hE6, by omega, hb6, hB6, hPP, rfl⟩, rfl⟩
                        ·
                          refine x_seq (x_region ?_)
                          refine tl_y rfl (y_fieldAddr rfl) ?_
                          refine tl_y rfl (y_load rfl rfl (.own inferInstance inferInstance)) ?_
                          refine tl_y rfl (y_eql rfl rfl) ?_
                          refine tl_nil (.then_normal ?_)
                          refine x_cond rfl (fun hc20 => ?_) (fun hc20 => ?_)
                          ·
                            refine x_seq (x_region ?_)
                            refine tl_y rfl (y_move (v := .pointer _) rfl) ?_
                            refine tl_y rfl (y_fieldAddr rfl) ?_
                            refine tl_y rfl (y_load rfl rfl (.own inferInstance inferInstance)) ?_
                            refine tl_y rfl (y_fieldAddr rfl) ?_
                            refine tl_y rfl (y_loadAgg rfl rfl (.own inferInstance inferInstance)) ?_
                            refine .dropTo (dL d rd S ((b2, .cells (List.toArray [.int .i64 a.kind, .slice Ac nc cc, .slice Af nf cf, .int .i64 a.stop]) 109 (0, 0)) :: rL q rr S (E0 ++ ((b1, .cells (List.toArray [.int .u64 (total.toNat : Int), .int .u64 (batch.toNat : Int), .slice HA hn hc]) 101 (0, 0)) :: L)))) inferInstance ?_
                            refine tl_e rfl (e_call' rfl (Up_spec hdk (by have := hkp.within.2.2; omega) hcs hfs (by omega) a.stop) ?_)
                            rintro _ M8 _ hM8 ⟨r8, hd8, rfl⟩
                            refine tl_nil (.then_normal ?_)
                            refine .sub (F' := [(1, _), (2, _), (4, _), (5, _), (7, _), (8, _), (10, _), (11, _), (12, _), (13, _), (14, _), (15, _), (16, _)]) (.cons rfl (.cons rfl (.cons rfl (.cons rfl (.cons rfl (.cons rfl (.cons rfl (.cons rfl (.cons rfl (.cons rfl (.cons rfl (.cons rfl (.cons rfl .nil))))))))))))) ?_
                            refine x_region ?_
                            refine tl_y rfl (y_move (v := .pointer _) rfl) ?_
                            refine tl_y rfl (y_fieldAddr rfl) ?_
                            refine tl_y rfl (y_load rfl rfl (.own inferInstance inferInstance)) ?_
                            refine tl_y rfl (y_fieldAddr rfl) ?_
                            refine tl_y rfl (y_loadAgg rfl rfl (.own inferInstance inferInstance)) ?_
                            refine tl_e rfl (e_call' rfl (Con.to (rL q rr S (E0 ++ (dL d r8 (upped S a.choices a.fail a.stop) ((b2, .cells (List.toArray [.int .i64 a.kind, .slice Ac nc cc, .slice Af nf cf, .int .i64 a.stop]) 109 (0, 0)) :: (b1, .cells (List.toArray [.int .u64 (total.toNat : Int), .int .u64 (batch.toNat : Int), .slice HA hn hc]) 101 (0, 0)) :: L)))) inferInstance (RUp_spec (hrf.mono hM8) (hcs.mono hM8) (hfs.mono hM8) a.stop)) ?_)
                            intro _ M9 _ hM9 hk9
                            obtain ⟨r9, hr9, rfl, g1, g2, g3⟩ := hk9.out
                            refine .to (dL d r8 (upped S a.choices a.fail a.stop) ((b2, .cells (List.toArray [.int .i64 a.kind, .slice Ac nc cc, .slice Af nf cf, .int .i64 a.stop]) 109 (0, 0)) :: rL q r9 (upped S a.choices a.fail a.stop) (E0 ++ ((b1, .cells (List.toArray [.int .u64 (total.toNat : Int), .int .u64 (batch.toNat : Int), .slice HA hn hc]) 101 (0, 0)) :: L)))) inferInstance ?_
                            refine tl_nil (.then_normal (.sub (F' := [(1, _), (2, _), (4, _), (5, _), (7, _), (8, _), (10, _), (11, _), (12, _), (13, _), (14, _), (15, _), (16, _)]) (.cons rfl (.cons rfl (.cons rfl (.cons rfl (.cons rfl (.cons rfl (.cons rfl (.cons rfl (.cons rfl (.cons rfl (.cons rfl (.cons rfl (.cons rfl .nil))))))))))))) (Jj4 _ _ _ _ ?_)))
                            exact ⟨(upped S a.choices a.fail a.stop), r8, r9, rfl, hM8.trans hM9, hkp.up a.choices a.fail a.stop, hd8.mono hM9, hr9, g1, g2, g3, rfl, rfl⟩
                          ·
                            refine x_skip (.then_normal (.dropTo (dL d rd S ((b2, .cells (List.toArray [.int .i64 a.kind, .slice Ac nc cc, .slice Af nf cf, .int .i64 a.stop]) 109 (0, 0)) :: rL q rr S (E0 ++ ((b1, .cells (List.toArray [.int .u64 (total.toNat : Int), .int .u64 (batch.toNat : Int), .slice HA hn hc]) 101 (0, 0)) :: L)))) inferInstance <| .sub (F' := [(1, _), (2, _), (4, _), (5, _), (7, _), (8, _), (10, _), (11, _), (12, _), (13, _), (14, _), (15, _), (16, _)]) (.cons rfl (.cons rfl (.cons rfl (.cons rfl (.cons rfl (.cons rfl (.cons rfl (.cons rfl (.cons rfl (.cons rfl (.cons rfl (.cons rfl (.cons rfl .nil))))))))))))) (Jj4 _ _ _ _ ?_)))
                            exact ⟨S, rd, rr, rfl, Le.refl _, hkp, hdk, hrf, rfl, rfl, rfl, rfl, rfl⟩
                      ·
                        refine x_skip (.block_normal (.then_normal (.sub (F' := [(1, _), (2, _), (4, _), (5, _), (7, _), (8, _), (10, _), (11, _), (12, _), (13, _), (14, _), (15, _)]) (.cons rfl (.cons rfl (.cons rfl (.cons rfl (.cons rfl (.cons rfl (.cons rfl (.cons rfl (.cons rfl (.cons rfl (.cons rfl (.cons rfl .nil)))))))))))) (Jj2 _ _ _ _ ?_))))
                        exact ⟨S, s, P, kk, p, pr, is, 0, dL d rd S (sL p d s A1 l1 c1 :: (Ec ++ (rsL pr q s (atR s) s.num A2 l2 c2 :: rL q rr S (E0 ++ (rcL kk is x HB hb hcb Q :: (b1, .cells (List.toArray [.int .u64 (total.toNat : Int), .int .u64 (batch.toNat : Int), .slice HA hn hc]) 101 (0, 0)) :: L))))), rfl, Le.refl _, hkp.mono (by omega), inferInstance, ⟨rd, A1, l1, c1, rr, lv, E0, A2, l2, c2, HB, hb, hcb, Ec, Q, x, hd, hdk, hba, hrf, hlE, by omega, hbb, hHB, hcase, rfl⟩, rfl⟩
                    ·
                      refine x_seq (x_region ?_)
                      refine tl_y rfl (y_eql rfl rfl) ?_
                      refine tl_y rfl (y_assign (v := .bool _) rfl) ?_
                      refine tl_nil (.then_normal ?_)
                      refine .sub (F' := [(1, _), (2, _), (4, _), (5, _), (7, _), (8, _), (10, _), (11, _), (12, _), (13, _), (14, _), (15, _), (16, _), (94, _), (146, _)]) (.cons rfl (.cons rfl (.cons rfl (.cons rfl (.cons rfl (.cons rfl (.cons rfl (.cons rfl (.cons rfl (.cons rfl (.cons rfl (.cons rfl (.cons rfl (.cons rfl (.cons rfl .nil))))))))))))))) ?_
                      refine x_cond rfl (fun hc21 => ?_) (fun hc21 => ?_)
                      ·
                        refine x_skip (.then_normal (.sub (F' := [(1, _), (2, _), (4, _), (5, _), (7, _), (8, _), (10, _), (11, _), (12, _), (13, _), (14, _), (15, _), (16, _), (146, _)]) (.cons rfl (.cons rfl (.cons rfl (.cons rfl (.cons rfl (.cons rfl (.cons rfl (.cons rfl (.cons rfl (.cons rfl (.cons rfl (.cons rfl (.cons rfl (.cons rfl .nil)))))))))))))) (Jj3 _ _ _ _ ?_)))
                        exact ⟨_, rfl, rfl, rfl, rfl⟩
                      ·
                        refine x_seq (x_region ?_)
                        refine tl_y rfl (y_eql rfl rfl) ?_
                        refine tl_y rfl (y_assign (v := .bool _) rfl) ?_
                        refine tl_nil (.then_normal ?_)
                        refine x_cond rfl (fun hc22 => ?_) (fun hc22 => ?_)
                        ·
                          refine x_skip (.then_normal (.sub (F' := [(1, _), (2, _), (4, _), (5, _), (7, _), (8, _), (10, _), (11, _), (12, _), (13, _), (14, _), (15, _), (16, _), (146, _)]) (.cons rfl (.cons rfl (.cons rfl (.cons rfl (.cons rfl (.cons rfl (.cons rfl (.cons rfl (.cons rfl (.cons rfl (.cons rfl (.cons rfl (.cons rfl (.cons rfl .nil)))))))))))))) (Jj3 _ _ _ _ ?_)))
                          exact ⟨_, rfl, rfl, rfl, rfl⟩
                        ·
                          refine x_region ?_
                          refine tl_y rfl (y_eql rfl rfl) ?_
                          refine tl_y rfl (y_assign (v := .bool _) rfl) ?_
                          refine tl_nil (.then_normal (.sub (F' := [(1, _), (2, _), (4, _), (5, _), (7, _), (8, _), (10, _), (11, _), (12, _), (13, _), (14, _), (15, _), (16, _), (146, _)]) (.cons rfl (.cons rfl (.cons rfl (.cons rfl (.cons rfl (.cons rfl (.cons rfl (.cons rfl (.cons rfl (.cons rfl (.cons rfl (.cons rfl (.cons rfl (.cons rfl .nil)))))))))))))) (Jj3 _ _ _ _ ?_)))
                          exact ⟨_, rfl, rfl, rfl, rfl⟩
      ·
        refine x_exit (.then_exit (.loop_exit (.block_exit (.then_normal ?_))))
        refine .sub (F' := []) .nil ?_
        refine x_seq (x_region ?_)
        refine tl_y rfl (y_assign rfl) ?_
        refine tl_nil (.then_normal ?_)
        refine x_ret (ret1 rfl rfl hM7 rfl)
    ·
      refine tl_skip rfl ?_
      refine tl_skip rfl ?_
      refine tl_y rfl (y_pickF rfl rfl) ?_
      refine tl_nil (.then_normal ?_)
      refine .sub (F' := [(1, _), (2, _), (4, _), (5, _), (7, _), (8, _), (10, _), (11, _), (12, _), (13, _), (14, _), (15, _), (84, _)]) (.cons rfl (.cons rfl (.cons rfl (.cons rfl (.cons rfl (.cons rfl (.cons rfl (.cons rfl (.cons rfl (.cons rfl (.cons rfl (.cons rfl (.cons rfl .nil))))))))))))) ?_
      refine x_false rfl rfl ?_
      refine x_exit (.then_exit (.loop_exit (.block_exit (.then_normal ?_))))
      refine .sub (F' := []) .nil ?_
      refine x_seq (x_region ?_)
      refine tl_y rfl (y_assign rfl) ?_
      refine tl_nil (.then_normal ?_)
      refine x_ret (ret1 rfl rfl hM7 rfl)
end
end Go.Proofs.YtbgdjdhbejbhkaaDoor
