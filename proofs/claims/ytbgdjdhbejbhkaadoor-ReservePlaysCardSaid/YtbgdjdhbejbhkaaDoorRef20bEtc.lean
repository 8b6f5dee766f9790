/-
Contracts of functions, each proved by a walk through its code.
-/
import Derived.Test.YtbgdjdhbejbhkaaDoorRefUpEtc
import Derived.Test.YtbgdjdhbejbhkaaDoorLaw20Etc
set_option linter.unusedVariables false
set_option linter.unusedSimpArgs false
set_option linter.constructorNameAsVariable false
namespace Go.Proofs.YtbgdjdhbejbhkaaDoor
open Go Go.Eng
/-- Which area the reference says that counts. -/
def atR (s : SS) : Int := if s.num = 0 then -1 else s.at_
theorem readRec_zero {n : Nat} {a : List UInt8} (h : (readRec n a).1 = 0) : readRec n a = (0, []) := by
  unfold readRec at h ⊢
  by_cases h1 : numOf a = 0 ∨ 64 * n - 28 < cntOf a
  · rw [if_pos h1]
  · rw [if_neg h1] at h ⊢
    by_cases h2 : recB n (UInt64.ofNat (numOf a)) (datOf a) = a
    · rw [if_pos h2] at h ⊢
      exfalso
      have h3 := getB_lt (a.take 8)
      have h4 : 256 ^ (a.take 8).length ≤ 256 ^ 8 := Nat.pow_le_pow_right (by omega) (by rw [List.length_take]; omega)
      have h5 : numOf a < 18446744073709551616 := by show getB (a.take 8) < _; omega
      have h6 := congrArg UInt64.toNat (show UInt64.ofNat (numOf a) = 0 from h)
      rw [UInt64.toNat_ofNat', Nat.mod_eq_of_lt (by omega)] at h6
      exact h1 (.inl (by simpa using h6))
    · rw [if_neg h2]
def stR (rr : Nat → UInt64 × List UInt8) : Nat → Int × (UInt64 × List UInt8)
  | 0 => (-1, (0, []))
  | i + 1 => if (stR rr i).2.1.toNat < (rr i).1.toNat then ((i : Int), rr i) else stR rr i
theorem stR_two (s : SS) (one two : List UInt8) (rr : Nat → UInt64 × List UInt8) (h0 : rr 0 = readRec s.n one) (h1 : rr 1 = readRec s.n two) :
    stR rr 2 = (atR (loaded s one two).1, ((loaded s one two).1.num, (loaded s one two).1.b)) := by
  simp only [stR, h0, h1]
  have hz : ∀ u : UInt64, u.toNat = 0 ↔ u = 0 := fun u => by rw [← UInt64.toNat_inj]; rfl
  unfold loaded atR
  by_cases a : (readRec s.n one).1 = 0
  · rw [readRec_zero a]
    by_cases b : (readRec s.n two).1 = 0
    · rw [readRec_zero b]; rfl
    · have : 0 < (readRec s.n two).1.toNat := Nat.pos_of_ne_zero fun e => b ((hz _).1 e)
      simp [this, b]
  · have h : 0 < (readRec s.n one).1.toNat := Nat.pos_of_ne_zero fun e => a ((hz _).1 e)
    have h' : (0 : UInt64).toNat < (readRec s.n one).1.toNat := h
    rw [if_pos h']
    by_cases c : (readRec s.n one).1.toNat < (readRec s.n two).1.toNat
    · have b : ¬ (readRec s.n two).1 = 0 := fun e => by rw [e] at c; exact absurd c (by simp)
      rw [if_pos c, if_pos c]; simp [b]
    · rw [if_neg c, if_neg c]; simp [a]
theorem atR_neg (s : SS) : atR s < 0 ↔ s.num = 0 := by
  unfold atR
  by_cases h : s.num = 0
  · rw [if_pos h]; simp [h]
  · rw [if_neg h]; constructor
    · intro h1; omega
    · exact fun h1 => absurd h1 h
theorem load_code {S : DS} {s : SS} (hd : S.down = false) : (loadRes S s).2 = if (loadRes S s).1.num = 0 then (if isBlank (areaB S s.first s.n) = true ∨ isBlank (areaB S (s.first + s.n) s.n) = true then 11 else 8) else 0 := by
  have hz : ∀ u : UInt64, u.toNat = 0 ↔ u = 0 := fun u => by rw [← UInt64.toNat_inj]; rfl
  rw [loadRes, if_neg (by simp [hd])]
  unfold loaded
  by_cases c : (readRec s.n (areaB S s.first s.n)).1.toNat < (readRec s.n (areaB S (s.first + s.n) s.n)).1.toNat
  · rw [if_pos c, if_neg (fun e => by have : (readRec s.n (areaB S (s.first + s.n) s.n)).1.toNat = 0 := (hz _).2 e; omega)]
  · rw [if_neg c]
    by_cases a : (readRec s.n (areaB S s.first s.n)).1 = 0
    · rw [if_pos a, if_neg (by rw [a]; decide)]
    · rw [if_neg a, if_pos (Nat.pos_of_ne_zero fun e => a ((hz _).1 e))]
theorem told_zero {S : DS} {s : SS} (h : (loadRes S s).2 = 0) : loadTold S s = ((loadRes S s).1.b, (loadRes S s).1.num) := by rw [loadTold, if_pos h]
theorem told_bad {S : DS} {s : SS} (h : (loadRes S s).2 ≠ 0) : loadTold S s = ([], 0) := by rw [loadTold, if_neg h]
def emR (bl : Nat → Bool) : Nat → Bool
  | 0 => false
  | i + 1 => emR bl i || bl i
theorem blank_iff {n : Nat} {a : List UInt8} (h : a.length = n) : isBlank a = decide (a = List.replicate n 0) := by
  rw [Bool.eq_iff_iff, decide_eq_true_eq, isBlank, List.all_eq_true, List.eq_replicate_iff]
  simp [h]
abbrev rsC (q : Nat) (s : SS) (a : Int) (num : UInt64) (A : Option Addr) (l c : Nat) : List Value := [.pointer (some ⟨q, 0, none⟩), .int .i64 (s.first : Int), .int .i64 (s.n : Int), .int .i64 a, .int .u64 (num.toNat : Int), .slice A l c]
abbrev rsL (p q : Nat) (s : SS) (a : Int) (num : UInt64) (A : Option Addr) (l c : Nat) : Nat × Obj := (p, .cells (List.toArray (rsC q s a num A l c)) 77 (0, 0))
section
variable {G : World} {M : Mem} {L R : Own} {p q : Nat} {S : DS} {s : SS} {rr : RRep} {A0 : Option Addr} {l0 c0 : Nat}
theorem RNew20_spec (first n : Nat) :
    Con Tryd.prog 35 #[.pointer (some ⟨q, 0, none⟩), .int .i64 (first : Int), .int .i64 (n : Int)] G M L (fun v M' L' => M = M' ∧ ∃ p, v = .pointer (some ⟨p, 0, none⟩) ∧ L' = rsL p q (s0 first n) (-1) 0 none 0 0 :: L) noPanic := by
  refine enter (args := [_, _, _]) (fn := Tryd.f35) ⟨Tryd.func35, rfl, by kernel_rfl, by kernel_rfl⟩ 12 rfl ?_
  refine x_seq (x_region ?_)
  refine tl_y rfl (y_assign rfl) ?_
  refine tl_nil (.then_normal ?_)
  refine x_seq (x_region ?_)
  refine tl_y rfl (y_move (v := .pointer _) rfl) ?_
  refine tl_y rfl (y_move (v := .int _ _) rfl) ?_
  refine tl_y rfl (y_move (v := .int _ _) rfl) ?_
  refine tl_y rfl (y_build rfl) ?_
  refine tl_e rfl (e_box rfl (fun b1 => ?_))
  refine tl_y rfl (y_assign (v := .pointer _) rfl) ?_
  refine tl_nil (.then_normal ?_)
  refine .sub (F' := [(6, _)]) (.cons rfl .nil) ?_
  refine x_ret (ret1 rfl rfl (Le.refl _) ⟨rfl, _, rfl, rfl⟩)
theorem RLoad_spec (h : IsRef M rr S) (ok : OkS S s) (hb : Bytes M A0 l0 c0 s.b) :
    Con Tryd.prog 38 #[.pointer (some ⟨p, 0, none⟩)] G M (rsL p q s (atR s) s.num A0 l0 c0 :: rL q rr S R)
      (fun v M' L' => ∃ A l c B m d, v = .tuple #[.slice B m d, .int .u64 ((loadTold S s).2.toNat : Int), .int .i64 (loadRes S s).2] ∧ Bytes M' B m d (loadTold S s).1 ∧ Bytes M' A l c (loadRes S s).1.b ∧ L' = rsL p q (loadRes S s).1 (atR (loadRes S s).1) (loadRes S s).1.num A l c :: rL q rr S R) noPanic := by
  have hn := ok.n
  have hin := ok.in_
  have hsz := h.sz
  have hsl := h.sl
  have hpl := h.pl
  refine enter (args := [_]) (fn := Tryd.f38) ⟨Tryd.func38, rfl, by kernel_rfl, by kernel_rfl⟩ 135 rfl ?_
  refine x_seq (x_region ?_)
  refine tl_y rfl (y_assign rfl) ?_
  refine tl_y rfl (y_assign rfl) ?_
  refine tl_y rfl (y_assign rfl) ?_
  refine tl_nil (.then_normal ?_)
  refine x_seq (x_region ?_)
  refine tl_e rfl (e_alloc (fun b1 => ?_))
  refine tl_nil (.then_normal ?_)
  refine x_seq (x_seq (x_region ?_))
  refine tl_y rfl (y_assign rfl) ?_
  refine tl_nil (.then_normal ?_)
  refine x_block ?_
  refine x_loop (I := fun m' F D M1 L1 => ∃ (i : Nat) (base : List Value), m' = 2 - i ∧ i ≤ 2 ∧ base.length = 2 ∧ (0 < i → S.down = false) ∧ (∀ j, i ≤ j → j < 2 → base[j]? = some (.slice none 0 0)) ∧ (∀ j, j < i → ∃ A c, base[j]? = some (.slice A (64 * s.n) c) ∧ Bytes M1 A (64 * s.n) c (areaB S (s.first + j * s.n) s.n)) ∧ Le M M1 ∧ D = [] ∧ L1 = (b1, .cells base.toArray 96 (0, 0)) :: rsL p q s (atR s) s.num A0 l0 c0 :: rL q rr S R ∧ F = [(0, .pointer (some ⟨p, 0, none⟩)), (2, .slice none 0 0), (3, .int .u64 0), (4, .int .i64 0), (5, .pointer (some ⟨b1, 0, none⟩)), (6, .int .i64 i)]) (2) (F0 := [(0, _), (2, _), (3, _), (4, _), (5, _), (6, _)]) ?_ (.cons rfl (.cons rfl (.cons rfl (.cons rfl (.cons rfl (.cons rfl .nil)))))) ?_  -- slots [0, 2, 3, 4, 5, 6], written [2, 3, 4, 6]
  · exact ⟨0, [.slice none 0 0, .slice none 0 0], rfl, by omega, rfl, (fun h => by omega), (fun j _ hj => by rcases (by omega : j = 0 ∨ j = 1) with rfl | rfl <;> rfl), (fun j hj => by omega), Le.refl _, rfl, rfl, rfl⟩
  rintro m _ _ M1 L1 ⟨i, base, rfl, hi, hbl, hdn, hfr, hdo, hM1, rfl, rfl, rfl⟩
  refine x_seq (x_seq (x_region ?_))
  refine tl_y rfl (y_move (v := .int _ _) rfl) ?_
  refine tl_y rfl (y_lss rfl rfl) ?_
  refine tl_nil (.then_normal ?_)
  refine x_cond rfl (fun hc1 => ?_) (fun hc1 => ?_)
  ·
    have hi2 : i < 2 := by omega
    have hmul : (i : Int) * (s.n : Int) = ((i * s.n : Nat) : Int) := by simp
    have hq := Nat.mul_le_mul_right s.n (show i ≤ 1 by omega)
    have hset0 : base.set i (.slice none 0 0) = base := by
      have := hfr i (Nat.le_refl _) hi2
      apply List.ext_getElem?
      intro j
      rw [List.getElem?_set]
      by_cases e : i = j
      · subst e; rw [if_pos rfl, if_pos (by omega), this]
      · rw [if_neg e]
    refine x_skip (.then_normal ?_)
    refine x_seq ?_
    refine x_block ?_
    refine x_seq (x_region ?_)
    refine tl_y rfl (y_assign rfl) ?_
    refine tl_nil (.then_normal ?_)
    refine x_block ?_
    refine x_loop (I := fun m' F D M2 L2 => ∃ (k : Nat) (A1 : Option Addr) (c1 : Nat) (E1 : Own), m' = s.n - k ∧ k ≤ s.n ∧ (0 < k → S.down = false) ∧ OwnRow 5 1 A1 (64 * k) c1 ((areaB S (s.first + i * s.n) k).map bv) E1 ∧ Le M1 M2 ∧ D = [] ∧ L2 = (b1, .cells (base.set i (.slice A1 (64 * k) c1)).toArray 96 (0, 0)) :: (E1 ++ (rsL p q s (atR s) s.num A0 l0 c0 :: rL q rr S R)) ∧ F = [(0, .pointer (some ⟨p, 0, none⟩)), (2, .slice none 0 0), (3, .int .u64 0), (4, .int .i64 0), (5, .pointer (some ⟨b1, 0, none⟩)), (6, .int .i64 i), (7, .int .i64 k)]) (s.n) (F0 := [(0, _), (2, _), (3, _), (4, _), (5, _), (6, _), (7, _)]) ?_ (.cons rfl (.cons rfl (.cons rfl (.cons rfl (.cons rfl (.cons rfl (.cons rfl .nil))))))) ?_  -- slots [0, 2, 3, 4, 5, 6, 7], written [2, 3, 4, 7]
    · exact ⟨0, none, 0, [], rfl, by omega, (fun h => by omega), .nil, Le.refl _, rfl, by rw [Nat.mul_zero, hset0]; rfl, rfl⟩
    rintro m _ _ M2 L2 ⟨k, A1, c1, E1, rfl, hk, hdn2, hE1, hM2, rfl, rfl, rfl⟩
    refine x_seq (x_seq (x_region ?_))
    refine tl_y rfl (y_move (v := .int _ _) rfl) ?_
    refine tl_y rfl (y_move (v := .pointer _) rfl) ?_
    refine tl_y rfl (y_nilCheck rfl) ?_
    refine tl_y rfl (y_fieldAddr rfl) ?_
    refine tl_y rfl (y_load rfl rfl (.own inferInstance inferInstance)) ?_
    refine tl_y rfl (y_lss rfl rfl) ?_
    refine tl_nil (.then_normal ?_)
    refine .sub (F' := [(0, _), (2, _), (3, _), (4, _), (5, _), (6, _), (7, _), (23, _)]) (.cons rfl (.cons rfl (.cons rfl (.cons rfl (.cons rfl (.cons rfl (.cons rfl (.cons rfl .nil)))))))) ?_
    refine x_cond rfl (fun hc2 => ?_) (fun hc2 => ?_)
    ·
      refine x_skip (.then_normal ?_)
      refine x_seq ?_
      refine x_block ?_
      refine x_seq ?_
      refine x_draw 23 hmix rfl ?_
      refine to_p 0 rfl (by kernel_rfl) rfl (y_move (v := .pointer _) rfl) ?_
      refine to_p 1 rfl (by kernel_rfl) rfl (y_nilCheck rfl) ?_
      refine to_p 2 rfl (by kernel_rfl) rfl (y_fieldAddr rfl) ?_
      refine to_y 3 rfl (by kernel_rfl) rfl (y_load rfl rfl (.own inferInstance inferInstance)) ?_
      refine to_p 4 rfl (by kernel_rfl) rfl (y_move (v := .pointer _) rfl) ?_
      refine to_p 5 rfl (by kernel_rfl) rfl (y_nilCheck rfl) ?_
      refine to_p 6 rfl (by kernel_rfl) rfl (y_fieldAddr rfl) ?_
      refine to_y 7 rfl (by kernel_rfl) rfl (y_load rfl rfl (.own inferInstance inferInstance)) ?_
      refine to_p 8 rfl (by kernel_rfl) rfl (y_move (v := .int _ _) rfl) ?_
      refine to_p 9 rfl (by kernel_rfl) rfl (y_move (v := .pointer _) rfl) ?_
      refine to_p 10 rfl (by kernel_rfl) rfl (y_nilCheck rfl) ?_
      refine to_p 11 rfl (by kernel_rfl) rfl (y_fieldAddr rfl) ?_
      refine to_y 12 rfl (by kernel_rfl) rfl (y_load rfl rfl (.own inferInstance inferInstance)) ?_
      refine to_p 13 rfl (by kernel_rfl) rfl (y_mulI rfl rfl (by rw [hmul]; omega)) ?_
      rw [hmul]
      refine to_p 14 rfl (by kernel_rfl) rfl (y_addI rfl rfl (by omega)) ?_
      refine to_p 15 rfl (by kernel_rfl) rfl (y_move (v := .int _ _) rfl) ?_
      refine to_p 16 rfl (by kernel_rfl) rfl (y_addI rfl rfl (by omega)) ?_
      rw [show ((s.first : Int) + ((i * s.n : Nat) : Int)) + (k : Int) = ((s.first + i * s.n + k : Nat) : Int) by omega]
      refine to_e 17 rfl (by kernel_rfl) rfl (e_call' rfl (Con.to (rL q rr S ((b1, .cells (base.set i (.slice A1 (64 * k) c1)).toArray 96 (0, 0)) :: (E1 ++ (rsL p q s (atR s) s.num A0 l0 c0 :: R)))) inferInstance (RRead_spec (h.mono (hM1.trans hM2)) _)) ?_)
      rintro _ M3 _ hM3 ⟨rfl, A2, n2, c2, rfl, hA2⟩
      refine ⟨⟨hM3, Keeps.mem⟩, ?_⟩
      refine to_p 18 rfl (by kernel_rfl) rfl (y_move (v := .tuple _) rfl) ?_
      refine to_p 19 rfl (by kernel_rfl) rfl (y_extract rfl) ?_
      refine to_p 20 rfl (by kernel_rfl) rfl (y_extract rfl) ?_
      refine to_p 21 rfl (by kernel_rfl) rfl (y_assign (v := .slice _ _ _) rfl) ?_
      refine to_p 22 rfl (by kernel_rfl) rfl (y_assign (v := .int _ _) rfl) ?_
      refine to_nil (by kernel_rfl) (.then_normal ?_)
      refine .sub (F' := [(0, _), (2, _), (3, _), (4, _), (5, _), (6, _), (7, _), (8, _), (9, _)]) (.cons rfl (.cons rfl (.cons rfl (.cons rfl (.cons rfl (.cons rfl (.cons rfl (.cons rfl (.cons rfl .nil))))))))) ?_
      refine x_seq (x_seq (x_region ?_))
      refine tl_y rfl (y_move (v := .int _ _) rfl) ?_
      refine tl_y rfl (y_neq rfl rfl) ?_
      refine tl_nil (.then_normal ?_)
      refine x_cond rfl (fun hc3 => ?_) (fun hc3 => ?_)
      ·
        refine x_seq (x_region ?_)
        refine tl_y rfl (y_move (v := .int _ _) rfl) ?_
        refine tl_y rfl (y_assign rfl) ?_
        refine tl_y rfl (y_assign rfl) ?_
        refine tl_y rfl (y_assign (v := .int _ _) rfl) ?_
        refine tl_nil (.then_normal ?_)
        refine .sub (F' := [(0, _), (2, _), (3, _), (4, _), (5, _), (6, _), (7, _)]) (.cons rfl (.cons rfl (.cons rfl (.cons rfl (.cons rfl (.cons rfl (.cons rfl .nil))))))) ?_
        refine x_ret (.then_ret (.block_ret (.then_ret (.loop_ret (.block_ret (.block_ret (.then_ret (.loop_ret (.block_ret (.then_ret (.dropTo (rsL p q s (atR s) s.num A0 l0 c0 :: rL q rr S R) inferInstance (ret3 rfl rfl rfl rfl (hM1.trans (hM2.trans hM3)) (by
  have hd : S.down = true := by
    cases hd : S.down with
    | true => rfl
    | false => exact absurd (readRes_len hd hsl hpl (i := s.first + i * s.n + k) (by omega)).1 hc3
  have hl : loadRes S s = (s, 6) := by rw [loadRes, if_pos hd]
  have hr : readRes S ((s.first + i * s.n + k : Nat) : Int) = ([], 6) := by simp [readRes, hd]
  refine ⟨A0, l0, c0, none, 0, 0, ?_, ?_, ?_, ?_⟩
  · rw [loadTold, hl, hr]; rfl
  · rw [loadTold, hl]; exact Row.nil _ _
  · rw [hl]; exact hb.mono (hM1.trans (hM2.trans hM3))
  · rw [hl])))))))))))))
      ·
        have hd : S.down = false := by
          cases hd : S.down with
          | false => rfl
          | true => rw [show readRes S ((s.first + i * s.n + k : Nat) : Int) = ([], 6) by simp [readRes, hd]] at hc3; simp at hc3
        have hrl := readRes_len hd hsl hpl (i := s.first + i * s.n + k) (by omega)
        obtain rfl : n2 = 64 := by have := hA2.size; omega
        have hE1n := hE1.len
        refine x_skip (.then_normal ?_)
        refine x_region ?_
        refine tl_y rfl (y_move (v := .int _ _) rfl) ?_
        refine tl_y rfl (y_move (v := .int _ _) rfl) ?_
        refine tl_y rfl (y_indexArr rfl rfl (by omega)) ?_
        refine tl_y rfl (y_load rfl rfl (.at_ (.ownAt (i := i) (c := base.set i (.slice A1 (64 * k) c1)) (v := .slice A1 (64 * k) c1) inferInstance (by rw [List.getElem?_set, if_pos rfl, if_pos (by omega)])) (by omega))) ?_
        refine tl_y rfl (y_move (v := .slice _ _ _) rfl) ?_
        refine .bringE E1 inferInstance ?_
        refine tl_e rfl (e_append (E := E1) (by decide) rfl rfl hE1 (.row hA2) (all_one_bv _) (by omega) (by omega) (fun A3 c3 E3 hE3 => ?_))
        rw [← List.map_append] at hE3
        refine tl_y rfl (y_indexArr rfl rfl (by omega)) ?_
        refine tl_e rfl (e_storeAt (c := base.set i (.slice A1 (64 * k) c1)) rfl rfl rfl inferInstance (by simp; omega) inferInstance ?_)
        rw [show 0 + ((i : Int)).toNat * 1 = i by omega, List.set_set]
        refine .dropTo ((b1, .cells (base.set i (.slice A3 (64 * k + 64) c3)).toArray 96 (0, 0)) :: (E3 ++ (rsL p q s (atR s) s.num A0 l0 c0 :: rL q rr S R))) inferInstance ?_
        refine tl_nil (.block_normal (.then_normal ?_))
        refine .sub (F' := [(0, _), (2, _), (3, _), (4, _), (5, _), (6, _), (7, _)]) (.cons rfl (.cons rfl (.cons rfl (.cons rfl (.cons rfl (.cons rfl (.cons rfl .nil))))))) ?_
        refine x_region ?_
        refine tl_y rfl (y_move (v := .int _ _) rfl) ?_
        refine tl_y rfl (y_addI rfl rfl (by omega)) ?_
        refine tl_y rfl (y_assign (v := .int _ _) rfl) ?_
        refine tl_nil (.loop_next (m' := s.n - (k + 1)) (by omega) (F' := [(0, _), (2, _), (3, _), (4, _), (5, _), (6, _), (7, _)]) (.cons rfl (.cons rfl (.cons rfl (.cons rfl (.cons rfl (.cons rfl (.cons rfl .nil))))))) ?_)
        exact ⟨k + 1, A3, c3, E3, rfl, by omega, (fun _ => hd), hE3, hM2.trans hM3, rfl, rfl, rfl⟩
    ·
      obtain rfl : k = s.n := by omega
      refine .to (E1 ++ ((b1, .cells (base.set i (.slice A1 (64 * s.n) c1)).toArray 96 (0, 0)) :: rsL p q s (atR s) s.num A0 l0 c0 :: rL q rr S R)) inferInstance ?_
      refine .pubRow hE1 (fun M4 hM4 hT => ?_)
      have hT' : Bytes M4 A1 (64 * s.n) c1 (areaB S (s.first + i * s.n) s.n) := hT
      refine x_exit (.then_exit (.loop_exit (.block_exit (.block_normal (.then_normal ?_)))))
      refine x_region ?_
      refine tl_y rfl (y_move (v := .int _ _) rfl) ?_
      refine tl_y rfl (y_addI rfl rfl (by omega)) ?_
      refine tl_y rfl (y_assign (v := .int _ _) rfl) ?_
      refine tl_nil (.loop_next (m' := 2 - (i + 1)) (by omega) (F' := [(0, _), (2, _), (3, _), (4, _), (5, _), (6, _)]) (.cons rfl (.cons rfl (.cons rfl (.cons rfl (.cons rfl (.cons rfl .nil)))))) ?_)
      exact ⟨i + 1, base.set i (.slice A1 (64 * s.n) c1), rfl, by omega, by rw [List.length_set]; exact hbl, (fun _ => hdn2 (by omega)), (fun j h1 h2 => by rw [List.getElem?_set, if_neg (by omega)]; exact hfr j (by omega) h2), (fun j hj => by
  by_cases e : i = j
  · subst e
    exact ⟨A1, c1, by rw [List.getElem?_set, if_pos rfl, if_pos (by omega)], hT'⟩
  · obtain ⟨A, c, h1, h2⟩ := hdo j (by omega)
    exact ⟨A, c, by rw [List.getElem?_set, if_neg e]; exact h1, h2.mono (hM2.trans hM4)⟩), hM1.trans (hM2.trans hM4), rfl, rfl, rfl⟩
  ·
    obtain rfl : i = 2 := by omega
    have hd := hdn (by omega)
    generalize hrr : (fun i => readRec s.n (areaB S (s.first + i * s.n) s.n)) = rf
    generalize hbb : (fun i => isBlank (areaB S (s.first + i * s.n) s.n)) = bl
    have hrr' : ∀ i, readRec s.n (areaB S (s.first + i * s.n) s.n) = rf i := fun i => by rw [← hrr]
    have hbb' : ∀ i, isBlank (areaB S (s.first + i * s.n) s.n) = bl i := fun i => by rw [← hbb]
    refine x_exit (.then_exit (.loop_exit (.block_exit (.then_normal ?_))))
    refine .sub (F' := [(0, _), (5, _)]) (.cons rfl (.cons rfl .nil)) ?_
    refine x_seq (x_region ?_)
    refine tl_y rfl (y_move (v := .pointer _) rfl) ?_
    refine tl_y rfl (y_nilCheck rfl) ?_
    refine tl_y rfl (y_fieldAddr rfl) ?_
    refine tl_e rfl (e_store rfl rfl (by rfl) (by rfl) inferInstance inferInstance inferInstance ?_)
    refine tl_nil (.then_normal ?_)
    refine x_seq (x_region ?_)
    refine tl_y rfl (y_move (v := .pointer _) rfl) ?_
    refine tl_y rfl (y_nilCheck rfl) ?_
    refine tl_y rfl (y_fieldAddr rfl) ?_
    refine tl_e rfl (e_store rfl rfl (by rfl) (by rfl) inferInstance inferInstance inferInstance ?_)
    refine tl_nil (.then_normal ?_)
    refine .sub (F' := [(0, _), (5, _)]) (.cons rfl (.cons rfl .nil)) ?_
    refine x_seq (x_region ?_)
    refine tl_y rfl (y_move (v := .pointer _) rfl) ?_
    refine tl_y rfl (y_nilCheck rfl) ?_
    refine tl_y rfl (y_fieldAddr rfl) ?_
    refine tl_e rfl (e_store rfl rfl (by rfl) (by rfl) inferInstance inferInstance inferInstance ?_)
    refine tl_nil (.then_normal ?_)
    refine x_seq (x_region ?_)
    refine tl_y rfl (y_assign rfl) ?_
    refine tl_nil (.then_normal ?_)
    refine x_seq (x_seq (x_region ?_))
    refine tl_y rfl (y_assign rfl) ?_
    refine tl_nil (.then_normal ?_)
    refine x_block ?_
    refine x_loop (I := fun m' F D M2 L2 => ∃ (i : Nat) (A : Option Addr) (l c : Nat), m' = 2 - i ∧ i ≤ 2 ∧ Le M1 M2 ∧ Bytes M2 A l c (stR rf i).2.2 ∧ D = [] ∧ L2 = (b1, .cells base.toArray 96 (0, 0)) :: rsL p q s (stR rf i).1 (stR rf i).2.1 A l c :: rL q rr S R ∧ F = [(0, .pointer (some ⟨p, 0, none⟩)), (5, .pointer (some ⟨b1, 0, none⟩)), (10, .bool (decide (emR bl i = true))), (11, .int .i64 i)]) (2) (F0 := [(0, _), (5, _), (10, _), (11, _)]) ?_ (.cons rfl (.cons rfl (.cons rfl (.cons rfl .nil)))) ?_  -- slots [0, 5, 10, 11], written [10, 11]
    · exact ⟨0, none, 0, 0, rfl, by omega, Le.refl _, Row.nil _ _, rfl, rfl, rfl⟩
    rintro m _ _ M2 L2 ⟨i, A, l, c, rfl, hi, hM2, hA, rfl, rfl, rfl⟩
    refine x_seq (x_seq (x_region ?_))
    refine tl_y rfl (y_move (v := .int _ _) rfl) ?_
    refine tl_y rfl (y_lss rfl rfl) ?_
    refine tl_nil (.then_normal ?_)
    refine x_cond rfl (fun hc4 => ?_) (fun hc4 => ?_)
    ·
      have hi2 : i < 2 := by omega
      obtain ⟨Ai, ci, hgi, hAi⟩ := hdo i hi2
      have hAi2 := hAi.mono hM2
      refine x_skip (.then_normal ?_)
      refine x_seq ?_
      refine x_block ?_
      refine x_seq ?_
      refine x_draw 13 hmix rfl ?_
      refine to_p 0 rfl (by kernel_rfl) rfl (y_move (v := .int _ _) rfl) ?_
      refine to_p 1 rfl (by kernel_rfl) rfl (y_indexArr rfl rfl (by omega)) ?_
      refine to_y 2 rfl (by kernel_rfl) rfl (y_load rfl rfl (.at_ (.ownAt (i := i) (c := base) inferInstance hgi) (by omega))) ?_
      refine to_p 3 rfl (by kernel_rfl) rfl (y_move (v := .pointer _) rfl) ?_
      refine to_p 4 rfl (by kernel_rfl) rfl (y_nilCheck rfl) ?_
      refine to_p 5 rfl (by kernel_rfl) rfl (y_fieldAddr rfl) ?_
      refine to_y 6 rfl (by kernel_rfl) rfl (y_load rfl rfl (.own inferInstance inferInstance)) ?_
      refine to_e 7 rfl (by kernel_rfl) rfl (e_call' rfl (RWhole_spec hAi2 s.n hn rfl) ?_)
      rintro _ M3 _ hM3 ⟨rfl, B, m, d, rfl, hB⟩
      have hm := readRec_len s.n hn.1 (areaB S (s.first + i * s.n) s.n)
      have hBl := hB.size
      rw [hrr'] at hB hm hBl ⊢
      refine ⟨⟨hM3, Keeps.mem⟩, ?_⟩
      refine to_p 8 rfl (by kernel_rfl) rfl (y_move (v := .tuple _) rfl) ?_
      refine to_p 9 rfl (by kernel_rfl) rfl (y_extract rfl) ?_
      refine to_p 10 rfl (by kernel_rfl) rfl (y_extract rfl) ?_
      refine to_p 11 rfl (by kernel_rfl) rfl (y_assign (v := .int _ _) rfl) ?_
      refine to_p 12 rfl (by kernel_rfl) rfl (y_assign (v := .slice _ _ _) rfl) ?_
      refine to_nil (by kernel_rfl) (.then_normal ?_)
      refine .sub (F' := [(0, _), (5, _), (10, _), (11, _), (12, _), (13, _)]) (.cons rfl (.cons rfl (.cons rfl (.cons rfl (.cons rfl (.cons rfl .nil)))))) ?_
      refine x_join (I := fun F D M4 L4 => D = [] ∧ Le M3 M4 ∧ ∃ A l c, Bytes M4 A l c (stR rf (i + 1)).2.2 ∧ L4 = (b1, .cells base.toArray 96 (0, 0)) :: rsL p q s (stR rf (i + 1)).1 (stR rf (i + 1)).2.1 A l c :: rL q rr S R ∧ F = [(0, .pointer (some ⟨p, 0, none⟩)), (5, .pointer (some ⟨b1, 0, none⟩)), (10, .bool (decide (emR bl i = true))), (11, .int .i64 i)]) ?_ (fun Jj2 => ?_)
      ·
        rintro _ _ M4 L4 ⟨rfl, hM4, A', l', c', hA', rfl, rfl⟩  -- slots [0, 5, 10, 11]
        refine x_draw 14 hmix rfl ?_
        refine to_p 0 rfl (by kernel_rfl) rfl (y_move (v := .bool _) rfl) ?_
        refine to_p 1 rfl (by kernel_rfl) rfl (y_move (v := .bool _) rfl) ?_
        refine to_cases (s := 102) rfl (fun hk1 => ?_) (fun hk1 => ?_)
        ·
          refine to_skip 2 rfl (by kernel_rfl) rfl ?_
          refine to_skip 3 rfl (by kernel_rfl) rfl ?_
          refine to_skip 4 rfl (by kernel_rfl) rfl ?_
          refine to_skip 5 rfl (by kernel_rfl) rfl ?_
          refine to_skip 6 rfl (by kernel_rfl) rfl ?_
          refine to_skip 7 rfl (by kernel_rfl) rfl ?_
          refine to_skip 8 rfl (by kernel_rfl) rfl ?_
          refine to_skip 9 rfl (by kernel_rfl) rfl ?_
          refine to_skip 10 rfl (by kernel_rfl) rfl ?_
          refine to_skip 11 rfl (by kernel_rfl) rfl ?_
          refine to_p 12 rfl (by kernel_rfl) rfl (y_pickT rfl rfl) ?_
          refine to_p 13 rfl (by kernel_rfl) rfl (y_assign (v := .bool _) rfl) ?_
          refine to_nil (by kernel_rfl) (.block_normal (.then_normal ?_))
          refine .sub (F' := [(0, _), (5, _), (10, _), (11, _)]) (.cons rfl (.cons rfl (.cons rfl (.cons rfl .nil)))) ?_
          refine x_region ?_
          refine tl_y rfl (y_move (v := .int _ _) rfl) ?_
          refine tl_y rfl (y_addI rfl rfl (by omega)) ?_
          refine tl_y rfl (y_assign (v := .int _ _) rfl) ?_
          refine tl_nil (.loop_next (m' := 2 - (i + 1)) (by omega) (F' := [(0, _), (5, _), (10, _), (11, _)]) (.cons rfl (.cons rfl (.cons rfl (.cons rfl .nil)))) ?_)
          exact ⟨i + 1, A', l', c', rfl, by omega, hM2.trans (hM3.trans hM4), hA', rfl, rfl, by rw [decide_eq_true (show emR bl (i + 1) = true by rw [emR, hk1]; rfl)]; rfl⟩
        ·
          refine to_p 2 rfl (by kernel_rfl) rfl (y_move (v := .int _ _) rfl) ?_
          refine to_p 3 rfl (by kernel_rfl) rfl (y_indexArr rfl rfl (by omega)) ?_
          refine to_y 4 rfl (by kernel_rfl) rfl (y_load rfl rfl (.at_ (.ownAt (i := i) (c := base) inferInstance hgi) (by omega))) ?_
          refine to_p 5 rfl (by kernel_rfl) rfl (y_move (v := .pointer _) rfl) ?_
          refine to_p 6 rfl (by kernel_rfl) rfl (y_nilCheck rfl) ?_
          refine to_p 7 rfl (by kernel_rfl) rfl (y_fieldAddr rfl) ?_
          refine to_y 8 rfl (by kernel_rfl) rfl (y_load rfl rfl (.own inferInstance inferInstance)) ?_
          refine to_p 9 rfl (by kernel_rfl) rfl (y_mulI rfl rfl (by omega)) ?_
          refine to_e 10 rfl (by kernel_rfl) rfl (e_make1 rfl rfl (by omega) (by omega) (by omega) (by omega) (fun bZ => ?_))
          refine ⟨⟨(by first | exact Le.refl _ | assumption), Keeps.mem⟩, ?_⟩
          refine .pub bZ inferInstance (fun M5 hM5 hb5 => ?_)
          have hz5 : Bytes M5 (some ⟨bZ, 0, none⟩) (64 * s.n) (64 * s.n) (List.replicate (64 * s.n) 0) := Row.whole (by rw [List.map_replicate]; exact hb5) (by simp) (by omega)
          refine to_e 11 rfl (by kernel_rfl) rfl (e_call' rfl (same_spec (hAi2.mono (hM3.trans (hM4.trans hM5))) hz5) ?_)
          rintro _ _ _ _ ⟨rfl, rfl, rfl⟩
          refine ⟨⟨hM5, Keeps.mem⟩, ?_⟩
          refine to_p 12 rfl (by kernel_rfl) rfl (y_pickF rfl rfl) ?_
          refine to_p 13 rfl (by kernel_rfl) rfl (y_assign (v := .bool _) rfl) ?_
          refine to_nil (by kernel_rfl) (.block_normal (.then_normal ?_))
          refine .sub (F' := [(0, _), (5, _), (10, _), (11, _)]) (.cons rfl (.cons rfl (.cons rfl (.cons rfl .nil)))) ?_
          refine x_region ?_
          refine tl_y rfl (y_move (v := .int _ _) rfl) ?_
          refine tl_y rfl (y_addI rfl rfl (by omega)) ?_
          refine tl_y rfl (y_assign (v := .int _ _) rfl) ?_
          refine tl_nil (.loop_next (m' := 2 - (i + 1)) (by omega) (F' := [(0, _), (5, _), (10, _), (11, _)]) (.cons rfl (.cons rfl (.cons rfl (.cons rfl .nil)))) ?_)
          exact ⟨i + 1, A', l', c', rfl, by omega, hM2.trans (hM3.trans (hM4.trans hM5)), hA'.mono hM5, rfl, rfl, by
  have hal : (areaB S (s.first + i * s.n) s.n).length = 64 * s.n := hAi.size
  have he : decide (areaB S (s.first + i * s.n) s.n = List.replicate (64 * s.n) 0) = decide (emR bl (i + 1) = true) := by
    rw [← blank_iff hal, hbb', emR, show emR bl i = false by simpa using hk1]; simp
  rw [he]; rfl⟩
      ·
        refine x_seq (x_region ?_)
        refine tl_y rfl (y_move (v := .int _ _) rfl) ?_
        refine tl_y rfl (y_move (v := .pointer _) rfl) ?_
        refine tl_y rfl (y_nilCheck rfl) ?_
        refine tl_y rfl (y_fieldAddr rfl) ?_
        refine tl_y rfl (y_load rfl rfl (.own inferInstance inferInstance)) ?_
        refine tl_y rfl (y_gtr rfl rfl) ?_
        refine tl_nil (.then_normal ?_)
        refine .sub (F' := [(0, _), (5, _), (10, _), (11, _), (12, _), (13, _), (86, _)]) (.cons rfl (.cons rfl (.cons rfl (.cons rfl (.cons rfl (.cons rfl (.cons rfl .nil))))))) ?_
        refine x_cond rfl (fun hc5 => ?_) (fun hc5 => ?_)
        ·
          refine x_seq (x_region ?_)
          refine tl_y rfl (y_move (v := .pointer _) rfl) ?_
          refine tl_y rfl (y_move (v := .int _ _) rfl) ?_
          refine tl_y rfl (y_nilCheck rfl) ?_
          refine tl_y rfl (y_fieldAddr rfl) ?_
          refine tl_e rfl (e_store rfl rfl (by rfl) (by rfl) inferInstance inferInstance inferInstance ?_)
          refine tl_nil (.then_normal ?_)
          refine .sub (F' := [(0, _), (5, _), (10, _), (11, _), (12, _), (13, _)]) (.cons rfl (.cons rfl (.cons rfl (.cons rfl (.cons rfl (.cons rfl .nil)))))) ?_
          refine x_seq (x_region ?_)
          refine tl_y rfl (y_move (v := .pointer _) rfl) ?_
          refine tl_y rfl (y_move (v := .int _ _) rfl) ?_
          refine tl_y rfl (y_nilCheck rfl) ?_
          refine tl_y rfl (y_fieldAddr rfl) ?_
          refine tl_e rfl (e_store rfl rfl (by rfl) (by rfl) inferInstance inferInstance inferInstance ?_)
          refine tl_nil (.then_normal ?_)
          refine .sub (F' := [(0, _), (5, _), (10, _), (11, _), (13, _)]) (.cons rfl (.cons rfl (.cons rfl (.cons rfl (.cons rfl .nil))))) ?_
          refine x_region ?_
          refine tl_y rfl (y_move (v := .pointer _) rfl) ?_
          refine tl_e rfl (e_buildSlice0 (fun b2 => ?_))
          refine tl_y rfl (y_move (v := .slice _ _ _) rfl) ?_
          refine tl_e rfl (e_append1 (by decide) rfl rfl OwnRow.made00 (.row hB) (all_one_bv _) (by omega) (by omega) (fun A5 c5 E5 hE5 => ?_))
          rw [Nat.zero_add, List.nil_append] at hE5; rw [Nat.zero_add]
          refine .pubRow hE5 (fun M5 hM5 hA5 => ?_)
          refine tl_y rfl (y_nilCheck rfl) ?_
          refine tl_y rfl (y_fieldAddr rfl) ?_
          refine tl_e rfl (e_store rfl rfl (by rfl) (by rfl) inferInstance inferInstance inferInstance ?_)
          refine tl_nil (.then_normal (.sub (F' := [(0, _), (5, _), (10, _), (11, _)]) (.cons rfl (.cons rfl (.cons rfl (.cons rfl .nil)))) (Jj2 _ _ _ _ ?_)))
          exact ⟨rfl, hM5, A5, m, c5, by rw [show stR rf (i + 1) = ((i : Int), rf i) from if_pos (by omega)]; exact hA5, by rw [show stR rf (i + 1) = ((i : Int), rf i) from if_pos (by omega)], rfl⟩
        ·
          refine x_skip (.then_normal (.sub (F' := [(0, _), (5, _), (10, _), (11, _)]) (.cons rfl (.cons rfl (.cons rfl (.cons rfl .nil)))) (Jj2 _ _ _ _ ?_)))
          exact ⟨rfl, Le.refl _, A, l, c, by rw [show stR rf (i + 1) = stR rf i from if_neg (by omega)]; exact hA.mono hM3, by rw [show stR rf (i + 1) = stR rf i from if_neg (by omega)], rfl⟩
    ·
      obtain rfl : i = 2 := by omega
      have hL : loadRes S s = loaded s (areaB S s.first s.n) (areaB S (s.first + s.n) s.n) := by rw [loadRes, if_neg (by simp [hd])]
      have hst := stR_two s (areaB S s.first s.n) (areaB S (s.first + s.n) s.n) rf (by rw [← hrr' 0, Nat.zero_mul, Nat.add_zero]) (by rw [← hrr' 1, Nat.one_mul])
      rw [← hL] at hst
      have hem : emR bl 2 = true ↔ (isBlank (areaB S s.first s.n) = true ∨ isBlank (areaB S (s.first + s.n) s.n) = true) := by
        rw [show isBlank (areaB S s.first s.n) = bl 0 by rw [← hbb' 0, Nat.zero_mul, Nat.add_zero], show isBlank (areaB S (s.first + s.n) s.n) = bl 1 by rw [← hbb' 1, Nat.one_mul]]
        simp [emR]
      have hcode := load_code (s := s) hd
      have hTn := loadRes_n S s
      have hLe : Le M M2 := hM1.trans hM2
      rw [hst] at hA ⊢
      generalize hT : (loadRes S s).1 = T at *
      refine x_exit (.then_exit (.loop_exit (.block_exit (.then_normal ?_))))
      refine .sub (F' := [(0, _), (10, _)]) (.cons rfl (.cons rfl .nil)) ?_
      refine x_seq (x_seq (x_region ?_))
      refine tl_y rfl (y_move (v := .pointer _) rfl) ?_
      refine tl_y rfl (y_nilCheck rfl) ?_
      refine tl_y rfl (y_fieldAddr rfl) ?_
      refine tl_y rfl (y_load rfl rfl (.own inferInstance inferInstance)) ?_
      refine tl_y rfl (y_lss rfl rfl) ?_
      refine tl_y rfl (y_move (v := .bool _) rfl) ?_
      refine tl_cases (s := 119) rfl (fun hk2 => ?_) (fun hk2 => ?_)
      ·
        refine tl_y rfl (y_move (v := .bool _) rfl) ?_
        refine tl_y rfl (y_pickT rfl rfl) ?_
        refine tl_nil (.then_normal ?_)
        refine .sub (F' := [(0, _), (121, _)]) (.cons rfl (.cons rfl .nil)) ?_
        refine x_cond rfl (fun hc6 => ?_) (fun hc6 => ?_)
        ·
          refine x_seq (x_region ?_)
          refine tl_y rfl (y_assign rfl) ?_
          refine tl_y rfl (y_assign rfl) ?_
          refine tl_y rfl (y_assign rfl) ?_
          refine tl_nil (.then_normal ?_)
          refine x_ret (.then_ret (.dropTo (rsL p q s (atR T) T.num A l c :: rL q rr S R) inferInstance (ret3 rfl rfl rfl rfl hLe (by
  have hn0 : T.num = 0 := (atR_neg T).1 hk2
  have hc : (loadRes S s).2 = 11 := by rw [hcode, if_pos hn0, if_pos (hem.1 hc6)]
  have ht := told_bad (S := S) (s := s) (by rw [hc]; decide)
  rw [ht, hc]
  exact ⟨A, l, c, none, 0, 0, rfl, Row.nil _ _, hA, by simp only [rsL, rsC, hTn.1, hTn.2]⟩))))
        ·
          refine x_skip (.then_normal ?_)
          refine x_seq (x_seq (x_region ?_))
          refine tl_y rfl (y_move (v := .pointer _) rfl) ?_
          refine tl_y rfl (y_nilCheck rfl) ?_
          refine tl_y rfl (y_fieldAddr rfl) ?_
          refine tl_y rfl (y_load rfl rfl (.own inferInstance inferInstance)) ?_
          refine tl_y rfl (y_lss rfl rfl) ?_
          refine tl_nil (.then_normal ?_)
          refine .sub (F' := [(0, _), (126, _)]) (.cons rfl (.cons rfl .nil)) ?_
          refine x_cond rfl (fun hc7 => ?_) (fun hc7 => ?_)
          ·
            refine x_seq (x_region ?_)
            refine tl_y rfl (y_assign rfl) ?_
            refine tl_y rfl (y_assign rfl) ?_
            refine tl_y rfl (y_assign rfl) ?_
            refine tl_nil (.then_normal ?_)
            refine x_ret (.then_ret (.dropTo (rsL p q s (atR T) T.num A l c :: rL q rr S R) inferInstance (ret3 rfl rfl rfl rfl hLe (by
  have hn0 : T.num = 0 := (atR_neg T).1 hk2
  have hc : (loadRes S s).2 = 8 := by rw [hcode, if_pos hn0, if_neg (fun e => hc6 (hem.2 e))]
  have ht := told_bad (S := S) (s := s) (by rw [hc]; decide)
  rw [ht, hc]
  exact ⟨A, l, c, none, 0, 0, rfl, Row.nil _ _, hA, by simp only [rsL, rsC, hTn.1, hTn.2]⟩))))
          ·
            refine x_skip (.then_normal ?_)
            refine x_seq ?_
            refine x_draw 11 hmix rfl ?_
            refine to_p 0 rfl (by kernel_rfl) rfl (y_move (v := .pointer _) rfl) ?_
            refine to_p 1 rfl (by kernel_rfl) rfl (y_nilCheck rfl) ?_
            refine to_p 2 rfl (by kernel_rfl) rfl (y_fieldAddr rfl) ?_
            refine to_y 3 rfl (by kernel_rfl) rfl (y_load rfl rfl (.own inferInstance inferInstance)) ?_
            refine to_p 4 rfl (by kernel_rfl) rfl (y_move (v := .pointer _) rfl) ?_
            refine to_p 5 rfl (by kernel_rfl) rfl (y_nilCheck rfl) ?_
            refine to_p 6 rfl (by kernel_rfl) rfl (y_fieldAddr rfl) ?_
            refine to_y 7 rfl (by kernel_rfl) rfl (y_load rfl rfl (.own inferInstance inferInstance)) ?_
            refine to_p 8 rfl (by kernel_rfl) rfl (y_assign (v := .slice _ _ _) rfl) ?_
            refine to_p 9 rfl (by kernel_rfl) rfl (y_assign (v := .int _ _) rfl) ?_
            refine to_p 10 rfl (by kernel_rfl) rfl (y_assign rfl) ?_
            refine to_nil (by kernel_rfl) (.then_normal ?_)
            refine .sub (F' := [(2, _), (3, _), (4, _)]) (.cons rfl (.cons rfl (.cons rfl .nil))) ?_
            refine x_ret (.dropTo (rsL p q s (atR T) T.num A l c :: rL q rr S R) inferInstance (ret3 rfl rfl rfl rfl hLe (absurd hk2 hc7)))
      ·
        refine tl_skip rfl ?_
        refine tl_y rfl (y_pickF rfl rfl) ?_
        refine tl_nil (.then_normal ?_)
        refine .sub (F' := [(0, _), (121, _)]) (.cons rfl (.cons rfl .nil)) ?_
        refine x_false rfl rfl ?_
        refine x_skip (.then_normal ?_)
        refine x_seq (x_seq (x_region ?_))
        refine tl_y rfl (y_move (v := .pointer _) rfl) ?_
        refine tl_y rfl (y_nilCheck rfl) ?_
        refine tl_y rfl (y_fieldAddr rfl) ?_
        refine tl_y rfl (y_load rfl rfl (.own inferInstance inferInstance)) ?_
        refine tl_y rfl (y_lss rfl rfl) ?_
        refine tl_nil (.then_normal ?_)
        refine .sub (F' := [(0, _), (126, _)]) (.cons rfl (.cons rfl .nil)) ?_
        refine x_cond rfl (fun hc8 => ?_) (fun hc8 => ?_)
        ·
          refine x_seq (x_region ?_)
          refine tl_y rfl (y_assign rfl) ?_
          refine tl_y rfl (y_assign rfl) ?_
          refine tl_y rfl (y_assign rfl) ?_
          refine tl_nil (.then_normal ?_)
          refine x_ret (.then_ret (.dropTo (rsL p q s (atR T) T.num A l c :: rL q rr S R) inferInstance (ret3 rfl rfl rfl rfl hLe (absurd hc8 hk2))))
        ·
          refine x_skip (.then_normal ?_)
          refine x_seq ?_
          refine x_draw 11 hmix rfl ?_
          refine to_p 0 rfl (by kernel_rfl) rfl (y_move (v := .pointer _) rfl) ?_
          refine to_p 1 rfl (by kernel_rfl) rfl (y_nilCheck rfl) ?_
          refine to_p 2 rfl (by kernel_rfl) rfl (y_fieldAddr rfl) ?_
          refine to_y 3 rfl (by kernel_rfl) rfl (y_load rfl rfl (.own inferInstance inferInstance)) ?_
          refine to_p 4 rfl (by kernel_rfl) rfl (y_move (v := .pointer _) rfl) ?_
          refine to_p 5 rfl (by kernel_rfl) rfl (y_nilCheck rfl) ?_
          refine to_p 6 rfl (by kernel_rfl) rfl (y_fieldAddr rfl) ?_
          refine to_y 7 rfl (by kernel_rfl) rfl (y_load rfl rfl (.own inferInstance inferInstance)) ?_
          refine to_p 8 rfl (by kernel_rfl) rfl (y_assign (v := .slice _ _ _) rfl) ?_
          refine to_p 9 rfl (by kernel_rfl) rfl (y_assign (v := .int _ _) rfl) ?_
          refine to_p 10 rfl (by kernel_rfl) rfl (y_assign rfl) ?_
          refine to_nil (by kernel_rfl) (.then_normal ?_)
          refine .sub (F' := [(2, _), (3, _), (4, _)]) (.cons rfl (.cons rfl (.cons rfl .nil))) ?_
          refine x_ret (.dropTo (rsL p q s (atR T) T.num A l c :: rL q rr S R) inferInstance (ret3 rfl rfl rfl rfl hLe (by
  have hn0 : ¬ T.num = 0 := fun e => hk2 ((atR_neg T).2 e)
  have hc : (loadRes S s).2 = 0 := by rw [hcode, if_neg hn0]
  have ht := told_zero (S := S) (s := s) hc
  rw [hT] at ht
  rw [ht, hc]
  exact ⟨A, l, c, A, l, c, rfl, hA, hA, by simp only [rsL, rsC, hTn.1, hTn.2]⟩)))
end
end Go.Proofs.YtbgdjdhbejbhkaaDoor
set_option linter.unusedVariables false
set_option linter.unusedSimpArgs false
set_option linter.constructorNameAsVariable false
namespace Go.Proofs.YtbgdjdhbejbhkaaDoor
open Go Go.Eng
section
variable {G : World} {M : Mem} {L R : Own} {p q : Nat} {S : DS} {s : SS} {rr : RRep} {A0 : Option Addr} {l0 c0 : Nat}
/-- The reference's slots over its disk. -/
def RS (p q : Nat) (S : DS) (s : SS) (m : Nat) (R : Own) (M' : Mem) (L' : Own) : Prop := ∃ rr lv E0 A l c, IsRef M' rr S ∧ OwnRow 147 2 rr.la rr.ln rr.lc lv E0 ∧ rr.ln ≤ m ∧ Bytes M' A l c s.b ∧ L' = rsL p q s (atR s) s.num A l c :: rL q rr S (E0 ++ R)
theorem atR_zero (s : SS) (h : s.at_ ≤ 1) : (if atR s = 0 then 1 else 0 : Int) = s.to := by
  have hz : s.num.toNat = 0 ↔ s.num = 0 := by rw [← UInt64.toNat_inj]; rfl
  unfold atR SS.to
  by_cases h0 : s.num = 0
  · rw [if_pos h0, if_neg (by omega), if_neg (by have := hz.2 h0; omega)]; rfl
  · have : 0 < s.num.toNat := Nat.pos_of_ne_zero fun e => h0 (hz.1 e)
    rw [if_neg h0, if_pos this]
    rcases (by omega : s.at_ = 0 ∨ s.at_ = 1) with e | e <;> rw [e] <;> rfl
theorem atR_saved (s : SS) (b : List UInt8) (h : s.num.toNat < 18446744073709551615) : atR (s.saved b) = s.to := by
  unfold atR
  rw [if_neg (fun e => by
    have e' : s.num + 1 = 0 := e
    have h1 : (s.num + 1).toNat = s.num.toNat + 1 := by rw [UInt64.toNat_add]; simp; omega
    rw [e'] at h1; simp at h1)]
  rfl
theorem RSave_spec (h : IsRef M rr S) (ok : OkS S s) {B : Nat} (hw : S.within B) (hB : B ≤ 1000000) (hb : Bytes M A0 l0 c0 s.b) (hov : s.num.toNat < 18446744073709551615) {lv : List Value} {E0 : Own} (hE0 : OwnRow 147 2 rr.la rr.ln rr.lc lv E0) (hln : rr.ln ≤ 1000000) {A : Option Addr} {l c : Nat} {b : List UInt8} (hr : Bytes M A l c b) :
    Con Tryd.prog 37 #[.pointer (some ⟨p, 0, none⟩), .slice A l c] G M (rsL p q s (atR s) s.num A0 l0 c0 :: rL q rr S (E0 ++ R))
      (fun v M' L' => RS p q (saveRes S s b).1.1 (saveRes S s b).1.2 (rr.ln + 1) R M' L' ∧ v = .int .i64 (saveRes S s b).2) noPanic := by
  have hn := ok.n
  have hin := ok.in_
  have hsz := h.sz
  have hbl := hr.size
  have hto : s.to ≤ 1 := by have := to_le s; have := ok.at_; omega
  have hmul : (s.to : Int) * (s.n : Int) = ((s.to * s.n : Nat) : Int) := by simp
  have hq := Nat.mul_le_mul_right s.n hto
  refine enter (args := [_, _]) (fn := Tryd.f37) ⟨Tryd.func37, rfl, by kernel_rfl, by kernel_rfl⟩ 124 rfl ?_
  refine x_seq (x_region ?_)
  refine tl_y rfl (y_assign rfl) ?_
  refine tl_nil (.then_normal ?_)
  refine x_seq (x_seq (x_region ?_))
  refine tl_y rfl (y_move (v := .slice _ _ _) rfl) ?_
  refine tl_y rfl (y_len rfl) ?_
  refine tl_y rfl (y_move (v := .pointer _) rfl) ?_
  refine tl_y rfl (y_nilCheck rfl) ?_
  refine tl_y rfl (y_fieldAddr rfl) ?_
  refine tl_y rfl (y_load rfl rfl (.own inferInstance inferInstance)) ?_
  refine tl_e rfl (e_call' rfl (RRoom_spec (s.n : Int)) ?_)
  rintro _ _ _ _ ⟨rfl, rfl, rfl⟩
  rw [show (if (s.n : Int) < 1 ∨ 8 < (s.n : Int) then 0 else 64 * (s.n : Int) - 28) = 64 * (s.n : Int) - 28 by rw [if_neg (by omega)]]
  refine tl_y rfl (y_gtr rfl rfl) ?_
  refine tl_nil (.then_normal ?_)
  refine .sub (F' := [(0, _), (1, _), (4, _), (17, _)]) (.cons rfl (.cons rfl (.cons rfl (.cons rfl .nil)))) ?_
  refine x_cond rfl (fun hc1 => ?_) (fun hc1 => ?_)
  ·
    refine x_seq (x_region ?_)
    refine tl_y rfl (y_assign rfl) ?_
    refine tl_nil (.then_normal ?_)
    refine x_ret (.then_ret (ret1 rfl rfl (Le.refl _) (by
  rw [show saveRes S s b = ((S, s), 1) by rw [saveRes, if_pos (by omega)]]
  exact ⟨⟨rr, lv, E0, A0, l0, c0, h, hE0, by omega, hb, rfl⟩, rfl⟩)))
  ·
    have hbl' : b.length + 28 ≤ 64 * s.n := by omega
    have hsv : saveRes S s b = if (laid S s b).2 ≠ 0 then (((laid S s b).1, s), (laid S s b).2) else if (flushRes (laid S s b).1).2 ≠ 0 then (((flushRes (laid S s b).1).1, s), (flushRes (laid S s b).1).2) else (((flushRes (laid S s b).1).1, s.saved b), 0) := by
      unfold saveRes; rw [if_neg (by omega)]
    have hla : laid S s b = saveGo S (s.first + s.to * s.n) (recB s.n (s.num + 1) b) s.n := rfl
    have hrl := recB_length (num := s.num + 1) hbl'
    have hatz := atR_zero s ok.at_
    generalize hq' : s.to * s.n = qq at hmul hq hla
    generalize hall : recB s.n (s.num + 1) b = all at hla hrl
    refine x_skip (.then_normal ?_)
    refine x_seq (x_region ?_)
    refine tl_y rfl (y_assign rfl) ?_
    refine tl_nil (.then_normal ?_)
    refine x_join (I := fun F D M1 L1 => D = [] ∧ M = M1 ∧ L1 = rsL p q s (atR s) s.num A0 l0 c0 :: rL q rr S (E0 ++ R) ∧ F = [(0, .pointer (some ⟨p, 0, none⟩)), (1, .slice A l c), (4, .int .i64 0), (5, .int .i64 s.to)]) ?_ (fun Jj1 => ?_)
    ·
      rintro _ _ M1 L1 ⟨rfl, rfl, rfl, rfl⟩  -- slots [0, 1, 4, 5]
      refine x_seq ?_
      refine x_draw 12 hmix rfl ?_
      refine to_p 0 rfl (by kernel_rfl) rfl (y_move (v := .pointer _) rfl) ?_
      refine to_p 1 rfl (by kernel_rfl) rfl (y_nilCheck rfl) ?_
      refine to_p 2 rfl (by kernel_rfl) rfl (y_fieldAddr rfl) ?_
      refine to_y 3 rfl (by kernel_rfl) rfl (y_load rfl rfl (.own inferInstance inferInstance)) ?_
      refine to_p 4 rfl (by kernel_rfl) rfl (y_add64 (b := 1) rfl rfl) ?_
      refine to_p 5 rfl (by kernel_rfl) rfl (y_move (v := .slice _ _ _) rfl) ?_
      refine to_p 6 rfl (by kernel_rfl) rfl (y_move (v := .pointer _) rfl) ?_
      refine to_p 7 rfl (by kernel_rfl) rfl (y_nilCheck rfl) ?_
      refine to_p 8 rfl (by kernel_rfl) rfl (y_fieldAddr rfl) ?_
      refine to_y 9 rfl (by kernel_rfl) rfl (y_load rfl rfl (.own inferInstance inferInstance)) ?_
      refine to_e 10 rfl (by kernel_rfl) rfl (e_call' rfl (RRecord_spec (s.num + 1) hr s.n hn.2 hbl') ?_)
      rintro _ M1 _ hM1 ⟨rfl, A1, c1, rfl, hA1⟩
      rw [hall] at hA1
      have hc1le := hA1.le
      refine ⟨⟨hM1, Keeps.mem⟩, ?_⟩
      refine to_p 11 rfl (by kernel_rfl) rfl (y_assign (v := .slice _ _ _) rfl) ?_
      refine to_nil (by kernel_rfl) (.then_normal ?_)
      refine .sub (F' := [(0, _), (1, _), (4, _), (5, _), (6, _)]) (.cons rfl (.cons rfl (.cons rfl (.cons rfl (.cons rfl .nil))))) ?_
      refine x_seq ?_
      refine x_draw0 28 ([rsL p q s (atR s) s.num A0 l0 c0, (q, .cells (List.toArray (rcells rr S)) 74 (0, 0))]) Keeps.mem hmix rfl ?_
      refine to_p 0 rfl (by kernel_rfl) rfl (y_move (v := .pointer _) rfl) ?_
      refine to_p 1 rfl (by kernel_rfl) rfl (y_nilCheck rfl) ?_
      refine to_p 2 rfl (by kernel_rfl) rfl (y_fieldAddr rfl) ?_
      refine to_y 3 rfl (by kernel_rfl) rfl (y_load rfl rfl (.own inferInstance inferInstance)) ?_
      refine to_p 4 rfl (by kernel_rfl) rfl (y_move (v := .pointer _) rfl) ?_
      refine to_p 5 rfl (by kernel_rfl) rfl (y_nilCheck rfl) ?_
      refine to_p 6 rfl (by kernel_rfl) rfl (y_fieldAddr rfl) ?_
      refine to_y 7 rfl (by kernel_rfl) rfl (y_load rfl rfl (.own inferInstance inferInstance)) ?_
      refine to_p 8 rfl (by kernel_rfl) rfl (y_nilCheck rfl) ?_
      refine to_p 9 rfl (by kernel_rfl) rfl (y_fieldAddr rfl) ?_
      refine to_y 10 rfl (by kernel_rfl) rfl (y_load rfl rfl (.own inferInstance inferInstance)) ?_
      refine to_p 11 rfl (by kernel_rfl) rfl (y_move (v := .pointer _) rfl) ?_
      refine to_p 12 rfl (by kernel_rfl) rfl (y_nilCheck rfl) ?_
      refine to_p 13 rfl (by kernel_rfl) rfl (y_fieldAddr rfl) ?_
      refine to_y 14 rfl (by kernel_rfl) rfl (y_load rfl rfl (.own inferInstance inferInstance)) ?_
      refine to_p 15 rfl (by kernel_rfl) rfl (y_move (v := .int _ _) rfl) ?_
      refine to_p 16 rfl (by kernel_rfl) rfl (y_move (v := .pointer _) rfl) ?_
      refine to_p 17 rfl (by kernel_rfl) rfl (y_nilCheck rfl) ?_
      refine to_p 18 rfl (by kernel_rfl) rfl (y_fieldAddr rfl) ?_
      refine to_y 19 rfl (by kernel_rfl) rfl (y_load rfl rfl (.own inferInstance inferInstance)) ?_
      refine to_p 20 rfl (by kernel_rfl) rfl (y_mulI rfl rfl (by rw [hmul]; omega)) ?_
      rw [hmul]
      refine to_p 21 rfl (by kernel_rfl) rfl (y_addI rfl rfl (by omega)) ?_
      refine to_p 22 rfl (by kernel_rfl) rfl (y_move (v := .slice _ _ _) rfl) ?_
      refine to_p 23 rfl (by kernel_rfl) rfl (y_build rfl) ?_
      refine to_e 24 rfl (by kernel_rfl) rfl (e_buildSlice rfl (by decide) (fun bY => ?_))
      refine ⟨⟨(by first | exact Le.refl _ | assumption), Keeps.mem⟩, ?_⟩
      refine .bringE E0 inferInstance ?_
      refine to_e 25 rfl (by kernel_rfl) rfl (e_append (E := E0) (by decide) rfl rfl hE0 (.own inferInstance rfl) rfl (by omega) (by omega) (fun A7 c7 E7 hE7 => ?_))
      refine ⟨⟨(by first | exact Le.refl _ | assumption), Keeps.mem⟩, ?_⟩
      refine to_p 26 rfl (by kernel_rfl) rfl (y_nilCheck rfl) ?_
      refine to_p 27 rfl (by kernel_rfl) rfl (y_fieldAddr rfl) ?_
      refine to_t 28 rfl (by kernel_rfl) (by kernel_rfl) rfl (e_store rfl rfl (by rfl) (by rfl) inferInstance inferInstance inferInstance ?_)
      have h7 : IsRef M1 { rr with la := A7, ln := rr.ln + 1, lc := c7 } S := (show IsRef M { rr with la := A7, ln := rr.ln + 1, lc := c7 } S from ⟨h.s, h.w, h.h, h.sure, h.what, h.fail, h.sl, h.pl, h.sz⟩).mono hM1
      refine .dropTo (rsL p q s (atR s) s.num A0 l0 c0 :: rL q { rr with la := A7, ln := rr.ln + 1, lc := c7 } S (E7 ++ R)) inferInstance ?_
      obtain ⟨r7, er⟩ : ∃ r7 : RRep, { rr with la := A7, ln := rr.ln + 1, lc := c7 } = r7 := ⟨_, rfl⟩
      have er1 : r7.la = A7 := by rw [← er]
      have er2 : r7.ln = rr.ln + 1 := by rw [← er]
      have er3 : r7.lc = c7 := by rw [← er]
      rw [er] at h7 ⊢
      refine to_nil (by kernel_rfl) (.then_normal ?_)
      refine .sub (F' := [(0, _), (1, _), (4, _), (5, _), (6, _)]) (.cons rfl (.cons rfl (.cons rfl (.cons rfl (.cons rfl .nil))))) ?_
      refine x_seq (x_seq (x_region ?_))
      refine tl_y rfl (y_assign rfl) ?_
      refine tl_nil (.then_normal ?_)
      refine x_block ?_
      refine x_loop (I := fun m' F D M2 L2 => ∃ (k : Nat) (r2 : RRep), m' = s.n - k ∧ k ≤ s.n ∧ Le M1 M2 ∧ (saveGo S (s.first + qq) all k).2 = 0 ∧ IsRef M2 r2 (saveGo S (s.first + qq) all k).1 ∧ r2.la = A7 ∧ r2.ln = rr.ln + 1 ∧ r2.lc = c7 ∧ D = [] ∧ L2 = rsL p q s (atR s) s.num A0 l0 c0 :: rL q r2 (saveGo S (s.first + qq) all k).1 (E7 ++ R) ∧ F = [(0, .pointer (some ⟨p, 0, none⟩)), (1, .slice A l c), (4, .int .i64 0), (5, .int .i64 s.to), (6, .slice A1 (64 * s.n) c1), (7, .int .i64 k)]) (s.n) (F0 := [(0, _), (1, _), (4, _), (5, _), (6, _), (7, _)]) ?_ (.cons rfl (.cons rfl (.cons rfl (.cons rfl (.cons rfl (.cons rfl .nil)))))) ?_  -- slots [0, 1, 4, 5, 6, 7], written [4, 7]
      · exact ⟨0, r7, rfl, by omega, Le.refl _, rfl, h7, er1, er2, er3, rfl, rfl, rfl⟩
      rintro m _ _ M2 L2 ⟨k, r2, rfl, hk, hM2, h0, hd2, g1, g2, g3, rfl, rfl, rfl⟩
      refine x_seq (x_seq (x_region ?_))
      refine tl_y rfl (y_move (v := .int _ _) rfl) ?_
      refine tl_y rfl (y_move (v := .pointer _) rfl) ?_
      refine tl_y rfl (y_nilCheck rfl) ?_
      refine tl_y rfl (y_fieldAddr rfl) ?_
      refine tl_y rfl (y_load rfl rfl (.own inferInstance inferInstance)) ?_
      refine tl_y rfl (y_lss rfl rfl) ?_
      refine tl_nil (.then_normal ?_)
      refine .sub (F' := [(0, _), (1, _), (4, _), (5, _), (6, _), (7, _), (67, _)]) (.cons rfl (.cons rfl (.cons rfl (.cons rfl (.cons rfl (.cons rfl (.cons rfl .nil))))))) ?_
      refine x_cond rfl (fun hc2 => ?_) (fun hc2 => ?_)
      ·
        have hkn : k < s.n := by omega
        have hw2 := saveGo_within hw (s.first + qq) all k
        have hgo : saveGo S (s.first + qq) all (k + 1) = writeRes (saveGo S (s.first + qq) all k).1 ((s.first + qq + k : Nat) : Int) ((all.drop (64 * k)).take 64) := by rw [saveGo, if_neg (by simp [h0])]
        have hrow : Bytes M2 (sl A1 (64 * (k : Int)).toNat c1 1) ((64 * (k : Int) + 64).toNat - (64 * (k : Int)).toNat) (c1 - (64 * (k : Int)).toNat) ((all.drop (64 * k)).take 64) := by
          have h1 := Bytes.sub (hA1.mono hM2) (64 * k) (64 * (k + 1)) (by omega) (by omega)
          rw [show 64 * (k + 1) - 64 * k = 64 by omega] at h1
          rw [show (64 * (k : Int)).toNat = 64 * k by omega, show (64 * (k : Int) + 64).toNat - 64 * k = 64 by omega]
          exact h1
        refine x_skip (.then_normal ?_)
        refine x_seq ?_
        refine x_block ?_
        refine x_seq ?_
        refine x_draw0 26 ([rsL p q s (atR s) s.num A0 l0 c0]) Keeps.mem hmix rfl ?_
        refine to_p 0 rfl (by kernel_rfl) rfl (y_move (v := .pointer _) rfl) ?_
        refine to_p 1 rfl (by kernel_rfl) rfl (y_nilCheck rfl) ?_
        refine to_p 2 rfl (by kernel_rfl) rfl (y_fieldAddr rfl) ?_
        refine to_y 3 rfl (by kernel_rfl) rfl (y_load rfl rfl (.own inferInstance inferInstance)) ?_
        refine to_p 4 rfl (by kernel_rfl) rfl (y_move (v := .pointer _) rfl) ?_
        refine to_p 5 rfl (by kernel_rfl) rfl (y_nilCheck rfl) ?_
        refine to_p 6 rfl (by kernel_rfl) rfl (y_fieldAddr rfl) ?_
        refine to_y 7 rfl (by kernel_rfl) rfl (y_load rfl rfl (.own inferInstance inferInstance)) ?_
        refine to_p 8 rfl (by kernel_rfl) rfl (y_move (v := .int _ _) rfl) ?_
        refine to_p 9 rfl (by kernel_rfl) rfl (y_move (v := .pointer _) rfl) ?_
        refine to_p 10 rfl (by kernel_rfl) rfl (y_nilCheck rfl) ?_
        refine to_p 11 rfl (by kernel_rfl) rfl (y_fieldAddr rfl) ?_
        refine to_y 12 rfl (by kernel_rfl) rfl (y_load rfl rfl (.own inferInstance inferInstance)) ?_
        refine to_p 13 rfl (by kernel_rfl) rfl (y_mulI rfl rfl (by rw [hmul]; omega)) ?_
        rw [hmul]
        refine to_p 14 rfl (by kernel_rfl) rfl (y_addI rfl rfl (by omega)) ?_
        refine to_p 15 rfl (by kernel_rfl) rfl (y_move (v := .int _ _) rfl) ?_
        refine to_p 16 rfl (by kernel_rfl) rfl (y_addI rfl rfl (by omega)) ?_
        rw [show ((s.first : Int) + (qq : Int)) + (k : Int) = ((s.first + qq + k : Nat) : Int) by omega]
        refine to_p 17 rfl (by kernel_rfl) rfl (y_move (v := .slice _ _ _) rfl) ?_
        refine to_p 18 rfl (by kernel_rfl) rfl (y_move (v := .int _ _) rfl) ?_
        refine to_p 19 rfl (by kernel_rfl) rfl (y_mulI rfl rfl (by omega)) ?_
        refine to_p 20 rfl (by kernel_rfl) rfl (y_move (v := .int _ _) rfl) ?_
        refine to_p 21 rfl (by kernel_rfl) rfl (y_mulI rfl rfl (by omega)) ?_
        refine to_p 22 rfl (by kernel_rfl) rfl (y_addI rfl rfl (by omega)) ?_
        refine to_p 23 rfl (by kernel_rfl) rfl (y_sliceLH rfl rfl rfl (by omega) (by omega)) ?_
        refine to_e 24 rfl (by kernel_rfl) rfl (e_call' rfl (Con.to (rL q r2 (saveGo S (s.first + qq) all k).1 (rsL p q s (atR s) s.num A0 l0 c0 :: (E7 ++ R))) inferInstance (RWrite_spec hd2 (by have := hw2.1; have := hw2.2.1; omega) (by have := hw2.2.2; omega) hrow)) ?_)
        rintro _ M3 _ hM3 ⟨hrk, rfl⟩
        obtain ⟨r3, hd3, rfl, f1, f2, f3⟩ := hrk.out
        have e1 : r3.la = A7 := f1.trans g1
        have e2 : r3.ln = rr.ln + 1 := f2.trans g2
        have e3 : r3.lc = c7 := f3.trans g3
        have hE7' := hE7
        rw [← e1, ← e2, ← e3] at hE7'
        rw [← hgo] at hd3 ⊢
        refine ⟨⟨hM3, Keeps.mem⟩, ?_⟩
        refine to_p 25 rfl (by kernel_rfl) rfl (y_assign (v := .int _ _) rfl) ?_
        refine to_nil (by kernel_rfl) (.then_normal ?_)
        refine .sub (F' := [(0, _), (1, _), (4, _), (5, _), (6, _), (7, _), (8, _)]) (.cons rfl (.cons rfl (.cons rfl (.cons rfl (.cons rfl (.cons rfl (.cons rfl .nil))))))) ?_
        refine x_seq (x_region ?_)
        refine .to (rsL p q s (atR s) s.num A0 l0 c0 :: rL q r3 (saveGo S (s.first + qq) all (k + 1)).1 (E7 ++ R)) inferInstance ?_
        refine tl_y rfl (y_move (v := .int _ _) rfl) ?_
        refine tl_y rfl (y_neq rfl rfl) ?_
        refine tl_nil (.then_normal ?_)
        refine x_cond rfl (fun hc3 => ?_) (fun hc3 => ?_)
        ·
          refine x_seq (x_region ?_)
          refine tl_y rfl (y_move (v := .int _ _) rfl) ?_
          refine tl_y rfl (y_assign (v := .int _ _) rfl) ?_
          refine tl_nil (.then_normal ?_)
          refine .sub (F' := [(0, _), (1, _), (4, _), (5, _), (6, _), (7, _)]) (.cons rfl (.cons rfl (.cons rfl (.cons rfl (.cons rfl (.cons rfl .nil)))))) ?_
          refine x_ret (.block_ret (.then_ret (.loop_ret (.block_ret (.then_ret (ret1 rfl rfl (hM1.trans (hM2.trans hM3)) (by
  have hst := saveGo_stuck hc3 (s.n - (k + 1))
  rw [show k + 1 + (s.n - (k + 1)) = s.n by omega, ← hla] at hst
  rw [← hst] at hd3 hc3 ⊢
  rw [hsv, if_pos hc3]
  exact ⟨⟨r3, _, E7, A0, l0, c0, hd3, hE7', by rw [e2]; exact Nat.le_refl _, hb.mono (hM1.trans (hM2.trans hM3)), rfl⟩, rfl⟩)))))))
        ·
          refine x_skip (.block_normal (.then_normal ?_))
          refine x_region ?_
          refine tl_y rfl (y_move (v := .int _ _) rfl) ?_
          refine tl_y rfl (y_addI rfl rfl (by omega)) ?_
          refine tl_y rfl (y_assign (v := .int _ _) rfl) ?_
          refine tl_nil (.loop_next (m' := s.n - (k + 1)) (by omega) (F' := [(0, _), (1, _), (4, _), (5, _), (6, _), (7, _)]) (.cons rfl (.cons rfl (.cons rfl (.cons rfl (.cons rfl (.cons rfl .nil)))))) ?_)
          exact ⟨k + 1, r3, rfl, by omega, hM2.trans hM3, by simpa using hc3, hd3, by rw [f1, g1], by rw [f2, g2], by rw [f3, g3], rfl, rfl, rfl⟩
      ·
        obtain rfl : k = s.n := by omega
        rw [← hla] at h0 hd2 ⊢
        have hw2 : (laid S s b).1.within (B + s.n) := by rw [hla]; exact saveGo_within hw _ _ _
        have hm := hM1.trans hM2
        refine x_exit (.then_exit (.loop_exit (.block_exit (.then_normal ?_))))
        refine .sub (F' := [(0, _), (1, _), (5, _)]) (.cons rfl (.cons rfl (.cons rfl .nil))) ?_
        refine x_seq (x_region ?_)
        refine tl_y rfl (y_move (v := .pointer _) rfl) ?_
        refine tl_y rfl (y_nilCheck rfl) ?_
        refine tl_y rfl (y_fieldAddr rfl) ?_
        refine tl_y rfl (y_load rfl rfl (.own inferInstance inferInstance)) ?_
        refine tl_e rfl (e_call' rfl (Con.to (rL q r2 (laid S s b).1 (rsL p q s (atR s) s.num A0 l0 c0 :: (E7 ++ R))) inferInstance (RFlush_spec hd2 (by have := hw2.1; have := hw2.2.1; omega))) ?_)
        rintro _ M3 _ hM3 ⟨hrk, rfl⟩
        obtain ⟨r3, hd3, rfl, f1, f2, f3⟩ := hrk.out
        replace hm := hm.trans hM3
        have e1 : r3.la = A7 := f1.trans g1
        have e2 : r3.ln = rr.ln + 1 := f2.trans g2
        have e3 : r3.lc = c7 := f3.trans g3
        have hE7' := hE7
        rw [← e1, ← e2, ← e3] at hE7'
        refine .to (rsL p q s (atR s) s.num A0 l0 c0 :: rL q r3 (flushRes (laid S s b).1).1 (E7 ++ R)) inferInstance ?_
        refine tl_y rfl (y_assign (v := .int _ _) rfl) ?_
        refine tl_nil (.then_normal ?_)
        refine .sub (F' := [(0, _), (1, _), (5, _), (9, _)]) (.cons rfl (.cons rfl (.cons rfl (.cons rfl .nil)))) ?_
        refine x_seq (x_seq (x_region ?_))
        refine tl_y rfl (y_move (v := .int _ _) rfl) ?_
        refine tl_y rfl (y_eql rfl rfl) ?_
        refine tl_nil (.then_normal ?_)
        refine x_cond rfl (fun hc4 => ?_) (fun hc4 => ?_)
        ·
          refine x_seq (x_region ?_)
          refine tl_y rfl (y_move (v := .pointer _) rfl) ?_
          refine tl_y rfl (y_move (v := .int _ _) rfl) ?_
          refine tl_y rfl (y_nilCheck rfl) ?_
          refine tl_y rfl (y_fieldAddr rfl) ?_
          refine tl_e rfl (e_store rfl rfl (by rfl) (by rfl) inferInstance inferInstance inferInstance ?_)
          refine tl_nil (.then_normal ?_)
          refine .sub (F' := [(0, _), (1, _), (9, _)]) (.cons rfl (.cons rfl (.cons rfl .nil))) ?_
          refine x_seq (x_region ?_)
          refine tl_y rfl (y_move (v := .pointer _) rfl) ?_
          refine tl_y rfl (y_move (v := .pointer _) rfl) ?_
          refine tl_y rfl (y_nilCheck rfl) ?_
          refine tl_y rfl (y_fieldAddr rfl) ?_
          refine tl_y rfl (y_load rfl rfl (.own inferInstance inferInstance)) ?_
          refine tl_y rfl (y_add64 (b := 1) rfl rfl) ?_
          refine tl_y rfl (y_nilCheck rfl) ?_
          refine tl_y rfl (y_fieldAddr rfl) ?_
          refine tl_e rfl (e_store rfl rfl (by rfl) (by rfl) inferInstance inferInstance inferInstance ?_)
          refine tl_nil (.then_normal ?_)
          refine .sub (F' := [(0, _), (1, _), (9, _)]) (.cons rfl (.cons rfl (.cons rfl .nil))) ?_
          refine x_region ?_
          refine tl_y rfl (y_move (v := .pointer _) rfl) ?_
          refine tl_e rfl (e_buildSlice0 (fun b1 => ?_))
          refine tl_y rfl (y_move (v := .slice _ _ _) rfl) ?_
          refine tl_e rfl (e_append1 (by decide) rfl rfl OwnRow.made00 (.row (hr.mono hm)) (all_one_bv _) (by omega) (by omega) (fun A8 c8 E8 hE8 => ?_))
          rw [Nat.zero_add, List.nil_append] at hE8; rw [Nat.zero_add]
          refine .pubRow hE8 (fun M4 hM4 hA8 => ?_)
          refine tl_y rfl (y_nilCheck rfl) ?_
          refine tl_y rfl (y_fieldAddr rfl) ?_
          refine tl_e rfl (e_store rfl rfl (by rfl) (by rfl) inferInstance inferInstance inferInstance ?_)
          refine tl_nil (.then_normal ?_)
          refine .sub (F' := [(9, _)]) (.cons rfl .nil) ?_
          refine x_seq (x_region ?_)
          refine tl_y rfl (y_move (v := .int _ _) rfl) ?_
          refine tl_y rfl (y_assign (v := .int _ _) rfl) ?_
          refine tl_nil (.then_normal ?_)
          refine x_ret (ret1 rfl rfl (hm.trans hM4) (by
  rw [hsv, if_neg (by simp [h0]), if_neg (by simp [hc4])]
  exact ⟨⟨r3, _, E7, A8, l, c8, hd3.mono hM4, hE7', by rw [e2]; exact Nat.le_refl _, hA8, by rw [atR_saved s b hov]; rfl⟩, by rw [hc4]⟩))
        ·
          refine x_skip (.then_normal ?_)
          refine .sub (F' := [(9, _)]) (.cons rfl .nil) ?_
          refine x_seq (x_region ?_)
          refine tl_y rfl (y_move (v := .int _ _) rfl) ?_
          refine tl_y rfl (y_assign (v := .int _ _) rfl) ?_
          refine tl_nil (.then_normal ?_)
          refine x_ret (ret1 rfl rfl hm (by
  rw [hsv, if_neg (by simp [h0]), if_pos hc4]
  exact ⟨⟨r3, _, E7, A0, l0, c0, hd3, hE7', by rw [e2]; exact Nat.le_refl _, hb.mono hm, rfl⟩, rfl⟩))
    ·
      refine x_seq (x_region ?_)
      refine tl_y rfl (y_move (v := .pointer _) rfl) ?_
      refine tl_y rfl (y_nilCheck rfl) ?_
      refine tl_y rfl (y_fieldAddr rfl) ?_
      refine tl_y rfl (y_load rfl rfl (.own inferInstance inferInstance)) ?_
      refine tl_y rfl (y_eql rfl rfl) ?_
      refine tl_nil (.then_normal ?_)
      refine .sub (F' := [(0, _), (1, _), (4, _), (5, _), (22, _)]) (.cons rfl (.cons rfl (.cons rfl (.cons rfl (.cons rfl .nil))))) ?_
      refine x_cond rfl (fun hc5 => ?_) (fun hc5 => ?_)
      ·
        refine x_region ?_
        refine tl_y rfl (y_assign rfl) ?_
        refine tl_nil (.then_normal (.sub (F' := [(0, _), (1, _), (4, _), (5, _)]) (.cons rfl (.cons rfl (.cons rfl (.cons rfl .nil)))) (Jj1 _ _ _ _ ?_)))
        exact ⟨rfl, rfl, rfl, by rw [← hatz, if_pos hc5]⟩
      ·
        refine x_skip (.then_normal (.sub (F' := [(0, _), (1, _), (4, _), (5, _)]) (.cons rfl (.cons rfl (.cons rfl (.cons rfl .nil)))) (Jj1 _ _ _ _ ?_)))
        exact ⟨rfl, rfl, rfl, by rw [← hatz, if_neg hc5]⟩
end
end Go.Proofs.YtbgdjdhbejbhkaaDoor
set_option linter.unusedVariables false
set_option linter.unusedSimpArgs false
set_option linter.constructorNameAsVariable false
namespace Go.Proofs.YtbgdjdhbejbhkaaDoor
open Go Go.Eng
section
variable {G : World} {M : Mem} {L R : Own} {p q k : Nat} {S : DS} {s : SS} {rr : RRep} {A0 HA : Option Addr} {l0 c0 hl hc : Nat} {lv : List Value} {E0 : Own}
abbrev rcL (k : Nat) (is : Bool) (x : Cn) (HA : Option Addr) (hl hc : Nat) (P : Option Addr) : Nat × Obj :=
  (k, .cells (List.toArray [.bool is, .int .u64 (x.total.toNat : Int), .int .u64 (x.batch.toNat : Int), .int .u64 (x.reserved.toNat : Int), .int .u64 (x.next.toNat : Int), .bool x.retired, .slice HA hl hc, .pointer P]) 107 (0, 0))
theorem RS.mk {M' : Mem} {m : Nat} {A : Option Addr} {l c : Nat} (h : IsRef M' rr S) (hE : OwnRow 147 2 rr.la rr.ln rr.lc lv E0) (hm : rr.ln ≤ m) (hb : Bytes M' A l c s.b) : RS p q S s m R M' (rsL p q s (atR s) s.num A l c :: rL q rr S (E0 ++ R)) := ⟨rr, lv, E0, A, l, c, h, hE, hm, hb, rfl⟩
theorem RRetire_spec (h : IsRef M rr S) (ok : OkS S s) {B : Nat} (hw : S.within B) (hB : B ≤ 1000000) (hb : Bytes M A0 l0 c0 s.b) (hov : s.num.toNat < 18446744073709551615) (hE0 : OwnRow 147 2 rr.la rr.ln rr.lc lv E0) (hln : rr.ln ≤ 1000000) {head : List UInt8} (hh : Bytes M HA hl hc head) (x : Cn) (hmay : mayB x head.length = true) :
    Con Tryd.prog 60 #[.pointer (some ⟨k, 0, none⟩)] G M (rcL k true x HA hl hc (some ⟨p, 0, none⟩) :: rsL p q s (atR s) s.num A0 l0 c0 :: rL q rr S (E0 ++ R))
      (fun v M' L' => RS p q (retireC S s x head).1.1.1 (retireC S s x head).1.1.2 (rr.ln + 1) (rcL k true (retireC S s x head).1.2 HA hl hc (some ⟨p, 0, none⟩) :: R) M' L' ∧ v = .int .i64 (retireC S s x head).2) noPanic := by
  have hhl := hh.size
  refine enter (args := [_]) (fn := Tryd.f60) ⟨Tryd.func60, rfl, by kernel_rfl, by kernel_rfl⟩ 39 rfl ?_
  refine x_seq (x_region ?_)
  refine tl_y rfl (y_assign rfl) ?_
  refine tl_nil (.then_normal ?_)
  refine x_seq (x_region ?_)
  refine tl_y rfl (y_move (v := .pointer _) rfl) ?_
  refine tl_y rfl (y_nilCheck rfl) ?_
  refine tl_y rfl (y_fieldAddr rfl) ?_
  refine tl_y rfl (y_loadAgg rfl rfl (.own inferInstance inferInstance)) ?_
  refine tl_e rfl (e_alloc (fun b1 => ?_))
  refine tl_e rfl (e_store rfl rfl (by rfl) (by rfl) inferInstance inferInstance inferInstance ?_)
  refine tl_nil (.then_normal ?_)
  refine .sub (F' := [(0, _), (3, _)]) (.cons rfl (.cons rfl .nil)) ?_
  refine x_seq (x_region ?_)
  refine tl_y rfl (y_fieldAddr rfl) ?_
  refine tl_e rfl (e_store rfl rfl (by rfl) (by rfl) inferInstance inferInstance inferInstance ?_)
  refine tl_nil (.then_normal ?_)
  refine x_seq (x_seq (x_region ?_))
  refine tl_y rfl (y_move (v := .pointer _) rfl) ?_
  refine tl_y rfl (y_nilCheck rfl) ?_
  refine tl_y rfl (y_fieldAddr rfl) ?_
  refine tl_y rfl (y_fieldAddr rfl) ?_
  refine tl_y rfl (y_load rfl rfl (.own inferInstance inferInstance)) ?_
  refine tl_nil (.then_normal ?_)
  refine .sub (F' := [(0, _), (3, _), (16, _)]) (.cons rfl (.cons rfl (.cons rfl .nil))) ?_
  refine x_condb rfl (fun hc1 => ?_) (fun hc1 => ?_)
  ·
    refine x_seq (x_region ?_)
    refine tl_y rfl (y_assign rfl) ?_
    refine tl_nil (.then_normal ?_)
    refine x_ret (.then_ret (.dropTo (rsL p q s (atR s) s.num A0 l0 c0 :: rL q rr S (E0 ++ (rcL k true x HA hl hc (some ⟨p, 0, none⟩) :: R))) inferInstance (ret1 rfl rfl (Le.refl _) (by
  have e : retireC S s x head = (((S, s), x), 0) := by
    rw [retireC, saveC, if_pos (by cases x; simp_all)]
  rw [e]
  exact ⟨.mk h hE0 (by omega) hb, rfl⟩))))
  ·
    have hmay' : mayB { x with retired := true } hl = true := by rw [← hhl]; exact hmay
    have hne : ({ x with retired := true } : Cn) ≠ x := fun e => by have := congrArg Cn.retired e; rw [hc1] at this; exact absurd this (by simp)
    have hR : retireC S s x head = if (saveRes S s (bytesC { x with retired := true } head)).2 ≠ 0 then (((saveRes S s (bytesC { x with retired := true } head)).1, x), (saveRes S s (bytesC { x with retired := true } head)).2) else (((saveRes S s (bytesC { x with retired := true } head)).1, { x with retired := true }), 0) := by
      rw [retireC, saveC, if_neg hne, if_neg (by rw [hhl, hmay']; simp)]
    refine x_skip (.then_normal ?_)
    refine x_seq ?_
    refine x_draw 11 hmix rfl ?_
    refine to_y 0 rfl (by kernel_rfl) rfl (y_loadAgg rfl rfl (.own inferInstance inferInstance)) ?_
    refine to_p 1 rfl (by kernel_rfl) rfl (y_move (v := .pointer _) rfl) ?_
    refine to_p 2 rfl (by kernel_rfl) rfl (y_nilCheck rfl) ?_
    refine to_p 3 rfl (by kernel_rfl) rfl (y_fieldAddr rfl) ?_
    refine to_y 4 rfl (by kernel_rfl) rfl (y_load rfl rfl (.own inferInstance inferInstance)) ?_
    refine to_e 5 rfl (by kernel_rfl) rfl (e_call' rfl (RBytes_spec { x with retired := true } hh) ?_)
    rintro _ M2 _ hM2 ⟨rfl, A2, n2, c2, w, rfl, hw2, ew⟩
    rw [if_pos hmay'] at ew
    rw [if_pos hmay']
    subst ew
    refine ⟨⟨hM2, Keeps.mem⟩, ?_⟩
    refine to_p 6 rfl (by kernel_rfl) rfl (y_move (v := .tuple _) rfl) ?_
    refine to_p 7 rfl (by kernel_rfl) rfl (y_extract rfl) ?_
    refine to_p 8 rfl (by kernel_rfl) rfl (y_extract rfl) ?_
    refine to_p 9 rfl (by kernel_rfl) rfl (y_assign (v := .slice _ _ _) rfl) ?_
    refine to_p 10 rfl (by kernel_rfl) rfl (y_assign (v := .int _ _) rfl) ?_
    refine to_nil (by kernel_rfl) (.then_normal ?_)
    refine .sub (F' := [(0, _), (3, _), (4, _)]) (.cons rfl (.cons rfl (.cons rfl .nil))) ?_
    refine x_seq (x_region ?_)
    refine tl_y rfl (y_move (v := .pointer _) rfl) ?_
    refine tl_y rfl (y_nilCheck rfl) ?_
    refine tl_y rfl (y_fieldAddr rfl) ?_
    refine tl_y rfl (y_load rfl rfl (.own inferInstance inferInstance)) ?_
    refine tl_y rfl (y_move (v := .slice _ _ _) rfl) ?_
    refine .to (rsL p q s (atR s) s.num A0 l0 c0 :: rL q rr S (E0 ++ (rcL k true x HA hl hc (some ⟨p, 0, none⟩) :: (b1, .cells (List.toArray (ccells { x with retired := true })) 81 (0, 0)) :: R))) inferInstance ?_
    refine tl_e rfl (e_call' rfl (RSave_spec (h.mono hM2) ok hw hB (hb.mono hM2) hov hE0 hln hw2) ?_)
    rintro _ M3 _ hM3 ⟨⟨r3, lv3, E3, A3, l3, c3, hd3, hE3, hm3, hb3, rfl⟩, rfl⟩
    refine tl_y rfl (y_assign (v := .int _ _) rfl) ?_
    refine tl_nil (.then_normal ?_)
    refine .sub (F' := [(0, _), (3, _), (6, _)]) (.cons rfl (.cons rfl (.cons rfl .nil))) ?_
    refine x_seq (x_seq (x_region ?_))
    refine tl_y rfl (y_move (v := .int _ _) rfl) ?_
    refine tl_y rfl (y_eql rfl rfl) ?_
    refine tl_nil (.then_normal ?_)
    refine x_cond rfl (fun hc2 => ?_) (fun hc2 => ?_)
    ·
      refine x_region ?_
      refine tl_y rfl (y_move (v := .pointer _) rfl) ?_
      refine tl_y rfl (y_loadAgg rfl rfl (.own inferInstance inferInstance)) ?_
      refine tl_y rfl (y_nilCheck rfl) ?_
      refine tl_y rfl (y_fieldAddr rfl) ?_
      refine tl_e rfl (e_store rfl rfl (by rfl) (by rfl) inferInstance inferInstance inferInstance ?_)
      refine tl_nil (.then_normal ?_)
      refine .sub (F' := [(6, _)]) (.cons rfl .nil) ?_
      refine x_seq (x_region ?_)
      refine tl_y rfl (y_move (v := .int _ _) rfl) ?_
      refine tl_y rfl (y_assign (v := .int _ _) rfl) ?_
      refine tl_nil (.then_normal ?_)
      refine x_ret (.dropTo (rsL p q (saveRes S s (bytesC { x with retired := true } head)).1.2 (atR (saveRes S s (bytesC { x with retired := true } head)).1.2) (saveRes S s (bytesC { x with retired := true } head)).1.2.num A3 l3 c3 :: rL q r3 (saveRes S s (bytesC { x with retired := true } head)).1.1 (E3 ++ (rcL k true { x with retired := true } HA hl hc (some ⟨p, 0, none⟩) :: R))) inferInstance (ret1 rfl rfl (hM2.trans hM3) (by
  rw [hR, if_neg (by simp [hc2])]
  exact ⟨.mk hd3 hE3 hm3 hb3, by rw [hc2]⟩)))
    ·
      refine x_skip (.then_normal ?_)
      refine .sub (F' := [(6, _)]) (.cons rfl .nil) ?_
      refine x_seq (x_region ?_)
      refine tl_y rfl (y_move (v := .int _ _) rfl) ?_
      refine tl_y rfl (y_assign (v := .int _ _) rfl) ?_
      refine tl_nil (.then_normal ?_)
      refine x_ret (.dropTo (rsL p q (saveRes S s (bytesC { x with retired := true } head)).1.2 (atR (saveRes S s (bytesC { x with retired := true } head)).1.2) (saveRes S s (bytesC { x with retired := true } head)).1.2.num A3 l3 c3 :: rL q r3 (saveRes S s (bytesC { x with retired := true } head)).1.1 (E3 ++ (rcL k true x HA hl hc (some ⟨p, 0, none⟩) :: R))) inferInstance (ret1 rfl rfl (hM2.trans hM3) (by
  rw [hR, if_pos hc2]
  exact ⟨.mk hd3 hE3 hm3 hb3, rfl⟩)))
end
end Go.Proofs.YtbgdjdhbejbhkaaDoor
