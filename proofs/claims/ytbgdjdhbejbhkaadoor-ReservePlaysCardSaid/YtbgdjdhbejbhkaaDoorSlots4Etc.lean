/-
Contracts of functions, each proved by a walk through its code.
-/
import Derived.Test.YtbgdjdhbejbhkaaDoorSlots2Etc
import Derived.Test.YtbgdjdhbejbhkaaDoorDisk4Etc
set_option linter.unusedVariables false
set_option linter.unusedSimpArgs false
namespace Go.Proofs.YtbgdjdhbejbhkaaDoor
open Go Go.Eng
theorem saveGo_stuck {S : DS} {a : Nat} {all : List UInt8} {k : Nat} (h : (saveGo S a all k).2 ≠ 0) : ∀ j, saveGo S a all (k + j) = saveGo S a all k
  | 0 => rfl
  | j + 1 => by
    have ih := saveGo_stuck h j
    rw [show k + (j + 1) = (k + j) + 1 from rfl, saveGo, ih, if_pos h]
section
variable {G : World} {M : Mem} {L R : Own} {p d : Nat} {r : DRep} {S : DS} {s : SS} {A0 : Option Addr} {l0 c0 : Nat}
theorem sNew2_spec (h : IsDisk M r S) (first n : Int) :
    Con Tryd.prog 21 #[.pointer (some ⟨d, 0, none⟩), .int .i64 first, .int .i64 n] G M (dL d r S R)
      (fun v M' L' => if 1 ≤ n ∧ n ≤ 8 ∧ 0 ≤ first ∧ first + 2 * n ≤ S.sure.length then ∃ p, v = .tuple #[.pointer (some ⟨p, 0, none⟩), .int .i64 0] ∧ SK p d S ⟨first.toNat, n.toNat, 0, 0, []⟩ R M' L' else v = .tuple #[.pointer none, .int .i64 1] ∧ ∃ r', IsDisk M' r' S ∧ L' = dL d r' S R) noPanic := by
  have hsz := h.sz
  have hsn := h.sn
  refine enter (args := [_, _, _]) (fn := Tryd.f21) ⟨Tryd.func21, rfl, by kernel_rfl, by kernel_rfl⟩ 33 rfl ?_
  refine x_seq (x_region ?_)
  refine tl_y rfl (y_assign rfl) ?_
  refine tl_y rfl (y_assign rfl) ?_
  refine tl_nil (.then_normal ?_)
  refine x_seq (x_seq (x_region ?_))
  refine tl_y rfl (y_move (v := .int _ _) rfl) ?_
  refine tl_y rfl (y_lss rfl rfl) ?_
  refine tl_y rfl (y_move (v := .bool _) rfl) ?_
  refine tl_cases (s := 10) rfl (fun hk1 => ?_) (fun hk1 => ?_)
  ·
    refine tl_skip rfl ?_
    refine tl_skip rfl ?_
    refine tl_y rfl (y_pickT rfl rfl) ?_
    refine tl_y rfl (y_move (v := .bool _) rfl) ?_
    refine tl_skip rfl ?_
    refine tl_skip rfl ?_
    refine tl_y rfl (y_pickT rfl rfl) ?_
    refine tl_y rfl (y_move (v := .bool _) rfl) ?_
    refine tl_skip rfl ?_
    refine tl_skip rfl ?_
    refine tl_skip rfl ?_
    refine tl_skip rfl ?_
    refine tl_skip rfl ?_
    refine tl_skip rfl ?_
    refine tl_skip rfl ?_
    refine tl_skip rfl ?_
    refine tl_y rfl (y_pickT rfl rfl) ?_
    refine tl_nil (.then_normal ?_)
    refine .sub (F' := [(0, _), (1, _), (2, _), (27, _)]) (.cons rfl (.cons rfl (.cons rfl (.cons rfl .nil)))) ?_
    refine x_true rfl rfl ?_
    refine x_seq (x_region ?_)
    refine tl_y rfl (y_assign rfl) ?_
    refine tl_y rfl (y_assign rfl) ?_
    refine tl_nil (.then_normal ?_)
    refine .sub (F' := [(6, _), (7, _)]) (.cons rfl (.cons rfl .nil)) ?_
    refine x_ret (.then_ret (ret2 rfl rfl rfl (Le.refl _) (by rw [if_neg (by omega)]; exact ⟨rfl, r, h, rfl⟩)))
  ·
    refine tl_y rfl (y_move (v := .int _ _) rfl) ?_
    refine tl_y rfl (y_gtr rfl rfl) ?_
    refine tl_y rfl (y_pickF rfl rfl) ?_
    refine tl_y rfl (y_move (v := .bool _) rfl) ?_
    refine tl_cases (s := 14) rfl (fun hk2 => ?_) (fun hk2 => ?_)
    ·
      refine tl_skip rfl ?_
      refine tl_skip rfl ?_
      refine tl_y rfl (y_pickT rfl rfl) ?_
      refine tl_y rfl (y_move (v := .bool _) rfl) ?_
      refine tl_skip rfl ?_
      refine tl_skip rfl ?_
      refine tl_skip rfl ?_
      refine tl_skip rfl ?_
      refine tl_skip rfl ?_
      refine tl_skip rfl ?_
      refine tl_skip rfl ?_
      refine tl_skip rfl ?_
      refine tl_y rfl (y_pickT rfl rfl) ?_
      refine tl_nil (.then_normal ?_)
      refine .sub (F' := [(0, _), (1, _), (2, _), (27, _)]) (.cons rfl (.cons rfl (.cons rfl (.cons rfl .nil)))) ?_
      refine x_true rfl rfl ?_
      refine x_seq (x_region ?_)
      refine tl_y rfl (y_assign rfl) ?_
      refine tl_y rfl (y_assign rfl) ?_
      refine tl_nil (.then_normal ?_)
      refine .sub (F' := [(6, _), (7, _)]) (.cons rfl (.cons rfl .nil)) ?_
      refine x_ret (.then_ret (ret2 rfl rfl rfl (Le.refl _) (by rw [if_neg (by omega)]; exact ⟨rfl, r, h, rfl⟩)))
    ·
      refine tl_y rfl (y_move (v := .int _ _) rfl) ?_
      refine tl_y rfl (y_lss rfl rfl) ?_
      refine tl_y rfl (y_pickF rfl rfl) ?_
      refine tl_y rfl (y_move (v := .bool _) rfl) ?_
      refine tl_cases (s := 18) rfl (fun hk3 => ?_) (fun hk3 => ?_)
      ·
        refine tl_skip rfl ?_
        refine tl_skip rfl ?_
        refine tl_skip rfl ?_
        refine tl_skip rfl ?_
        refine tl_skip rfl ?_
        refine tl_skip rfl ?_
        refine tl_skip rfl ?_
        refine tl_skip rfl ?_
        refine tl_y rfl (y_pickT rfl rfl) ?_
        refine tl_nil (.then_normal ?_)
        refine .sub (F' := [(0, _), (1, _), (2, _), (27, _)]) (.cons rfl (.cons rfl (.cons rfl (.cons rfl .nil)))) ?_
        refine x_true rfl rfl ?_
        refine x_seq (x_region ?_)
        refine tl_y rfl (y_assign rfl) ?_
        refine tl_y rfl (y_assign rfl) ?_
        refine tl_nil (.then_normal ?_)
        refine .sub (F' := [(6, _), (7, _)]) (.cons rfl (.cons rfl .nil)) ?_
        refine x_ret (.then_ret (ret2 rfl rfl rfl (Le.refl _) (by rw [if_neg (by omega)]; exact ⟨rfl, r, h, rfl⟩)))
      ·
        refine tl_y rfl (y_move (v := .int _ _) rfl) ?_
        refine tl_y rfl (y_move (v := .pointer _) rfl) ?_
        refine tl_e rfl (e_call' rfl (Sure_spec h) ?_)
        rintro _ M1 _ hM1 ⟨rfl, A1, n1, c1, vs1, rfl, hA1, hb1⟩
        have hn1 := hA1.len
        have hn2 := hb1.len
        obtain rfl : n1 = S.sure.length := by omega
        refine tl_y rfl (y_len rfl) ?_
        refine tl_y rfl (y_move (v := .int _ _) rfl) ?_
        refine tl_y rfl (y_mulI rfl rfl (by omega)) ?_
        refine tl_y rfl (y_subI rfl rfl (by omega)) ?_
        refine tl_y rfl (y_gtr rfl rfl) ?_
        refine tl_y rfl (y_pickF rfl rfl) ?_
        refine tl_nil (.then_normal ?_)
        refine .sub (F' := [(0, _), (1, _), (2, _), (27, _)]) (.cons rfl (.cons rfl (.cons rfl (.cons rfl .nil)))) ?_
        refine x_cond rfl (fun hc1 => ?_) (fun hc1 => ?_)
        ·
          refine x_seq (x_region ?_)
          refine tl_y rfl (y_assign rfl) ?_
          refine tl_y rfl (y_assign rfl) ?_
          refine tl_nil (.then_normal ?_)
          refine .sub (F' := [(6, _), (7, _)]) (.cons rfl (.cons rfl .nil)) ?_
          refine x_ret (.then_ret (ret2 rfl rfl rfl hM1 (by rw [if_neg (by omega)]; exact ⟨rfl, r, h.mono hM1, rfl⟩)))
        ·
          obtain ⟨f, rfl⟩ : ∃ f : Nat, first = f := ⟨first.toNat, by omega⟩
          obtain ⟨n, rfl⟩ : ∃ k : Nat, n = k := ⟨n.toNat, by omega⟩
          refine x_skip (.then_normal ?_)
          refine x_seq (x_region ?_)
          refine tl_y rfl (y_move (v := .pointer _) rfl) ?_
          refine tl_y rfl (y_move (v := .int _ _) rfl) ?_
          refine tl_y rfl (y_move (v := .int _ _) rfl) ?_
          refine tl_y rfl (y_build rfl) ?_
          refine tl_e rfl (e_box rfl (fun b1 => ?_))
          refine tl_y rfl (y_assign (v := .pointer _) rfl) ?_
          refine tl_y rfl (y_assign rfl) ?_
          refine tl_nil (.then_normal ?_)
          refine .sub (F' := [(6, _), (7, _)]) (.cons rfl (.cons rfl .nil)) ?_
          refine x_ret (.eqL (L' := sL b1 d ⟨f, n, 0, 0, []⟩ none 0 0 :: dL d r S R) rfl (.to (dL d r S (sL b1 d ⟨f, n, 0, 0, []⟩ none 0 0 :: R)) inferInstance (ret2 rfl rfl rfl hM1 (by rw [if_pos (by omega)]; exact ⟨b1, rfl, r, none, 0, 0, h.mono hM1, Row.nil _ _, rfl⟩))))
abbrev sbox (x0 x1 x2 p : Nat) (num : UInt64) (to : Nat) (A : Option Addr) (l c : Nat) (R : Own) : Own :=
  (x2, .cells (List.toArray [.int .i64 to]) 3 (0, 0)) :: (x1, .cells (List.toArray [.int .u64 (num.toNat : Int), .slice A l c]) 136 (0, 0)) :: (x0, .cells (List.toArray [.pointer (some ⟨p, 0, none⟩)]) 36 (0, 0)) :: R
theorem Save1_spec (hg : ShaG M) (h : IsDisk M r S) (ok : OkS S s) {B : Nat} (hw : S.within B) (hB : B ≤ 1000000) (hb : Bytes M A0 l0 c0 s.b) {A : Option Addr} {l c : Nat} {b : List UInt8} (hr : Bytes M A l c b) (hbl : b.length + 28 ≤ 64 * s.n) {x0 x1 x2 be : Nat} {oe : Obj} :
    Con Tryd.prog 75 #[.pointer (some ⟨x0, 0, none⟩), .pointer (some ⟨x1, 0, none⟩), .pointer (some ⟨x2, 0, none⟩)] G M (dL d r S (sL p d s A0 l0 c0 :: (be, oe) :: sbox x0 x1 x2 p (s.num + 1) s.to A l c R))
      (fun v M' L' => (saveRes S s b).2 = 0 ∧ SK p d (saveRes S s b).1.1 (saveRes S s b).1.2 ((be, oe) :: sbox x0 x1 x2 p (s.num + 1) s.to A l c R) M' L')
      (fun ch M' L' => ch = wrongs (saveRes S s b).2 ∧ SK p d (saveRes S s b).1.1 (saveRes S s b).1.2 ((be, oe) :: sbox x0 x1 x2 p (s.num + 1) s.to A l c R) M' L') := by
  have hn := ok.n
  have hin := ok.in_
  have hsz := h.sz
  have hto : s.to ≤ 1 := by have := to_le s; have := ok.at_; omega
  have hmul : (s.to : Int) * (s.n : Int) = ((s.to * s.n : Nat) : Int) := by simp
  have hq := Nat.mul_le_mul_right s.n hto
  have hsv : saveRes S s b = if (laid S s b).2 ≠ 0 then (((laid S s b).1, s), (laid S s b).2) else if (flushRes (laid S s b).1).2 ≠ 0 then (((flushRes (laid S s b).1).1, s), (flushRes (laid S s b).1).2) else (((flushRes (laid S s b).1).1, s.saved b), 0) := by
    unfold saveRes; rw [if_neg (by omega)]
  have hla : laid S s b = saveGo S (s.first + s.to * s.n) (recB s.n (s.num + 1) b) s.n := rfl
  have hrl := recB_length (num := s.num + 1) hbl
  generalize hq' : s.to * s.n = q at hmul hq hla
  generalize hall : recB s.n (s.num + 1) b = all at hla hrl
  refine enter (args := [_, _, _]) (fn := Tryd.f75) ⟨Tryd.func75, rfl, by kernel_rfl, by kernel_rfl⟩ 56 rfl ?_
  refine x_seq (x_region ?_)
  refine tl_y rfl (y_load rfl rfl (.own inferInstance inferInstance)) ?_
  refine tl_y rfl (y_loadAgg rfl rfl (.own inferInstance inferInstance)) ?_
  refine tl_e rfl (e_call' rfl (Con.to (sL p d s A0 l0 c0 :: (d, .cells (List.toArray (dcells r S)) 134 (0, 0)) :: (r.E1 ++ (r.E2 ++ ((be, oe) :: sbox x0 x1 x2 p (s.num + 1) s.to A l c R)))) inferInstance (bytesOf_spec hg hn hr hbl)) ?_)
  rintro _ M1 _ hM1 ⟨rfl, A1, c1, rfl, hA1⟩
  rw [hall] at hA1
  have hc1le := hA1.le
  refine .to (dL d r S (sL p d s A0 l0 c0 :: (be, oe) :: sbox x0 x1 x2 p (s.num + 1) s.to A l c R)) inferInstance ?_
  refine tl_y rfl (y_assign (v := .slice _ _ _) rfl) ?_
  refine tl_nil (.then_normal ?_)
  refine x_seq (x_seq (x_region ?_))
  refine tl_y rfl (y_load rfl rfl (.own inferInstance inferInstance)) ?_
  refine tl_y rfl (y_nilCheck rfl) ?_
  refine tl_y rfl (y_fieldAddr rfl) ?_
  refine tl_y rfl (y_load rfl rfl (.own inferInstance inferInstance)) ?_
  refine tl_y rfl (y_move rfl) ?_
  refine tl_nil (.then_normal ?_)
  refine .sub (F' := [(0, _), (1, _), (2, _), (3, _), (11, _), (12, _)]) (.cons rfl (.cons rfl (.cons rfl (.cons rfl (.cons rfl (.cons rfl .nil)))))) ?_
  refine x_block ?_
  refine x_loop (I := fun m' F D M2 L2 => ∃ (k : Nat) (r2 : DRep), m' = s.n - k ∧ k ≤ s.n ∧ Le M1 M2 ∧ (saveGo S (s.first + q) all k).2 = 0 ∧ IsDisk M2 r2 (saveGo S (s.first + q) all k).1 ∧ D = [] ∧ L2 = dL d r2 (saveGo S (s.first + q) all k).1 (sL p d s A0 l0 c0 :: (be, oe) :: sbox x0 x1 x2 p (s.num + 1) s.to A l c R) ∧ F = [(0, .pointer (some ⟨x0, 0, none⟩)), (1, .pointer (some ⟨x1, 0, none⟩)), (2, .pointer (some ⟨x2, 0, none⟩)), (3, .slice A1 (64 * s.n) c1), (11, .int .i64 s.n), (12, .int .i64 k)]) (s.n) (F0 := [(0, _), (1, _), (2, _), (3, _), (11, _), (12, _)]) ?_ (.cons rfl (.cons rfl (.cons rfl (.cons rfl (.cons rfl (.cons rfl .nil)))))) ?_  -- slots [0, 1, 2, 3, 11, 12], written [12]
  · exact ⟨0, r, rfl, by omega, Le.refl _, rfl, h.mono hM1, rfl, rfl, rfl⟩
  rintro m _ _ M2 L2 ⟨k, r2, rfl, hk, hM2, h0, hd2, rfl, rfl, rfl⟩
  refine x_seq (x_region ?_)
  refine tl_y rfl (y_lss rfl rfl) ?_
  refine tl_nil (.then_normal ?_)
  refine x_seq ?_
  refine x_cond rfl (fun hc1 => ?_) (fun hc1 => ?_)
  ·
    have hkn : k < s.n := by omega
    have hw2 := saveGo_within hw (s.first + q) all k
    have hgo : saveGo S (s.first + q) all (k + 1) = writeRes (saveGo S (s.first + q) all k).1 ((s.first + q + k : Nat) : Int) ((all.drop (64 * k)).take 64) := by rw [saveGo, if_neg (by simp [h0])]
    have hrow : Bytes M2 (sl A1 ((k : Int) * 64).toNat c1 1) ((((k : Int) + 1) * 64).toNat - ((k : Int) * 64).toNat) (c1 - ((k : Int) * 64).toNat) ((all.drop (64 * k)).take 64) := by
      have h1 := Bytes.sub (hA1.mono hM2) (64 * k) (64 * (k + 1)) (by omega) (by omega)
      rw [show 64 * (k + 1) - 64 * k = 64 by omega] at h1
      rw [show ((k : Int) * 64).toNat = 64 * k by omega, show (((k : Int) + 1) * 64).toNat - 64 * k = 64 by omega]
      exact h1
    refine x_skip (.then_normal ?_)
    refine x_seq ?_
    refine x_block ?_
    refine x_seq (x_region ?_)
    refine tl_y rfl (y_move (v := .int _ _) rfl) ?_
    refine tl_y rfl (y_assign (v := .int _ _) rfl) ?_
    refine tl_nil (.then_normal ?_)
    refine x_draw0 26 ([(x2, .cells (List.toArray [.int .i64 s.to]) 3 (0, 0)), (x0, .cells (List.toArray [.pointer (some ⟨p, 0, none⟩)]) 36 (0, 0)), sL p d s A0 l0 c0]) Keeps.mem hmix rfl ?_
    refine to_y 0 rfl (by kernel_rfl) rfl (y_load rfl rfl (.own inferInstance inferInstance)) ?_
    refine to_p 1 rfl (by kernel_rfl) rfl (y_nilCheck rfl) ?_
    refine to_p 2 rfl (by kernel_rfl) rfl (y_fieldAddr rfl) ?_
    refine to_y 3 rfl (by kernel_rfl) rfl (y_load rfl rfl (.own inferInstance inferInstance)) ?_
    refine to_y 4 rfl (by kernel_rfl) rfl (y_load rfl rfl (.own inferInstance inferInstance)) ?_
    refine to_p 5 rfl (by kernel_rfl) rfl (y_nilCheck rfl) ?_
    refine to_p 6 rfl (by kernel_rfl) rfl (y_fieldAddr rfl) ?_
    refine to_y 7 rfl (by kernel_rfl) rfl (y_load rfl rfl (.own inferInstance inferInstance)) ?_
    refine to_y 8 rfl (by kernel_rfl) rfl (y_load rfl rfl (.own inferInstance inferInstance)) ?_
    refine to_y 9 rfl (by kernel_rfl) rfl (y_load rfl rfl (.own inferInstance inferInstance)) ?_
    refine to_p 10 rfl (by kernel_rfl) rfl (y_nilCheck rfl) ?_
    refine to_p 11 rfl (by kernel_rfl) rfl (y_fieldAddr rfl) ?_
    refine to_y 12 rfl (by kernel_rfl) rfl (y_load rfl rfl (.own inferInstance inferInstance)) ?_
    refine to_p 13 rfl (by kernel_rfl) rfl (y_mulI rfl rfl (by rw [hmul]; omega)) ?_
    rw [hmul]
    refine to_p 14 rfl (by kernel_rfl) rfl (y_addI rfl rfl (by omega)) ?_
    refine to_p 15 rfl (by kernel_rfl) rfl (y_move (v := .int _ _) rfl) ?_
    refine to_p 16 rfl (by kernel_rfl) rfl (y_addI rfl rfl (by omega)) ?_
    rw [show ((s.first : Int) + (q : Int)) + (k : Int) = ((s.first + q + k : Nat) : Int) by omega]
    refine to_p 17 rfl (by kernel_rfl) rfl (y_move (v := .slice _ _ _) rfl) ?_
    refine to_p 18 rfl (by kernel_rfl) rfl (y_move (v := .int _ _) rfl) ?_
    refine to_p 19 rfl (by kernel_rfl) rfl (y_mulI rfl rfl (by omega)) ?_
    refine to_p 20 rfl (by kernel_rfl) rfl (y_move (v := .int _ _) rfl) ?_
    refine to_p 21 rfl (by kernel_rfl) rfl (y_addI rfl rfl (by omega)) ?_
    refine to_p 22 rfl (by kernel_rfl) rfl (y_mulI rfl rfl (by omega)) ?_
    refine to_p 23 rfl (by kernel_rfl) rfl (y_sliceLH rfl rfl rfl (by omega) (by omega)) ?_
    refine to_e 24 rfl (by kernel_rfl) rfl (e_call' rfl (Write_spec hd2 (by have := hw2.1; have := hw2.2.1; omega) (by have := hw2.2.2; omega) hrow) ?_)
    rintro _ M3 _ hM3 ⟨⟨r3, hd3, rfl⟩, rfl⟩
    rw [← hgo] at hd3 ⊢
    refine ⟨⟨hM3, Keeps.mem⟩, ?_⟩
    refine to_e 25 rfl (by kernel_rfl) rfl (e_call rfl (well_spec _) (by
  rintro _ _ _ _ ⟨rfl, rfl, rfl, hne⟩
  refine .retA rfl (hM1.trans (hM2.trans hM3)) ?_
  have hst := saveGo_stuck hne (s.n - (k + 1))
  rw [show k + 1 + (s.n - (k + 1)) = s.n by omega, ← hla] at hst
  rw [← hst] at hd3 hne ⊢
  rw [hsv, if_pos hne]
  exact ⟨rfl, r3, A0, l0, c0, hd3, hb.mono (hM1.trans (hM2.trans hM3)), rfl⟩) ?_)
    rintro _ _ _ _ ⟨rfl, rfl, h1⟩
    refine ⟨⟨hM3, Keeps.mem⟩, ?_⟩
    refine to_nil (by kernel_rfl) (.block_normal (.then_normal ?_))
    refine .sub (F' := [(0, _), (1, _), (2, _), (3, _), (11, _), (12, _)]) (.cons rfl (.cons rfl (.cons rfl (.cons rfl (.cons rfl (.cons rfl .nil)))))) ?_
    refine x_region ?_
    refine tl_y rfl (y_addI rfl rfl (by omega)) ?_
    refine tl_y rfl (y_move (v := .int _ _) rfl) ?_
    refine tl_nil (.loop_next (m' := s.n - (k + 1)) (by omega) (F' := [(0, _), (1, _), (2, _), (3, _), (11, _), (12, _)]) (.cons rfl (.cons rfl (.cons rfl (.cons rfl (.cons rfl (.cons rfl .nil)))))) ?_)
    exact ⟨k + 1, r3, rfl, by omega, hM2.trans hM3, h1, hd3, rfl, rfl, rfl⟩
  ·
    obtain rfl : k = s.n := by omega
    rw [← hla] at h0 hd2 ⊢
    have hw2 : (laid S s b).1.within (B + s.n) := by rw [hla]; exact saveGo_within hw _ _ _
    have hm := hM1.trans hM2
    refine x_exit (.then_exit (.loop_exit (.block_exit (.then_normal ?_))))
    refine .sub (F' := [(0, _), (1, _), (2, _)]) (.cons rfl (.cons rfl (.cons rfl .nil))) ?_
    refine x_seq (x_region ?_)
    refine tl_y rfl (y_load rfl rfl (.own inferInstance inferInstance)) ?_
    refine tl_y rfl (y_nilCheck rfl) ?_
    refine tl_y rfl (y_fieldAddr rfl) ?_
    refine tl_y rfl (y_load rfl rfl (.own inferInstance inferInstance)) ?_
    refine tl_e rfl (e_call' rfl (Flush_spec hd2 (by have := hw2.1; have := hw2.2.1; omega) (by have := hw2.2.2; omega)) ?_)
    rintro _ M3 _ hM3 ⟨⟨r3, hd3, rfl⟩, rfl⟩
    replace hm := hm.trans hM3
    refine tl_e rfl (e_call rfl (well_spec _) (by
  rintro _ _ _ _ ⟨rfl, rfl, rfl, hne⟩
  refine .retA rfl hm ?_
  rw [hsv, if_neg (by simp [h0]), if_pos hne]
  exact ⟨rfl, r3, A0, l0, c0, hd3, hb.mono hm, rfl⟩) ?_)
    rintro _ _ _ _ ⟨rfl, rfl, h1⟩
    refine tl_nil (.then_normal ?_)
    refine .sub (F' := [(0, _), (1, _), (2, _)]) (.cons rfl (.cons rfl (.cons rfl .nil))) ?_
    refine x_region ?_
    refine tl_y rfl (y_load rfl rfl (.own inferInstance inferInstance)) ?_
    refine tl_y rfl (y_load rfl rfl (.own inferInstance inferInstance)) ?_
    refine tl_y rfl (y_load rfl rfl (.own inferInstance inferInstance)) ?_
    refine tl_y rfl (y_loadAgg rfl rfl (.own inferInstance inferInstance)) ?_
    refine tl_y rfl (y_nilCheck rfl) ?_
    refine tl_y rfl (y_fieldAddr rfl) ?_
    refine tl_e rfl (e_store rfl rfl (by rfl) (by rfl) inferInstance inferInstance inferInstance ?_)
    refine tl_y rfl (y_nilCheck rfl) ?_
    refine tl_y rfl (y_fieldAddr rfl) ?_
    refine tl_e rfl (e_store rfl rfl (by rfl) (by rfl) inferInstance inferInstance inferInstance ?_)
    refine tl_nil (.dropTo (dL d r3 (flushRes (laid S s b).1).1 (sL p d { s with at_ := s.to, num := s.num + 1, b := b } A l c :: (be, oe) :: sbox x0 x1 x2 p (s.num + 1) s.to A l c R)) inferInstance (end0 rfl hm (by
  rw [hsv, if_neg (by simp [h0]), if_neg (by simp [h1])]
  exact ⟨rfl, r3, A, l, c, hd3, hr.mono hm, rfl⟩)))
theorem Save_spec (hg : ShaG M) (h : IsDisk M r S) (ok : OkS S s) {B : Nat} (hw : S.within B) (hB : B ≤ 1000000) (hb : Bytes M A0 l0 c0 s.b) {A : Option Addr} {l c : Nat} {b : List UInt8} (hr : Bytes M A l c b) :
    Con Tryd.prog 26 #[.pointer (some ⟨p, 0, none⟩), .slice A l c] G M (dL d r S (sL p d s A0 l0 c0 :: R))
      (fun v M' L' => SK p d (saveRes S s b).1.1 (saveRes S s b).1.2 R M' L' ∧ v = .int .i64 (saveRes S s b).2) noPanic := by
  have hn := ok.n
  have hl := hr.size
  have hat := ok.at_
  have hroom : (if (s.n : Int) < 1 ∨ 8 < (s.n : Int) then 0 else 64 * (s.n : Int) - 28) = 64 * (s.n : Int) - 28 := by rw [if_neg (by omega)]
  refine enter (args := [_, _]) (fn := Tryd.f26) ⟨Tryd.func26, rfl, by kernel_rfl, by kernel_rfl⟩ 37 rfl ?_
  refine x_seq (x_region ?_)
  refine tl_e rfl (e_box rfl (fun b1 => ?_))
  refine tl_y rfl (y_assign rfl) ?_
  refine tl_nil (.then_normal ?_)
  refine x_seq (x_seq (x_region ?_))
  refine tl_y rfl (y_move (v := .slice _ _ _) rfl) ?_
  refine tl_y rfl (y_len rfl) ?_
  refine tl_y rfl (y_load rfl rfl (.own inferInstance inferInstance)) ?_
  refine tl_y rfl (y_nilCheck rfl) ?_
  refine tl_y rfl (y_fieldAddr rfl) ?_
  refine tl_y rfl (y_load rfl rfl (.own inferInstance inferInstance)) ?_
  refine tl_e rfl (e_call' rfl (Room_spec (s.n : Int)) ?_)
  rintro _ _ _ _ ⟨rfl, rfl, rfl⟩
  rw [hroom]
  refine tl_y rfl (y_gtr rfl rfl) ?_
  refine tl_nil (.then_normal ?_)
  refine .sub (F' := [(1, _), (2, _), (14, _)]) (.cons rfl (.cons rfl (.cons rfl .nil))) ?_
  refine x_cond rfl (fun hc1 => ?_) (fun hc1 => ?_)
  ·
    refine x_seq (x_region ?_)
    refine tl_y rfl (y_assign rfl) ?_
    refine tl_nil (.then_normal ?_)
    refine x_ret (.then_ret (.dropTo (dL d r S (sL p d s A0 l0 c0 :: R)) inferInstance (ret1 rfl rfl (Le.refl _) (by
  rw [show saveRes S s b = ((S, s), 1) by rw [saveRes, if_pos (by omega)]]
  exact ⟨⟨r, A0, l0, c0, h, hb, rfl⟩, rfl⟩))))
  ·
    refine x_skip (.then_normal ?_)
    refine x_seq ?_
    refine x_meet (I := fun F D M1 L1 => D = [] ∧ Le M M1 ∧ ∃ x1 x2 A1 c1, Bytes M1 A1 l c1 b ∧ PermTo L1 ((x2, .cells (List.toArray [.int .i64 0]) 3 (0, 0)) :: (x1, .cells (List.toArray [.int .u64 ((s.num + 1).toNat : Int), .slice A1 l c1]) 136 (0, 0)) :: (b1, .cells (List.toArray [.pointer (some ⟨p, 0, none⟩)]) 36 (0, 0)) :: dL d r S (sL p d s A0 l0 c0 :: R)) ∧ F = [(2, .pointer (some ⟨b1, 0, none⟩)), (5, .pointer (some ⟨x1, 0, none⟩)), (6, .pointer (some ⟨x2, 0, none⟩))]) ?_ (fun Jd3 => ?_)
    ·
      rintro _ _ M1 L1 ⟨rfl, hM1, x1, x2, A1, c1, hA1, hp, rfl⟩  -- slots [2, 5, 6]
      refine .to _ hp ?_
      refine x_join (I := fun F D M2 L2 => D = [] ∧ M1 = M2 ∧ L2 = (x2, .cells (List.toArray [.int .i64 s.to]) 3 (0, 0)) :: (x1, .cells (List.toArray [.int .u64 ((s.num + 1).toNat : Int), .slice A1 l c1]) 136 (0, 0)) :: (b1, .cells (List.toArray [.pointer (some ⟨p, 0, none⟩)]) 36 (0, 0)) :: dL d r S (sL p d s A0 l0 c0 :: R) ∧ F = [(2, .pointer (some ⟨b1, 0, none⟩)), (5, .pointer (some ⟨x1, 0, none⟩)), (6, .pointer (some ⟨x2, 0, none⟩))]) ?_ (fun Jj1 => ?_)
      ·
        rintro _ _ M2 L2 ⟨rfl, rfl, rfl, rfl⟩  -- slots [2, 5, 6]
        refine x_seq (x_region ?_)
        refine tl_y rfl (y_makeFunc rfl rfl) ?_
        refine tl_e rfl (e_call' rfl (caught_spec (first := []) (cap := [.pointer (some ⟨b1, 0, none⟩), .pointer (some ⟨x1, 0, none⟩), .pointer (some ⟨x2, 0, none⟩)])
  (K := fun M' L' => (saveRes S s b).2 = 0 ∧ SK p d (saveRes S s b).1.1 (saveRes S s b).1.2 (sbox b1 x1 x2 p (s.num + 1) s.to A1 l c1 R) M' L')
  (Kc := fun e M' L' => e = (saveRes S s b).2 ∧ SK p d (saveRes S s b).1.1 (saveRes S s b).1.2 (sbox b1 x1 x2 p (s.num + 1) s.to A1 l c1 R) M' L')
  (fun be oe => (Con.to (dL d r S (sL p d s A0 l0 c0 :: (be, oe) :: sbox b1 x1 x2 p (s.num + 1) s.to A1 l c1 R)) inferInstance (Save1_spec (hg.mono hM1) (h.mono hM1) ok hw hB (hb.mono hM1) hA1 (by omega))).postP
  (fun v M' L' _ ⟨h0, r', A', l', c', k1, k2, e⟩ => ⟨(be, oe) :: dL d r' (saveRes S s b).1.1 (sL p d (saveRes S s b).1.2 A' l' c' :: sbox b1 x1 x2 p (s.num + 1) s.to A1 l c1 R), by rw [e]; infer_instance, _, rfl, h0, r', A', l', c', k1, k2, rfl⟩)
  (fun ch M' L' _ ⟨h0, r', A', l', c', k1, k2, e⟩ => ⟨(be, oe) :: dL d r' (saveRes S s b).1.1 (sL p d (saveRes S s b).1.2 A' l' c' :: sbox b1 x1 x2 p (s.num + 1) s.to A1 l c1 R), by rw [e]; infer_instance, _, _, h0, rfl, rfl, r', A', l', c', k1, k2, rfl⟩))) ?_)
        rintro v3 M3 L3 hM3 hv
        obtain ⟨e, rfl, he, r3, A3, l3, c3, hd3, hb3, rfl⟩ : ∃ e, v3 = Value.int .i64 e ∧ e = (saveRes S s b).2 ∧ SK p d (saveRes S s b).1.1 (saveRes S s b).1.2 (sbox b1 x1 x2 p (s.num + 1) s.to A1 l c1 R) M3 L3 := by
          rcases hv with ⟨rfl, h0, hk⟩ | ⟨e, rfl, h0, hk⟩
          · exact ⟨0, rfl, h0.symm, hk⟩
          · exact ⟨e, rfl, h0, hk⟩
        subst he
        refine tl_y rfl (y_assign (v := .int _ _) rfl) ?_
        refine tl_nil (.then_normal ?_)
        refine .sub (F' := [(4, _)]) (.cons rfl .nil) ?_
        refine x_ret (.dropTo (dL d r3 (saveRes S s b).1.1 (sL p d (saveRes S s b).1.2 A3 l3 c3 :: R)) inferInstance (ret1 rfl rfl (hM1.trans hM3) ⟨⟨r3, A3, l3, c3, hd3, hb3, rfl⟩, rfl⟩))
      ·
        refine x_seq (x_region ?_)
        refine tl_y rfl (y_load rfl rfl (.own inferInstance inferInstance)) ?_
        refine tl_y rfl (y_nilCheck rfl) ?_
        refine tl_y rfl (y_fieldAddr rfl) ?_
        refine tl_y rfl (y_fieldAddr rfl) ?_
        refine tl_y rfl (y_load rfl rfl (.own inferInstance inferInstance)) ?_
        refine tl_y rfl (y_gtr rfl rfl) ?_
        refine tl_nil (.then_normal ?_)
        refine .sub (F' := [(2, _), (5, _), (6, _), (29, _)]) (.cons rfl (.cons rfl (.cons rfl (.cons rfl .nil)))) ?_
        refine x_cond rfl (fun hc2 => ?_) (fun hc2 => ?_)
        ·
          refine x_region ?_
          refine tl_y rfl (y_load rfl rfl (.own inferInstance inferInstance)) ?_
          refine tl_y rfl (y_nilCheck rfl) ?_
          refine tl_y rfl (y_fieldAddr rfl) ?_
          refine tl_y rfl (y_load rfl rfl (.own inferInstance inferInstance)) ?_
          refine tl_y rfl (y_subI rfl rfl (by omega)) ?_
          refine tl_e rfl (e_store rfl rfl (by rfl) (by rfl) inferInstance inferInstance inferInstance ?_)
          refine tl_nil (.then_normal (.sub (F' := [(2, _), (5, _), (6, _)]) (.cons rfl (.cons rfl (.cons rfl .nil))) (Jj1 _ _ _ _ ?_)))
          exact ⟨rfl, rfl, by rw [show s.to = 1 - s.at_ by rw [SS.to, if_pos (by omega)], show (1 : Int) - (s.at_ : Int) = ((1 - s.at_ : Nat) : Int) by omega], rfl⟩
        ·
          refine x_skip (.then_normal (.sub (F' := [(2, _), (5, _), (6, _)]) (.cons rfl (.cons rfl (.cons rfl .nil))) (Jj1 _ _ _ _ ?_)))
          exact ⟨rfl, rfl, by rw [show s.to = 0 by rw [SS.to, if_neg (by omega)]]; rfl, rfl⟩
    ·
      refine x_draw 11 hmix rfl ?_
      refine to_y 0 rfl (by kernel_rfl) rfl (y_load rfl rfl (.own inferInstance inferInstance)) ?_
      refine to_p 1 rfl (by kernel_rfl) rfl (y_nilCheck rfl) ?_
      refine to_p 2 rfl (by kernel_rfl) rfl (y_fieldAddr rfl) ?_
      refine to_p 3 rfl (by kernel_rfl) rfl (y_fieldAddr rfl) ?_
      refine to_y 4 rfl (by kernel_rfl) rfl (y_load rfl rfl (.own inferInstance inferInstance)) ?_
      refine to_p 5 rfl (by kernel_rfl) rfl (y_add64 (b := 1) rfl rfl) ?_
      refine to_p 6 rfl (by kernel_rfl) rfl (y_move (v := .slice _ _ _) rfl) ?_
      refine to_three 7 9 10 (by kernel_rfl) ?_ ?_ ?_
      ·
        refine two_e 7 rfl rfl (e_call' rfl (bytesClone_spec hr (by omega)) ?_)
        rintro _ M9 _ hM9 ⟨rfl, A9, c9, rfl, hA9⟩
        refine ⟨⟨(by first | exact Le.refl _ | assumption), Keeps.mem⟩, ?_⟩
        refine to_p 8 rfl (by kernel_rfl) rfl (y_build rfl) ?_
        refine to_two 9 10 (by kernel_rfl) ?_ ?_
        ·
          refine two_e 9 rfl rfl (e_alloc (fun b2 => ?_))
          refine ⟨⟨(by first | exact Le.refl _ | assumption), Keeps.mem⟩, ?_⟩
          refine to_e 10 rfl (by kernel_rfl) rfl (e_alloc (fun b3 => ?_))
          refine ⟨⟨(by first | exact Le.refl _ | assumption), Keeps.mem⟩, ?_⟩
          refine to_t 11 rfl (by kernel_rfl) (by kernel_rfl) rfl (e_store rfl rfl (by rfl) (by rfl) inferInstance inferInstance inferInstance ?_)
          refine to_t 12 rfl (by kernel_rfl) (by kernel_rfl) rfl (e_store rfl rfl (by rfl) (by rfl) inferInstance inferInstance inferInstance ?_)
          refine to_nil (by kernel_rfl) (.then_normal (.sub (F' := [(2, _), (5, _), (6, _)]) (.cons rfl (.cons rfl (.cons rfl .nil))) (Jd3 _ _ _ _ ?_)))
          exact ⟨rfl, hM9, _, _, _, _, hA9, inferInstance, rfl⟩
        ·
          refine two_e 10 rfl rfl (e_alloc (fun b4 => ?_))
          refine ⟨⟨(by first | exact Le.refl _ | assumption), Keeps.mem⟩, ?_⟩
          refine to_e 9 rfl (by kernel_rfl) rfl (e_alloc (fun b5 => ?_))
          refine ⟨⟨(by first | exact Le.refl _ | assumption), Keeps.mem⟩, ?_⟩
          refine to_t 11 rfl (by kernel_rfl) (by kernel_rfl) rfl (e_store rfl rfl (by rfl) (by rfl) inferInstance inferInstance inferInstance ?_)
          refine to_t 12 rfl (by kernel_rfl) (by kernel_rfl) rfl (e_store rfl rfl (by rfl) (by rfl) inferInstance inferInstance inferInstance ?_)
          refine to_nil (by kernel_rfl) (.then_normal (.sub (F' := [(2, _), (5, _), (6, _)]) (.cons rfl (.cons rfl (.cons rfl .nil))) (Jd3 _ _ _ _ ?_)))
          exact ⟨rfl, hM9, _, _, _, _, hA9, inferInstance, rfl⟩
      ·
        refine two_e 9 rfl rfl (e_alloc (fun b6 => ?_))
        refine ⟨⟨(by first | exact Le.refl _ | assumption), Keeps.mem⟩, ?_⟩
        refine to_two 7 10 (by kernel_rfl) ?_ ?_
        ·
          refine two_e 7 rfl rfl (e_call' rfl (bytesClone_spec hr (by omega)) ?_)
          rintro _ M9 _ hM9 ⟨rfl, A9, c9, rfl, hA9⟩
          refine ⟨⟨(by first | exact Le.refl _ | assumption), Keeps.mem⟩, ?_⟩
          refine to_p 8 rfl (by kernel_rfl) rfl (y_build rfl) ?_
          refine to_e 10 rfl (by kernel_rfl) rfl (e_alloc (fun b7 => ?_))
          refine ⟨⟨(by first | exact Le.refl _ | assumption), Keeps.mem⟩, ?_⟩
          refine to_t 11 rfl (by kernel_rfl) (by kernel_rfl) rfl (e_store rfl rfl (by rfl) (by rfl) inferInstance inferInstance inferInstance ?_)
          refine to_t 12 rfl (by kernel_rfl) (by kernel_rfl) rfl (e_store rfl rfl (by rfl) (by rfl) inferInstance inferInstance inferInstance ?_)
          refine to_nil (by kernel_rfl) (.then_normal (.sub (F' := [(2, _), (5, _), (6, _)]) (.cons rfl (.cons rfl (.cons rfl .nil))) (Jd3 _ _ _ _ ?_)))
          exact ⟨rfl, hM9, _, _, _, _, hA9, inferInstance, rfl⟩
        ·
          refine two_e 10 rfl rfl (e_alloc (fun b8 => ?_))
          refine ⟨⟨(by first | exact Le.refl _ | assumption), Keeps.mem⟩, ?_⟩
          refine to_e 7 rfl (by kernel_rfl) rfl (e_call' rfl (bytesClone_spec hr (by omega)) ?_)
          rintro _ M9 _ hM9 ⟨rfl, A9, c9, rfl, hA9⟩
          refine ⟨⟨(by first | exact Le.refl _ | assumption), Keeps.mem⟩, ?_⟩
          refine to_p 8 rfl (by kernel_rfl) rfl (y_build rfl) ?_
          refine to_t 11 rfl (by kernel_rfl) (by kernel_rfl) rfl (e_store rfl rfl (by rfl) (by rfl) inferInstance inferInstance inferInstance ?_)
          refine to_t 12 rfl (by kernel_rfl) (by kernel_rfl) rfl (e_store rfl rfl (by rfl) (by rfl) inferInstance inferInstance inferInstance ?_)
          refine to_nil (by kernel_rfl) (.then_normal (.sub (F' := [(2, _), (5, _), (6, _)]) (.cons rfl (.cons rfl (.cons rfl .nil))) (Jd3 _ _ _ _ ?_)))
          exact ⟨rfl, hM9, _, _, _, _, hA9, inferInstance, rfl⟩
      ·
        refine two_e 10 rfl rfl (e_alloc (fun b9 => ?_))
        refine ⟨⟨(by first | exact Le.refl _ | assumption), Keeps.mem⟩, ?_⟩
        refine to_two 7 9 (by kernel_rfl) ?_ ?_
        ·
          refine two_e 7 rfl rfl (e_call' rfl (bytesClone_spec hr (by omega)) ?_)
          rintro _ M9 _ hM9 ⟨rfl, A9, c9, rfl, hA9⟩
          refine ⟨⟨(by first | exact Le.refl _ | assumption), Keeps.mem⟩, ?_⟩
          refine to_p 8 rfl (by kernel_rfl) rfl (y_build rfl) ?_
          refine to_e 9 rfl (by kernel_rfl) rfl (e_alloc (fun b10 => ?_))
          refine ⟨⟨(by first | exact Le.refl _ | assumption), Keeps.mem⟩, ?_⟩
          refine to_t 11 rfl (by kernel_rfl) (by kernel_rfl) rfl (e_store rfl rfl (by rfl) (by rfl) inferInstance inferInstance inferInstance ?_)
          refine to_t 12 rfl (by kernel_rfl) (by kernel_rfl) rfl (e_store rfl rfl (by rfl) (by rfl) inferInstance inferInstance inferInstance ?_)
          refine to_nil (by kernel_rfl) (.then_normal (.sub (F' := [(2, _), (5, _), (6, _)]) (.cons rfl (.cons rfl (.cons rfl .nil))) (Jd3 _ _ _ _ ?_)))
          exact ⟨rfl, hM9, _, _, _, _, hA9, inferInstance, rfl⟩
        ·
          refine two_e 9 rfl rfl (e_alloc (fun b11 => ?_))
          refine ⟨⟨(by first | exact Le.refl _ | assumption), Keeps.mem⟩, ?_⟩
          refine to_e 7 rfl (by kernel_rfl) rfl (e_call' rfl (bytesClone_spec hr (by omega)) ?_)
          rintro _ M9 _ hM9 ⟨rfl, A9, c9, rfl, hA9⟩
          refine ⟨⟨(by first | exact Le.refl _ | assumption), Keeps.mem⟩, ?_⟩
          refine to_p 8 rfl (by kernel_rfl) rfl (y_build rfl) ?_
          refine to_t 11 rfl (by kernel_rfl) (by kernel_rfl) rfl (e_store rfl rfl (by rfl) (by rfl) inferInstance inferInstance inferInstance ?_)
          refine to_t 12 rfl (by kernel_rfl) (by kernel_rfl) rfl (e_store rfl rfl (by rfl) (by rfl) inferInstance inferInstance inferInstance ?_)
          refine to_nil (by kernel_rfl) (.then_normal (.sub (F' := [(2, _), (5, _), (6, _)]) (.cons rfl (.cons rfl (.cons rfl .nil))) (Jd3 _ _ _ _ ?_)))
          exact ⟨rfl, hM9, _, _, _, _, hA9, inferInstance, rfl⟩
end
end Go.Proofs.YtbgdjdhbejbhkaaDoor
set_option linter.unusedVariables false
set_option linter.unusedSimpArgs false
namespace Go.Proofs.YtbgdjdhbejbhkaaDoor
open Go Go.Eng
section
variable {G : World} {M : Mem} {L R : Own}
theorem may_spec (x : Cn) {A : Option Addr} {n c : Nat} :
    Con Tryd.prog 91 #[.agg (List.toArray (ccells x)), .slice A n c] G M L (fun v M' L' => M = M' ∧ L = L' ∧ v = .bool (mayB x n)) noPanic := by
  refine enter (args := [_, _]) (fn := Tryd.f91) ⟨Tryd.func91, rfl, by kernel_rfl, by kernel_rfl⟩ 35 rfl ?_
  refine x_seq (x_region ?_)
  refine tl_e rfl (e_box rfl (fun b1 => ?_))
  refine tl_y rfl (y_assign rfl) ?_
  refine tl_nil (.then_normal ?_)
  refine x_seq (x_region ?_)
  refine tl_y rfl (y_fieldAddr rfl) ?_
  refine tl_y rfl (y_load rfl rfl (.own inferInstance inferInstance)) ?_
  refine tl_y rfl (y_geq rfl rfl) ?_
  refine tl_y rfl (y_move (v := .bool _) rfl) ?_
  refine tl_cases (s := 8) rfl (fun hk1 => ?_) (fun hk1 => ?_)
  ·
    refine tl_y rfl (y_fieldAddr rfl) ?_
    refine tl_y rfl (y_load rfl rfl (.own inferInstance inferInstance)) ?_
    refine tl_y rfl (y_leq rfl rfl) ?_
    refine tl_y rfl (y_pickT rfl rfl) ?_
    refine tl_y rfl (y_move (v := .bool _) rfl) ?_
    refine tl_cases (s := 13) rfl (fun hk2 => ?_) (fun hk2 => ?_)
    ·
      refine tl_y rfl (y_fieldAddr rfl) ?_
      refine tl_y rfl (y_load rfl rfl (.own inferInstance inferInstance)) ?_
      refine tl_y rfl (y_geq rfl rfl) ?_
      refine tl_y rfl (y_pickT rfl rfl) ?_
      refine tl_y rfl (y_move (v := .bool _) rfl) ?_
      refine tl_cases (s := 18) rfl (fun hk3 => ?_) (fun hk3 => ?_)
      ·
        refine tl_y rfl (y_fieldAddr rfl) ?_
        refine tl_y rfl (y_load rfl rfl (.own inferInstance inferInstance)) ?_
        refine tl_y rfl (y_leq rfl rfl) ?_
        refine tl_y rfl (y_pickT rfl rfl) ?_
        refine tl_y rfl (y_move (v := .bool _) rfl) ?_
        refine tl_cases (s := 23) rfl (fun hk4 => ?_) (fun hk4 => ?_)
        ·
          refine tl_y rfl (y_fieldAddr rfl) ?_
          refine tl_y rfl (y_load rfl rfl (.own inferInstance inferInstance)) ?_
          refine tl_y rfl (y_fieldAddr rfl) ?_
          refine tl_y rfl (y_load rfl rfl (.own inferInstance inferInstance)) ?_
          refine tl_y rfl (y_leq rfl rfl) ?_
          refine tl_y rfl (y_pickT rfl rfl) ?_
          refine tl_y rfl (y_move (v := .bool _) rfl) ?_
          refine tl_cases (s := 30) rfl (fun hk5 => ?_) (fun hk5 => ?_)
          ·
            refine tl_y rfl (y_move (v := .slice _ _ _) rfl) ?_
            refine tl_y rfl (y_len rfl) ?_
            refine tl_y rfl (y_leq rfl rfl) ?_
            refine tl_y rfl (y_pickT rfl rfl) ?_
            refine tl_y rfl (y_assign (v := .bool _) rfl) ?_
            refine tl_nil (.then_normal ?_)
            refine .sub (F' := [(4, _)]) (.cons rfl .nil) ?_
            refine x_ret (.dropTo L inferInstance (ret1 rfl rfl (Le.refl _) ⟨rfl, rfl, by congr 1; rw [mayB, decide_eq_decide]; omega⟩))
          ·
            refine tl_skip rfl ?_
            refine tl_skip rfl ?_
            refine tl_skip rfl ?_
            refine tl_y rfl (y_pickF rfl rfl) ?_
            refine tl_y rfl (y_assign (v := .bool _) rfl) ?_
            refine tl_nil (.then_normal ?_)
            refine .sub (F' := [(4, _)]) (.cons rfl .nil) ?_
            refine x_ret (.dropTo L inferInstance (ret1 rfl rfl (Le.refl _) ⟨rfl, rfl, by congr 1; symm; rw [mayB, decide_eq_false_iff_not]; omega⟩))
        ·
          refine tl_skip rfl ?_
          refine tl_skip rfl ?_
          refine tl_skip rfl ?_
          refine tl_skip rfl ?_
          refine tl_skip rfl ?_
          refine tl_y rfl (y_pickF rfl rfl) ?_
          refine tl_y rfl (y_move (v := .bool _) rfl) ?_
          refine tl_skip rfl ?_
          refine tl_skip rfl ?_
          refine tl_skip rfl ?_
          refine tl_y rfl (y_pickF rfl rfl) ?_
          refine tl_y rfl (y_assign (v := .bool _) rfl) ?_
          refine tl_nil (.then_normal ?_)
          refine .sub (F' := [(4, _)]) (.cons rfl .nil) ?_
          refine x_ret (.dropTo L inferInstance (ret1 rfl rfl (Le.refl _) ⟨rfl, rfl, by congr 1; symm; rw [mayB, decide_eq_false_iff_not]; omega⟩))
      ·
        refine tl_skip rfl ?_
        refine tl_skip rfl ?_
        refine tl_skip rfl ?_
        refine tl_y rfl (y_pickF rfl rfl) ?_
        refine tl_y rfl (y_move (v := .bool _) rfl) ?_
        refine tl_skip rfl ?_
        refine tl_skip rfl ?_
        refine tl_skip rfl ?_
        refine tl_skip rfl ?_
        refine tl_skip rfl ?_
        refine tl_y rfl (y_pickF rfl rfl) ?_
        refine tl_y rfl (y_move (v := .bool _) rfl) ?_
        refine tl_skip rfl ?_
        refine tl_skip rfl ?_
        refine tl_skip rfl ?_
        refine tl_y rfl (y_pickF rfl rfl) ?_
        refine tl_y rfl (y_assign (v := .bool _) rfl) ?_
        refine tl_nil (.then_normal ?_)
        refine .sub (F' := [(4, _)]) (.cons rfl .nil) ?_
        refine x_ret (.dropTo L inferInstance (ret1 rfl rfl (Le.refl _) ⟨rfl, rfl, by congr 1; symm; rw [mayB, decide_eq_false_iff_not]; omega⟩))
    ·
      refine tl_skip rfl ?_
      refine tl_skip rfl ?_
      refine tl_skip rfl ?_
      refine tl_y rfl (y_pickF rfl rfl) ?_
      refine tl_y rfl (y_move (v := .bool _) rfl) ?_
      refine tl_skip rfl ?_
      refine tl_skip rfl ?_
      refine tl_skip rfl ?_
      refine tl_y rfl (y_pickF rfl rfl) ?_
      refine tl_y rfl (y_move (v := .bool _) rfl) ?_
      refine tl_skip rfl ?_
      refine tl_skip rfl ?_
      refine tl_skip rfl ?_
      refine tl_skip rfl ?_
      refine tl_skip rfl ?_
      refine tl_y rfl (y_pickF rfl rfl) ?_
      refine tl_y rfl (y_move (v := .bool _) rfl) ?_
      refine tl_skip rfl ?_
      refine tl_skip rfl ?_
      refine tl_skip rfl ?_
      refine tl_y rfl (y_pickF rfl rfl) ?_
      refine tl_y rfl (y_assign (v := .bool _) rfl) ?_
      refine tl_nil (.then_normal ?_)
      refine .sub (F' := [(4, _)]) (.cons rfl .nil) ?_
      refine x_ret (.dropTo L inferInstance (ret1 rfl rfl (Le.refl _) ⟨rfl, rfl, by congr 1; symm; rw [mayB, decide_eq_false_iff_not]; omega⟩))
  ·
    refine tl_skip rfl ?_
    refine tl_skip rfl ?_
    refine tl_skip rfl ?_
    refine tl_y rfl (y_pickF rfl rfl) ?_
    refine tl_y rfl (y_move (v := .bool _) rfl) ?_
    refine tl_skip rfl ?_
    refine tl_skip rfl ?_
    refine tl_skip rfl ?_
    refine tl_y rfl (y_pickF rfl rfl) ?_
    refine tl_y rfl (y_move (v := .bool _) rfl) ?_
    refine tl_skip rfl ?_
    refine tl_skip rfl ?_
    refine tl_skip rfl ?_
    refine tl_y rfl (y_pickF rfl rfl) ?_
    refine tl_y rfl (y_move (v := .bool _) rfl) ?_
    refine tl_skip rfl ?_
    refine tl_skip rfl ?_
    refine tl_skip rfl ?_
    refine tl_skip rfl ?_
    refine tl_skip rfl ?_
    refine tl_y rfl (y_pickF rfl rfl) ?_
    refine tl_y rfl (y_move (v := .bool _) rfl) ?_
    refine tl_skip rfl ?_
    refine tl_skip rfl ?_
    refine tl_skip rfl ?_
    refine tl_y rfl (y_pickF rfl rfl) ?_
    refine tl_y rfl (y_assign (v := .bool _) rfl) ?_
    refine tl_nil (.then_normal ?_)
    refine .sub (F' := [(4, _)]) (.cons rfl .nil) ?_
    refine x_ret (.dropTo L inferInstance (ret1 rfl rfl (Le.refl _) ⟨rfl, rfl, by congr 1; symm; rw [mayB, decide_eq_false_iff_not]; omega⟩))
theorem Bytes_spec (x : Cn) {A : Option Addr} {n c : Nat} {head : List UInt8} (h : Bytes M A n c head) :
    Con Tryd.prog 47 #[.agg (List.toArray (ccells x)), .slice A n c] G M L (fun v M' L' => L' = L ∧ if mayB x n = true then ∃ A' c', v = .tuple #[.slice A' (25 + n) c', .int .i64 0] ∧ Bytes M' A' (25 + n) c' (bytesC x head) else v = .tuple #[.slice none 0 0, .int .i64 1]) noPanic := by
  have hl := h.size
  have hbl := bytesC_length x head
  refine enter (args := [_, _]) (fn := Tryd.f47) ⟨Tryd.func47, rfl, by kernel_rfl, by kernel_rfl⟩ 27 rfl ?_
  refine x_seq (x_region ?_)
  refine tl_e rfl (e_box rfl (fun b1 => ?_))
  refine tl_y rfl (y_assign rfl) ?_
  refine tl_y rfl (y_assign rfl) ?_
  refine tl_nil (.then_normal ?_)
  refine x_seq (x_seq (x_region ?_))
  refine tl_y rfl (y_loadAgg rfl rfl (.own inferInstance inferInstance)) ?_
  refine tl_y rfl (y_move (v := .slice _ _ _) rfl) ?_
  refine tl_e rfl (e_call' rfl (may_spec x) ?_)
  rintro _ _ _ _ ⟨rfl, rfl, rfl⟩
  refine tl_y rfl (y_not rfl) ?_
  refine tl_nil (.then_normal ?_)
  refine .sub (F' := [(1, _), (2, _), (10, _)]) (.cons rfl (.cons rfl (.cons rfl .nil))) ?_
  refine x_condb rfl (fun hc1 => ?_) (fun hc1 => ?_)
  ·
    refine x_seq (x_region ?_)
    refine tl_y rfl (y_assign rfl) ?_
    refine tl_y rfl (y_assign rfl) ?_
    refine tl_nil (.then_normal ?_)
    refine x_ret (.then_ret (.dropTo L inferInstance (ret2 rfl rfl rfl (Le.refl _) ⟨rfl, by rw [if_neg (by simpa using hc1)]⟩)))
  ·
    have hmay : mayB x n = true := by simpa using hc1
    have hn200 : n ≤ 200 := by rw [mayB, decide_eq_true_eq] at hmay; omega
    refine x_skip (.then_normal ?_)
    refine x_seq (x_region ?_)
    refine tl_y rfl (y_assign rfl) ?_
    refine tl_nil (.then_normal ?_)
    refine x_join (I := fun F D M1 L1 => D = [] ∧ M = M1 ∧ L1 = (b1, .cells (List.toArray (ccells x)) 81 (0, 0)) :: L ∧ F = [(1, .slice A n c), (2, .pointer (some ⟨b1, 0, none⟩)), (6, .int .u8 (((if x.retired then 1 else 0 : UInt8)).toNat : Int))]) ?_ (fun Jj1 => ?_)
    ·
      rintro _ _ M1 L1 ⟨rfl, rfl, rfl, rfl⟩  -- slots [1, 2, 6]
      refine x_seq ?_
      refine x_meet (I := fun F D M1 L1 => D = [] ∧ Le M M1 ∧ ∃ A' c', Bytes M1 A' (25 + n) c' (bytesC x head) ∧ DropTo L1 L ∧ F = [(4, .slice A' (25 + n) c'), (5, .int .i64 0)]) ?_ (fun Jd6 => ?_)
      ·
        rintro _ _ M1 L1 ⟨rfl, hM1, A', c', hA', hdr, rfl⟩  -- slots [4, 5]
        refine x_ret (.dropTo L hdr (ret2 rfl rfl rfl hM1 ⟨rfl, by rw [if_pos hmay]; exact ⟨A', c', rfl, hA'⟩⟩))
      ·
        refine x_draw 16 hmix rfl ?_
        refine to_p 0 rfl (by kernel_rfl) rfl (y_fieldAddr rfl) ?_
        refine to_y 1 rfl (by kernel_rfl) rfl (y_load rfl rfl (.own inferInstance inferInstance)) ?_
        refine to_p 3 rfl (by kernel_rfl) rfl (y_fieldAddr rfl) ?_
        refine to_y 4 rfl (by kernel_rfl) rfl (y_load rfl rfl (.own inferInstance inferInstance)) ?_
        refine to_p 6 rfl (by kernel_rfl) rfl (y_fieldAddr rfl) ?_
        refine to_y 7 rfl (by kernel_rfl) rfl (y_load rfl rfl (.own inferInstance inferInstance)) ?_
        refine to_p 9 rfl (by kernel_rfl) rfl (y_move (v := .int _ _) rfl) ?_
        refine to_p 11 rfl (by kernel_rfl) rfl (y_move (v := .slice _ _ _) rfl) ?_
        refine to_two 2 10 (by kernel_rfl) ?_ ?_
        ·
          refine two_e 2 rfl rfl (e_call' rfl (PutN_spec x.total 8 (by omega)) ?_)
          rintro _ M2 _ hM2 ⟨rfl, A2, c2, rfl, hA2⟩
          refine ⟨⟨hM2, Keeps.mem⟩, ?_⟩
          refine to_two 5 10 (by kernel_rfl) ?_ ?_
          ·
            refine two_e 5 rfl rfl (e_call' rfl (PutN_spec x.batch 8 (by omega)) ?_)
            rintro _ M3 _ hM3 ⟨rfl, A3, c3, rfl, hA3⟩
            refine ⟨⟨hM2.trans hM3, Keeps.mem⟩, ?_⟩
            refine to_two 8 10 (by kernel_rfl) ?_ ?_
            ·
              refine two_e 8 rfl rfl (e_call' rfl (PutN_spec x.reserved 8 (by omega)) ?_)
              rintro _ M4 _ hM4 ⟨rfl, A4, c4, rfl, hA4⟩
              refine ⟨⟨hM2.trans (hM3.trans hM4), Keeps.mem⟩, ?_⟩
              refine to_e 10 rfl (by kernel_rfl) rfl (e_buildSlice rfl (by decide) (fun bA => ?_))
              refine ⟨⟨by first | exact Le.refl _ | exact hM2 | exact hM2.trans hM3 | exact hM2.trans (hM3.trans hM4), Keeps.mem⟩, ?_⟩
              refine to_e 12 rfl (by kernel_rfl) rfl (e_buildSlice rfl (by decide) (fun bB => ?_))
              refine ⟨⟨hM2.trans (hM3.trans hM4), Keeps.mem⟩, ?_⟩
              refine .pub bA inferInstance (fun M5 hM5 hbA => ?_)
              refine .pub bB inferInstance (fun M6 hM6 hbB => ?_)
              have hm : Le M M6 := hM2.trans (hM3.trans (hM4.trans (hM5.trans hM6)))
              have hfl : [putB x.total.toNat 8, putB x.batch.toNat 8, putB x.reserved.toNat 8, [if x.retired then 1 else 0], head].flatten = bytesC x head := by simp [bytesC]
              have hR : Bytes M6 (some ⟨bA, 0, none⟩) 1 1 [if x.retired then 1 else 0] := Row.mono (Row.whole hbA rfl (by omega)) hM6
              refine to_e 13 rfl (by kernel_rfl) rfl (e_call' rfl (Cat_spec (Row.whole hbB rfl (by omega)) (.cons (hA2.mono (hM3.trans (hM4.trans (hM5.trans hM6)))) (.cons (hA3.mono (hM4.trans (hM5.trans hM6))) (.cons (hA4.mono (hM5.trans hM6)) (.cons hR (.cons (h.mono hm) .nil))))) (by rw [hfl, hbl]; omega)) ?_)
              rintro _ M7 _ hM7 ⟨rfl, A7, c7, rfl, hA7⟩
              rw [hfl, hbl, hl] at hA7
              rw [hfl, hbl, hl]
              refine ⟨⟨hm.trans hM7, Keeps.mem⟩, ?_⟩
              refine to_p 14 rfl (by kernel_rfl) rfl (y_assign (v := .slice _ _ _) rfl) ?_
              refine to_p 15 rfl (by kernel_rfl) rfl (y_assign rfl) ?_
              refine to_nil (by kernel_rfl) (.then_normal (.sub (F' := [(4, _), (5, _)]) (.cons rfl (.cons rfl .nil)) (Jd6 _ _ _ _ ?_)))
              exact ⟨rfl, hm.trans hM7, A7, c7, hA7, inferInstance, rfl⟩
            ·
              refine two_e 10 rfl rfl (e_buildSlice rfl (by decide) (fun bA => ?_))
              refine ⟨⟨by first | exact Le.refl _ | exact hM2 | exact hM2.trans hM3 | exact hM2.trans (hM3.trans hM4), Keeps.mem⟩, ?_⟩
              refine to_e 8 rfl (by kernel_rfl) rfl (e_call' rfl (PutN_spec x.reserved 8 (by omega)) ?_)
              rintro _ M4 _ hM4 ⟨rfl, A4, c4, rfl, hA4⟩
              refine ⟨⟨hM2.trans (hM3.trans hM4), Keeps.mem⟩, ?_⟩
              refine to_e 12 rfl (by kernel_rfl) rfl (e_buildSlice rfl (by decide) (fun bB => ?_))
              refine ⟨⟨hM2.trans (hM3.trans hM4), Keeps.mem⟩, ?_⟩
              refine .pub bA inferInstance (fun M5 hM5 hbA => ?_)
              refine .pub bB inferInstance (fun M6 hM6 hbB => ?_)
              have hm : Le M M6 := hM2.trans (hM3.trans (hM4.trans (hM5.trans hM6)))
              have hfl : [putB x.total.toNat 8, putB x.batch.toNat 8, putB x.reserved.toNat 8, [if x.retired then 1 else 0], head].flatten = bytesC x head := by simp [bytesC]
              have hR : Bytes M6 (some ⟨bA, 0, none⟩) 1 1 [if x.retired then 1 else 0] := Row.mono (Row.whole hbA rfl (by omega)) hM6
              refine to_e 13 rfl (by kernel_rfl) rfl (e_call' rfl (Cat_spec (Row.whole hbB rfl (by omega)) (.cons (hA2.mono (hM3.trans (hM4.trans (hM5.trans hM6)))) (.cons (hA3.mono (hM4.trans (hM5.trans hM6))) (.cons (hA4.mono (hM5.trans hM6)) (.cons hR (.cons (h.mono hm) .nil))))) (by rw [hfl, hbl]; omega)) ?_)
              rintro _ M7 _ hM7 ⟨rfl, A7, c7, rfl, hA7⟩
              rw [hfl, hbl, hl] at hA7
              rw [hfl, hbl, hl]
              refine ⟨⟨hm.trans hM7, Keeps.mem⟩, ?_⟩
              refine to_p 14 rfl (by kernel_rfl) rfl (y_assign (v := .slice _ _ _) rfl) ?_
              refine to_p 15 rfl (by kernel_rfl) rfl (y_assign rfl) ?_
              refine to_nil (by kernel_rfl) (.then_normal (.sub (F' := [(4, _), (5, _)]) (.cons rfl (.cons rfl .nil)) (Jd6 _ _ _ _ ?_)))
              exact ⟨rfl, hm.trans hM7, A7, c7, hA7, inferInstance, rfl⟩
          ·
            refine two_e 10 rfl rfl (e_buildSlice rfl (by decide) (fun bA => ?_))
            refine ⟨⟨by first | exact Le.refl _ | exact hM2 | exact hM2.trans hM3 | exact hM2.trans (hM3.trans hM4), Keeps.mem⟩, ?_⟩
            refine to_e 5 rfl (by kernel_rfl) rfl (e_call' rfl (PutN_spec x.batch 8 (by omega)) ?_)
            rintro _ M3 _ hM3 ⟨rfl, A3, c3, rfl, hA3⟩
            refine ⟨⟨hM2.trans hM3, Keeps.mem⟩, ?_⟩
            refine to_e 8 rfl (by kernel_rfl) rfl (e_call' rfl (PutN_spec x.reserved 8 (by omega)) ?_)
            rintro _ M4 _ hM4 ⟨rfl, A4, c4, rfl, hA4⟩
            refine ⟨⟨hM2.trans (hM3.trans hM4), Keeps.mem⟩, ?_⟩
            refine to_e 12 rfl (by kernel_rfl) rfl (e_buildSlice rfl (by decide) (fun bB => ?_))
            refine ⟨⟨hM2.trans (hM3.trans hM4), Keeps.mem⟩, ?_⟩
            refine .pub bA inferInstance (fun M5 hM5 hbA => ?_)
            refine .pub bB inferInstance (fun M6 hM6 hbB => ?_)
            have hm : Le M M6 := hM2.trans (hM3.trans (hM4.trans (hM5.trans hM6)))
            have hfl : [putB x.total.toNat 8, putB x.batch.toNat 8, putB x.reserved.toNat 8, [if x.retired then 1 else 0], head].flatten = bytesC x head := by simp [bytesC]
            have hR : Bytes M6 (some ⟨bA, 0, none⟩) 1 1 [if x.retired then 1 else 0] := Row.mono (Row.whole hbA rfl (by omega)) hM6
            refine to_e 13 rfl (by kernel_rfl) rfl (e_call' rfl (Cat_spec (Row.whole hbB rfl (by omega)) (.cons (hA2.mono (hM3.trans (hM4.trans (hM5.trans hM6)))) (.cons (hA3.mono (hM4.trans (hM5.trans hM6))) (.cons (hA4.mono (hM5.trans hM6)) (.cons hR (.cons (h.mono hm) .nil))))) (by rw [hfl, hbl]; omega)) ?_)
            rintro _ M7 _ hM7 ⟨rfl, A7, c7, rfl, hA7⟩
            rw [hfl, hbl, hl] at hA7
            rw [hfl, hbl, hl]
            refine ⟨⟨hm.trans hM7, Keeps.mem⟩, ?_⟩
            refine to_p 14 rfl (by kernel_rfl) rfl (y_assign (v := .slice _ _ _) rfl) ?_
            refine to_p 15 rfl (by kernel_rfl) rfl (y_assign rfl) ?_
            refine to_nil (by kernel_rfl) (.then_normal (.sub (F' := [(4, _), (5, _)]) (.cons rfl (.cons rfl .nil)) (Jd6 _ _ _ _ ?_)))
            exact ⟨rfl, hm.trans hM7, A7, c7, hA7, inferInstance, rfl⟩
        ·
          refine two_e 10 rfl rfl (e_buildSlice rfl (by decide) (fun bA => ?_))
          refine ⟨⟨by first | exact Le.refl _ | exact hM2 | exact hM2.trans hM3 | exact hM2.trans (hM3.trans hM4), Keeps.mem⟩, ?_⟩
          refine to_e 2 rfl (by kernel_rfl) rfl (e_call' rfl (PutN_spec x.total 8 (by omega)) ?_)
          rintro _ M2 _ hM2 ⟨rfl, A2, c2, rfl, hA2⟩
          refine ⟨⟨hM2, Keeps.mem⟩, ?_⟩
          refine to_e 5 rfl (by kernel_rfl) rfl (e_call' rfl (PutN_spec x.batch 8 (by omega)) ?_)
          rintro _ M3 _ hM3 ⟨rfl, A3, c3, rfl, hA3⟩
          refine ⟨⟨hM2.trans hM3, Keeps.mem⟩, ?_⟩
          refine to_e 8 rfl (by kernel_rfl) rfl (e_call' rfl (PutN_spec x.reserved 8 (by omega)) ?_)
          rintro _ M4 _ hM4 ⟨rfl, A4, c4, rfl, hA4⟩
          refine ⟨⟨hM2.trans (hM3.trans hM4), Keeps.mem⟩, ?_⟩
          refine to_e 12 rfl (by kernel_rfl) rfl (e_buildSlice rfl (by decide) (fun bB => ?_))
          refine ⟨⟨hM2.trans (hM3.trans hM4), Keeps.mem⟩, ?_⟩
          refine .pub bA inferInstance (fun M5 hM5 hbA => ?_)
          refine .pub bB inferInstance (fun M6 hM6 hbB => ?_)
          have hm : Le M M6 := hM2.trans (hM3.trans (hM4.trans (hM5.trans hM6)))
          have hfl : [putB x.total.toNat 8, putB x.batch.toNat 8, putB x.reserved.toNat 8, [if x.retired then 1 else 0], head].flatten = bytesC x head := by simp [bytesC]
          have hR : Bytes M6 (some ⟨bA, 0, none⟩) 1 1 [if x.retired then 1 else 0] := Row.mono (Row.whole hbA rfl (by omega)) hM6
          refine to_e 13 rfl (by kernel_rfl) rfl (e_call' rfl (Cat_spec (Row.whole hbB rfl (by omega)) (.cons (hA2.mono (hM3.trans (hM4.trans (hM5.trans hM6)))) (.cons (hA3.mono (hM4.trans (hM5.trans hM6))) (.cons (hA4.mono (hM5.trans hM6)) (.cons hR (.cons (h.mono hm) .nil))))) (by rw [hfl, hbl]; omega)) ?_)
          rintro _ M7 _ hM7 ⟨rfl, A7, c7, rfl, hA7⟩
          rw [hfl, hbl, hl] at hA7
          rw [hfl, hbl, hl]
          refine ⟨⟨hm.trans hM7, Keeps.mem⟩, ?_⟩
          refine to_p 14 rfl (by kernel_rfl) rfl (y_assign (v := .slice _ _ _) rfl) ?_
          refine to_p 15 rfl (by kernel_rfl) rfl (y_assign rfl) ?_
          refine to_nil (by kernel_rfl) (.then_normal (.sub (F' := [(4, _), (5, _)]) (.cons rfl (.cons rfl .nil)) (Jd6 _ _ _ _ ?_)))
          exact ⟨rfl, hm.trans hM7, A7, c7, hA7, inferInstance, rfl⟩
    ·
      refine x_seq (x_region ?_)
      refine tl_y rfl (y_fieldAddr rfl) ?_
      refine tl_y rfl (y_load rfl rfl (.own inferInstance inferInstance)) ?_
      refine tl_nil (.then_normal ?_)
      refine x_condb rfl (fun hc2 => ?_) (fun hc2 => ?_)
      ·
        refine x_region ?_
        refine tl_y rfl (y_assign rfl) ?_
        refine tl_nil (.then_normal (.sub (F' := [(1, _), (2, _), (6, _)]) (.cons rfl (.cons rfl (.cons rfl .nil))) (Jj1 _ _ _ _ ?_)))
        exact ⟨rfl, rfl, rfl, by rw [hc2]; rfl⟩
      ·
        refine x_skip (.then_normal (.sub (F' := [(1, _), (2, _), (6, _)]) (.cons rfl (.cons rfl (.cons rfl .nil))) (Jj1 _ _ _ _ ?_)))
        exact ⟨rfl, rfl, rfl, by rw [hc2]; rfl⟩
end
end Go.Proofs.YtbgdjdhbejbhkaaDoor
