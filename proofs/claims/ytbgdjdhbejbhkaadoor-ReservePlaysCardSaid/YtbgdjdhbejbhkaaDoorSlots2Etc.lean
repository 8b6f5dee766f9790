/-
Contracts of functions, each proved by a walk through its code.
-/
import Derived.Test.YtbgdjdhbejbhkaaDoorDisk4Etc
set_option linter.unusedVariables false
set_option linter.unusedSimpArgs false
namespace Go.Proofs.YtbgdjdhbejbhkaaDoor
open Go Go.Eng
section
variable {G : World} {M : Mem} {L R : Own}
theorem blank1_spec (c : UInt8) :
    Con Tryd.prog 145 #[.int .u8 (c.toNat : Int)] G M L (fun v M' L' => M = M' ∧ L = L' ∧ v = .bool (decide (c ≠ 0))) noPanic := by
  refine enter (args := [_]) (fn := Tryd.f145) ⟨Tryd.func145, rfl, by kernel_rfl, by kernel_rfl⟩ 5 rfl ?_
  refine x_seq (x_region ?_)
  refine tl_y rfl (y_assign rfl) ?_
  refine tl_nil (.then_normal ?_)
  refine x_seq (x_region ?_)
  refine tl_y rfl (y_move (v := .int _ _) rfl) ?_
  refine tl_y rfl (y_neq rfl rfl) ?_
  refine tl_y rfl (y_assign (v := .bool _) rfl) ?_
  refine tl_nil (.then_normal ?_)
  refine x_ret (ret1 rfl rfl (Le.refl _) ⟨rfl, rfl, by
  congr 1
  rw [decide_eq_decide]
  constructor
  · rintro h rfl; exact h rfl
  · intro h e; exact h (UInt8.toNat_inj.1 (by simpa using e))⟩)
theorem indexFunc_spec {A : Option Addr} {n c : Nat} {bs : List UInt8} (h : Bytes M A n c bs) :
    Con Tryd.prog 164 #[.slice A n c, .func (.func 145) #[] #[]] G M L (fun v M' L' => M = M' ∧ L = L' ∧ ∃ r : Int, v = .int .i64 r ∧ (0 ≤ r ↔ isBlank bs = false)) noPanic := by
  have hs := h.size
  have hmx := h.max
  have hle := h.le
  refine enter (args := [_, _]) (fn := Tryd.f164) ⟨Tryd.func164, rfl, by kernel_rfl, by kernel_rfl⟩ 19 rfl ?_
  refine x_seq (x_region ?_)
  refine tl_y rfl (y_assign rfl) ?_
  refine tl_nil (.then_normal ?_)
  refine x_seq (x_seq (x_region ?_))
  refine tl_y rfl (y_move (v := .slice _ _ _) rfl) ?_
  refine tl_y rfl (y_len rfl) ?_
  refine tl_y rfl (y_move rfl) ?_
  refine tl_nil (.then_normal ?_)
  refine x_block ?_
  refine x_loop (I := fun m' F D M1 L1 => ∃ k : Nat, m' = n - k ∧ k ≤ n ∧ isBlank (bs.take k) = true ∧ D = [] ∧ M = M1 ∧ L = L1 ∧ F = [(0, .slice A n c), (1, .func (.func 145) (List.toArray []) (List.toArray [])), (4, .int .i64 0), (7, .int .i64 n), (8, .int .i64 k)]) (n) (F0 := [(0, _), (1, _), (4, _), (7, _), (8, _)]) ?_ (.cons rfl (.cons rfl (.cons rfl (.cons rfl (.cons rfl .nil))))) ?_  -- slots [0, 1, 4, 7, 8], written [4, 8]
  · exact ⟨0, rfl, by omega, rfl, rfl, rfl, rfl, rfl⟩
  rintro m _ _ M1 L1 ⟨k, rfl, hk, hb, rfl, rfl, rfl, rfl⟩
  refine x_seq (x_region ?_)
  refine tl_y rfl (y_lss rfl rfl) ?_
  refine tl_nil (.then_normal ?_)
  refine x_seq ?_
  refine x_cond rfl (fun hc1 => ?_) (fun hc1 => ?_)
  ·
    have hkn : k < n := by omega
    obtain ⟨g, o, rfl, hca⟩ := h.byte (by omega)
    refine x_skip (.then_normal ?_)
    refine x_seq ?_
    refine x_block ?_
    refine x_seq (x_region ?_)
    refine tl_y rfl (y_move (v := .int _ _) rfl) ?_
    refine tl_y rfl (y_assign (v := .int _ _) rfl) ?_
    refine tl_nil (.then_normal ?_)
    refine x_seq (x_region ?_)
    refine tl_y rfl (y_move (v := .func _ _ _) rfl) ?_
    refine tl_y rfl (y_move (v := .slice _ _ _) rfl) ?_
    refine tl_y rfl (y_move (v := .int _ _) rfl) ?_
    refine tl_y rfl (y_indexAddr rfl rfl (by omega)) ?_
    refine tl_y rfl (y_load rfl rfl (.at_ (hca _ k hkn) (by omega))) ?_
    refine tl_e rfl (e_callv rfl rfl (blank1_spec (bs.getD k 0)) (fun _ _ _ _ h => h.elim) ?_)
    rintro _ _ _ _ ⟨rfl, rfl, rfl⟩
    refine tl_nil (.then_normal ?_)
    refine .sub (F' := [(0, _), (1, _), (4, _), (5, _), (7, _), (8, _), (16, _)]) (.cons rfl (.cons rfl (.cons rfl (.cons rfl (.cons rfl (.cons rfl (.cons rfl .nil))))))) ?_
    refine x_cond rfl (fun hc2 => ?_) (fun hc2 => ?_)
    ·
      refine x_seq (x_region ?_)
      refine tl_y rfl (y_move (v := .int _ _) rfl) ?_
      refine tl_y rfl (y_assign (v := .int _ _) rfl) ?_
      refine tl_nil (.then_normal ?_)
      refine x_ret (.block_ret (.then_ret (.loop_ret (.block_ret (.then_ret (ret1 rfl rfl (Le.refl _) ⟨rfl, rfl, _, rfl, iff_of_true (by omega) (by
  rw [Bool.eq_false_iff]
  intro hall
  have := List.all_eq_true.1 hall _ (getD_mem bs k 0 (by omega))
  exact hc2 (by simpa using this))⟩))))))
    ·
      refine x_skip (.block_normal (.then_normal ?_))
      refine x_region ?_
      refine tl_y rfl (y_addI rfl rfl (by omega)) ?_
      refine tl_y rfl (y_move (v := .int _ _) rfl) ?_
      refine tl_nil (.loop_next (m' := n - (k + 1)) (by omega) (F' := [(0, _), (1, _), (4, _), (7, _), (8, _)]) (.cons rfl (.cons rfl (.cons rfl (.cons rfl (.cons rfl .nil))))) ?_)
      exact ⟨k + 1, rfl, by omega, by
  have h1 : bs.getD k 0 = 0 := Classical.not_not.1 hc2
  rw [take_snoc bs k 0 (by omega), h1]
  unfold isBlank at hb ⊢
  rw [List.all_append, hb]
  rfl, rfl, rfl, rfl, rfl⟩
  ·
    refine x_exit (.then_exit (.loop_exit (.block_exit (.then_normal ?_))))
    refine .sub (F' := []) .nil ?_
    refine x_seq (x_region ?_)
    refine tl_y rfl (y_assign rfl) ?_
    refine tl_nil (.then_normal ?_)
    refine x_ret (ret1 rfl rfl (Le.refl _) ⟨rfl, rfl, _, rfl, iff_of_false (by omega) (by
  rw [List.take_of_length_le (by omega)] at hb
  rw [hb]; simp)⟩)
theorem blank_spec {A : Option Addr} {n c : Nat} {bs : List UInt8} (h : Bytes M A n c bs) :
    Con Tryd.prog 118 #[.slice A n c] G M L (fun v M' L' => M = M' ∧ L = L' ∧ v = .bool (isBlank bs)) noPanic := by
  have hcf : Con Tryd.prog 144 #[.slice A n c, .func (.func 145) #[] #[]] G M L (fun v M' L' => M = M' ∧ L = L' ∧ v = .bool (!isBlank bs)) noPanic := by
    refine enter (args := [_, _]) (fn := Tryd.f144) ⟨Tryd.func144, rfl, by kernel_rfl, by kernel_rfl⟩ 9 rfl ?_
    refine x_seq (x_region ?_)
    refine tl_y rfl (y_assign rfl) ?_
    refine tl_nil (.then_normal ?_)
    refine x_seq (x_region ?_)
    refine tl_y rfl (y_move (v := .slice _ _ _) rfl) ?_
    refine tl_y rfl (y_move (v := .func _ _ _) rfl) ?_
    refine tl_e rfl (e_call' rfl (indexFunc_spec h) ?_)
    rintro _ _ _ _ ⟨rfl, rfl, r, rfl, hr⟩
    refine tl_y rfl (y_geq rfl rfl) ?_
    refine tl_y rfl (y_assign (v := .bool _) rfl) ?_
    refine tl_nil (.then_normal ?_)
    refine .sub (F' := [(4, _)]) (.cons rfl .nil) ?_
    refine x_ret (ret1 rfl rfl (Le.refl _) ⟨rfl, rfl, by
  congr 1
  cases hb : isBlank bs with
  | true => rw [hb] at hr; simp at hr; simp; omega
  | false => rw [hb] at hr; simp at hr; simp; omega⟩)
  refine enter (args := [_]) (fn := Tryd.f118) ⟨Tryd.func118, rfl, by kernel_rfl, by kernel_rfl⟩ 6 rfl ?_
  refine x_seq (x_region ?_)
  refine tl_y rfl (y_assign rfl) ?_
  refine tl_nil (.then_normal ?_)
  refine x_seq (x_region ?_)
  refine tl_y rfl (y_move (v := .slice _ _ _) rfl) ?_
  refine tl_e rfl (e_call' rfl hcf ?_)
  rintro _ _ _ _ ⟨rfl, rfl, rfl⟩
  refine tl_y rfl (y_not rfl) ?_
  refine tl_y rfl (y_assign (v := .bool _) rfl) ?_
  refine tl_nil (.then_normal ?_)
  refine .sub (F' := [(2, _)]) (.cons rfl .nil) ?_
  refine x_ret (ret1 rfl rfl (Le.refl _) ⟨rfl, rfl, by simp⟩)
theorem area_spec {p d : Nat} {r : DRep} {S : DS} {s : SS} {A0 : Option Addr} {l0 c0 : Nat} (h : IsDisk M r S) (ok : OkS S s) (i : Nat) (hi : i ≤ 1) :
    Con Tryd.prog 116 #[.pointer (some ⟨p, 0, none⟩), .int .i64 (i : Int)] G M (dL d r S (sL p d s A0 l0 c0 :: R))
      (fun v M' L' => S.down = false ∧ L' = dL d r S (sL p d s A0 l0 c0 :: R) ∧ ∃ A c, v = .slice A (64 * s.n) c ∧ Bytes M' A (64 * s.n) c (areaB S (s.first + i * s.n) s.n))
      (fun ch M' L' => S.down = true ∧ L' = dL d r S (sL p d s A0 l0 c0 :: R) ∧ ch = wrongs 6) := by
  have hn := ok.n
  have hin := ok.in_
  have hsz := h.sz
  have hmul : (i : Int) * (s.n : Int) = ((i * s.n : Nat) : Int) := by simp
  have hq := Nat.mul_le_mul_right s.n hi
  generalize i * s.n = q at hmul hq
  refine enter (args := [_, _]) (fn := Tryd.f116) ⟨Tryd.func116, rfl, by kernel_rfl, by kernel_rfl⟩ 44 rfl ?_
  refine x_seq (x_region ?_)
  refine tl_y rfl (y_assign rfl) ?_
  refine tl_nil (.then_normal ?_)
  refine x_seq (x_region ?_)
  refine tl_y rfl (y_assign rfl) ?_
  refine tl_nil (.then_normal ?_)
  refine x_seq (x_seq (x_region ?_))
  refine tl_y rfl (y_move (v := .pointer _) rfl) ?_
  refine tl_y rfl (y_nilCheck rfl) ?_
  refine tl_y rfl (y_fieldAddr rfl) ?_
  refine tl_y rfl (y_load rfl rfl (.own inferInstance inferInstance)) ?_
  refine tl_y rfl (y_move rfl) ?_
  refine tl_nil (.then_normal ?_)
  refine .sub (F' := [(0, _), (1, _), (5, _), (12, _), (13, _)]) (.cons rfl (.cons rfl (.cons rfl (.cons rfl (.cons rfl .nil))))) ?_
  refine x_block ?_
  refine x_loop (I := fun m' F D M1 L1 => ∃ (k : Nat) (A : Option Addr) (c : Nat) (E : Own), m' = s.n - k ∧ k ≤ s.n ∧ (0 < k → S.down = false) ∧ OwnRow 5 1 A (64 * k) c ((areaB S (s.first + q) k).map bv) E ∧ Le M M1 ∧ D = [] ∧ L1 = E ++ dL d r S (sL p d s A0 l0 c0 :: R) ∧ F = [(0, .pointer (some ⟨p, 0, none⟩)), (1, .int .i64 (i : Int)), (5, .slice A (64 * k) c), (12, .int .i64 s.n), (13, .int .i64 k)]) (s.n) (F0 := [(0, _), (1, _), (5, _), (12, _), (13, _)]) ?_ (.cons rfl (.cons rfl (.cons rfl (.cons rfl (.cons rfl .nil))))) ?_  -- slots [0, 1, 5, 12, 13], written [5, 13]
  · exact ⟨0, none, 0, [], rfl, by omega, (fun h => by omega), .nil, Le.refl _, rfl, rfl, rfl⟩
  rintro m _ _ M1 L1 ⟨k, A, c, E, rfl, hk, hdn, hE, hM1, rfl, rfl, rfl⟩
  refine x_seq (x_region ?_)
  refine tl_y rfl (y_lss rfl rfl) ?_
  refine tl_nil (.then_normal ?_)
  refine x_seq ?_
  refine x_cond rfl (fun hc1 => ?_) (fun hc1 => ?_)
  ·
    refine x_skip (.then_normal ?_)
    refine x_seq ?_
    refine x_block ?_
    refine x_seq (x_region ?_)
    refine tl_y rfl (y_move (v := .int _ _) rfl) ?_
    refine tl_y rfl (y_assign (v := .int _ _) rfl) ?_
    refine tl_nil (.then_normal ?_)
    refine x_seq ?_
    refine x_draw 23 hmix rfl ?_
    refine to_p 0 rfl (by kernel_rfl) rfl (y_move (v := .pointer _) rfl) ?_
    refine to_p 1 rfl (by kernel_rfl) rfl (y_nilCheck rfl) ?_
    refine to_p 2 rfl (by kernel_rfl) rfl (y_fieldAddr rfl) ?_
    refine to_y 3 rfl (by kernel_rfl) rfl (y_load rfl rfl (.own inferInstance inferInstance)) ?_
    refine to_p 4 rfl (by kernel_rfl) rfl (y_move (v := .pointer _) rfl) ?_
    refine to_p 5 rfl (by kernel_rfl) rfl (y_nilCheck rfl) ?_
    refine to_p 6 rfl (by kernel_rfl) rfl (y_fieldAddr rfl) ?_
    refine to_y 7 rfl (by kernel_rfl) rfl (y_load rfl rfl (.own inferInstance inferInstance)) ?_
    refine to_p 8 rfl (by kernel_rfl) rfl (y_move (v := .int _ _) rfl) ?_
    refine to_p 9 rfl (by kernel_rfl) rfl (y_move (v := .pointer _) rfl) ?_
    refine to_p 10 rfl (by kernel_rfl) rfl (y_nilCheck rfl) ?_
    refine to_p 11 rfl (by kernel_rfl) rfl (y_fieldAddr rfl) ?_
    refine to_y 12 rfl (by kernel_rfl) rfl (y_load rfl rfl (.own inferInstance inferInstance)) ?_
    refine to_p 13 rfl (by kernel_rfl) rfl (y_mulI rfl rfl (by rw [hmul]; omega)) ?_
    rw [hmul]
    refine to_p 14 rfl (by kernel_rfl) rfl (y_addI rfl rfl (by omega)) ?_
    refine to_p 15 rfl (by kernel_rfl) rfl (y_move (v := .int _ _) rfl) ?_
    refine to_p 16 rfl (by kernel_rfl) rfl (y_addI rfl rfl (by omega)) ?_
    rw [show ((s.first : Int) + (q : Int)) + (k : Int) = ((s.first + q + k : Nat) : Int) by omega]
    refine to_e 17 rfl (by kernel_rfl) rfl (e_call' rfl (Con.to (dL d r S (E ++ sL p d s A0 l0 c0 :: R)) inferInstance (Read_spec (h.mono hM1) _)) ?_)
    rintro _ M2 _ hM2 ⟨rfl, A2, n2, c2, rfl, hA2⟩
    refine ⟨⟨hM2, Keeps.mem⟩, ?_⟩
    refine to_p 18 rfl (by kernel_rfl) rfl (y_move (v := .tuple _) rfl) ?_
    refine to_p 19 rfl (by kernel_rfl) rfl (y_extract rfl) ?_
    refine to_p 20 rfl (by kernel_rfl) rfl (y_extract rfl) ?_
    refine to_p 21 rfl (by kernel_rfl) rfl (y_assign (v := .slice _ _ _) rfl) ?_
    refine to_p 22 rfl (by kernel_rfl) rfl (y_assign (v := .int _ _) rfl) ?_
    refine to_nil (by kernel_rfl) (.then_normal ?_)
    refine .sub (F' := [(0, _), (1, _), (5, _), (7, _), (8, _), (12, _), (13, _)]) (.cons rfl (.cons rfl (.cons rfl (.cons rfl (.cons rfl (.cons rfl (.cons rfl .nil))))))) ?_
    refine x_seq (x_region ?_)
    refine tl_y rfl (y_move (v := .int _ _) rfl) ?_
    refine tl_e rfl (e_call rfl (well_spec _) (by
  rintro _ _ _ _ ⟨rfl, rfl, rfl, hne⟩
  refine .dropTo (dL d r S (sL p d s A0 l0 c0 :: R)) inferInstance (.retA rfl (hM1.trans hM2) ?_)
  cases hd : S.down with
  | false => exact absurd (readRes_len hd h.sl h.pl (by omega)).1 hne
  | true => exact ⟨rfl, rfl, by rw [show readRes S ((s.first + q + k : Nat) : Int) = ([], 6) by simp [readRes, hd]]⟩) ?_)
    rintro _ _ _ _ ⟨rfl, rfl, hz⟩
    have hd : S.down = false := by
      cases hd : S.down with
      | false => rfl
      | true => rw [show readRes S ((s.first + q + k : Nat) : Int) = ([], 6) by simp [readRes, hd]] at hz; simp at hz
    have hrl := readRes_len hd h.sl h.pl (i := s.first + q + k) (by omega)
    obtain rfl : n2 = 64 := by have := hA2.size; omega
    refine tl_nil (.then_normal ?_)
    refine x_region ?_
    refine tl_y rfl (y_move (v := .slice _ _ _) rfl) ?_
    refine tl_y rfl (y_move (v := .slice _ _ _) rfl) ?_
    refine .bringE E inferInstance ?_
    refine tl_e rfl (e_append (E := E) (by decide) rfl rfl hE (.row hA2) (all_one_bv _) (by omega) (by omega) (fun A3 cap3 E3 hE3 => ?_))
    rw [← List.map_append] at hE3
    refine tl_y rfl (y_assign (v := .slice _ _ _) rfl) ?_
    refine tl_nil (.block_normal (.then_normal ?_))
    refine .sub (F' := [(0, _), (1, _), (5, _), (12, _), (13, _)]) (.cons rfl (.cons rfl (.cons rfl (.cons rfl (.cons rfl .nil))))) ?_
    refine x_region ?_
    refine tl_y rfl (y_addI rfl rfl (by omega)) ?_
    refine tl_y rfl (y_move (v := .int _ _) rfl) ?_
    refine .dropTo (E3 ++ dL d r S (sL p d s A0 l0 c0 :: R)) inferInstance ?_
    refine tl_nil (.loop_next (m' := s.n - (k + 1)) (by omega) (F' := [(0, _), (1, _), (5, _), (12, _), (13, _)]) (.cons rfl (.cons rfl (.cons rfl (.cons rfl (.cons rfl .nil))))) ?_)
    exact ⟨k + 1, A3, cap3, E3, rfl, by omega, (fun _ => hd), hE3, hM1.trans hM2, rfl, rfl, rfl⟩
  ·
    refine x_exit (.then_exit (.loop_exit (.block_exit (.then_normal ?_))))
    refine .sub (F' := [(5, _)]) (.cons rfl .nil) ?_
    refine x_seq (x_region ?_)
    refine tl_y rfl (y_move (v := .slice _ _ _) rfl) ?_
    refine tl_y rfl (y_assign (v := .slice _ _ _) rfl) ?_
    refine tl_nil (.then_normal ?_)
    obtain rfl : k = s.n := by omega
    refine x_ret (.pubRow hE fun M' hle hr => ret1 rfl rfl (hM1.trans hle) ⟨hdn (by omega), rfl, _, _, rfl, hr⟩)
theorem read_spec (hg : ShaG M) {p d : Nat} {s : SS} {A0 : Option Addr} {l0 c0 : Nat} (hn : 1 ≤ s.n ∧ s.n ≤ 8) {A : Option Addr} {n c : Nat} {a : List UInt8} (h : Bytes M A n c a) (hl : n = 64 * s.n) :
    Con Tryd.prog 117 #[.pointer (some ⟨p, 0, none⟩), .slice A n c] G M (sL p d s A0 l0 c0 :: R) (fun v M' L' => L' = sL p d s A0 l0 c0 :: R ∧ ∃ A' n' c', v = .agg #[.int .u64 ((readRec s.n a).1.toNat : Int), .slice A' n' c'] ∧ Bytes M' A' n' c' (readRec s.n a).2) noPanic := by
  have hs := h.size
  have hc := h.le
  have hroom : (if (s.n : Int) < 1 ∨ 8 < (s.n : Int) then 0 else 64 * (s.n : Int) - 28) = 64 * (s.n : Int) - 28 := by rw [if_neg (by omega)]
  refine enter (args := [_, _]) (fn := Tryd.f117) ⟨Tryd.func117, rfl, by kernel_rfl, by kernel_rfl⟩ 51 rfl ?_
  refine x_seq (x_region ?_)
  refine tl_e rfl (e_alloc (fun b1 => ?_))
  refine tl_nil (.then_normal ?_)
  refine x_seq (x_region ?_)
  refine tl_y rfl (y_move (v := .slice _ _ _) rfl) ?_
  refine tl_y rfl (y_sliceH rfl rfl (by omega) (by omega)) ?_
  refine tl_e rfl (e_call' rfl (Get8_spec (n := 8) (bs := a.take 8) (Bytes.take h 8 (by omega)) (by omega)) ?_)
  rintro _ _ _ _ ⟨rfl, rfl, x, hx, rfl⟩
  refine tl_y rfl (y_move (v := .tuple _) rfl) ?_
  refine tl_y rfl (y_extract rfl) ?_
  refine tl_y rfl (y_extract rfl) ?_
  refine tl_y rfl (y_assign (v := .int _ _) rfl) ?_
  refine tl_y rfl (y_assign (v := .bool _) rfl) ?_
  refine tl_nil (.then_normal ?_)
  refine .sub (F' := [(0, _), (1, _), (4, _), (5, _)]) (.cons rfl (.cons rfl (.cons rfl (.cons rfl .nil)))) ?_
  refine x_seq (x_region ?_)
  refine tl_y rfl (y_move (v := .slice _ _ _) rfl) ?_
  refine tl_y rfl (y_sliceLH rfl rfl rfl (by omega) (by omega)) ?_
  refine tl_e rfl (e_call' rfl (Get8_spec (n := 4) (bs := (a.drop 8).take 4) (Bytes.sub h 8 12 (by omega) (by omega)) (by omega)) ?_)
  rintro _ _ _ _ ⟨rfl, rfl, y, hy, rfl⟩
  have hxn : numOf a = x.toNat := hx.symm
  have hyn : cntOf a = y.toNat := hy.symm
  have hofx : UInt64.ofNat (numOf a) = x := by rw [hxn]; simp
  refine tl_y rfl (y_move (v := .tuple _) rfl) ?_
  refine tl_y rfl (y_extract rfl) ?_
  refine tl_y rfl (y_extract rfl) ?_
  refine tl_y rfl (y_assign (v := .int _ _) rfl) ?_
  refine tl_y rfl (y_assign (v := .bool _) rfl) ?_
  refine tl_nil (.then_normal ?_)
  refine .sub (F' := [(0, _), (1, _), (4, _), (5, _), (7, _)]) (.cons rfl (.cons rfl (.cons rfl (.cons rfl (.cons rfl .nil))))) ?_
  refine x_seq (x_seq (x_region ?_))
  refine tl_y rfl (y_move (v := .int _ _) rfl) ?_
  refine tl_y rfl (y_eql rfl rfl) ?_
  refine tl_y rfl (y_move (v := .bool _) rfl) ?_
  refine tl_cases (s := 24) rfl (fun hk1 => ?_) (fun hk1 => ?_)
  ·
    refine tl_skip rfl ?_
    refine tl_skip rfl ?_
    refine tl_skip rfl ?_
    refine tl_skip rfl ?_
    refine tl_skip rfl ?_
    refine tl_skip rfl ?_
    refine tl_skip rfl ?_
    refine tl_skip rfl ?_
    refine tl_y rfl (y_pickT rfl rfl) ?_
    refine tl_nil (.then_normal ?_)
    refine .sub (F' := [(0, _), (1, _), (4, _), (5, _), (7, _), (33, _)]) (.cons rfl (.cons rfl (.cons rfl (.cons rfl (.cons rfl (.cons rfl .nil)))))) ?_
    refine x_true rfl rfl ?_
    refine x_seq (x_region ?_)
    refine tl_y rfl (y_build rfl) ?_
    refine tl_e rfl (e_store rfl rfl (by rfl) (by rfl) inferInstance inferInstance inferInstance ?_)
    refine tl_nil (.then_normal ?_)
    refine .sub (F' := [(4, _)]) (.cons rfl .nil) ?_
    refine x_ret (.then_ret (retRV (L' := sL p d s A0 l0 c0 :: R) (rv1 rfl (rc_cellAgg (by rfl) rfl (.own inferInstance inferInstance))) inferInstance (Le.refl _) (by
  rw [show readRec s.n a = (0, []) by rw [readRec, if_pos (.inl (by omega))]]
  exact ⟨rfl, _, _, _, rfl, Row.nil _ _⟩)))
  ·
    refine tl_y rfl (y_move (v := .int _ _) rfl) ?_
    refine tl_y rfl (y_move (v := .pointer _) rfl) ?_
    refine tl_y rfl (y_nilCheck rfl) ?_
    refine tl_y rfl (y_fieldAddr rfl) ?_
    refine tl_y rfl (y_load rfl rfl (.own inferInstance inferInstance)) ?_
    refine tl_e rfl (e_call' rfl (Room_spec (s.n : Int)) ?_)
    rintro _ _ _ _ ⟨rfl, rfl, rfl⟩
    rw [hroom]
    refine tl_y rfl (y_convN64 rfl (by omega)) ?_
    refine tl_y rfl (y_gtr rfl rfl) ?_
    refine tl_y rfl (y_pickF rfl rfl) ?_
    refine tl_nil (.then_normal ?_)
    refine .sub (F' := [(0, _), (1, _), (4, _), (5, _), (7, _), (33, _)]) (.cons rfl (.cons rfl (.cons rfl (.cons rfl (.cons rfl (.cons rfl .nil)))))) ?_
    refine x_cond rfl (fun hc1 => ?_) (fun hc1 => ?_)
    ·
      refine x_seq (x_region ?_)
      refine tl_y rfl (y_build rfl) ?_
      refine tl_e rfl (e_store rfl rfl (by rfl) (by rfl) inferInstance inferInstance inferInstance ?_)
      refine tl_nil (.then_normal ?_)
      refine .sub (F' := [(4, _)]) (.cons rfl .nil) ?_
      refine x_ret (.then_ret (retRV (L' := sL p d s A0 l0 c0 :: R) (rv1 rfl (rc_cellAgg (by rfl) rfl (.own inferInstance inferInstance))) inferInstance (Le.refl _) (by
  rw [show readRec s.n a = (0, []) by rw [readRec, if_pos (.inr (by omega))]]
  exact ⟨rfl, _, _, _, rfl, Row.nil _ _⟩)))
    ·
      refine x_skip (.then_normal ?_)
      refine x_seq (x_region ?_)
      refine tl_y rfl (y_move (v := .int _ _) rfl) ?_
      refine tl_y rfl (y_move (v := .slice _ _ _) rfl) ?_
      refine tl_y rfl (y_move (v := .int _ _) rfl) ?_
      refine tl_y rfl (y_convI rfl (by omega)) ?_
      refine tl_y rfl (y_addI rfl rfl (by omega)) ?_
      refine tl_y rfl (y_sliceLH rfl rfl rfl (by omega) (by omega)) ?_
      rw [show (12 + ((y.toNat : Nat) : Int)).toNat - Int.toNat 12 = cntOf a by omega]
      have hD : Bytes M (sl A (Int.toNat 12) c 1) (cntOf a) (c - Int.toNat 12) (datOf a) := by
        have h1 := Bytes.sub h 12 (12 + cntOf a) (by omega) (by omega)
        rw [Nat.add_sub_cancel_left] at h1
        exact h1
      refine tl_e rfl (e_call' rfl (bytesClone_spec hD (by omega)) ?_)
      rintro _ M1 _ hM1 ⟨rfl, A1, c1, rfl, hA1⟩
      have hdl := hA1.size
      refine tl_y rfl (y_build rfl) ?_
      refine tl_e rfl (e_alloc (fun b2 => ?_))
      refine tl_e rfl (e_store rfl rfl (by rfl) (by rfl) inferInstance inferInstance inferInstance ?_)
      refine tl_nil (.then_normal ?_)
      refine .sub (F' := [(0, _), (1, _), (4, _), (9, _)]) (.cons rfl (.cons rfl (.cons rfl (.cons rfl .nil)))) ?_
      refine x_seq (x_seq (x_region ?_))
      refine tl_y rfl (y_move (v := .pointer _) rfl) ?_
      refine tl_y rfl (y_loadAgg rfl rfl (.own inferInstance inferInstance)) ?_
      refine tl_e rfl (e_call' rfl (Con.to (sL p d s A0 l0 c0 :: (b2, .cells (List.toArray [.int .u64 (x.toNat : Int), .slice A1 (cntOf a) c1]) 136 (0, 0)) :: (b1, .cells (List.toArray [.int .u64 0, .slice none 0 0]) 136 (0, 0)) :: R) inferInstance (bytesOf_spec (hg.mono hM1) hn hA1 (by omega))) ?_)
      rintro _ M2 _ hM2 ⟨rfl, A2, c2, rfl, hA2⟩
      refine tl_y rfl (y_move (v := .slice _ _ _) rfl) ?_
      refine tl_e rfl (e_call' rfl (Same_spec hA2 (h.mono (hM1.trans hM2))) ?_)
      rintro _ _ _ _ ⟨rfl, rfl, rfl⟩
      refine tl_y rfl (y_notd rfl) ?_
      refine tl_nil (.then_normal ?_)
      refine .sub (F' := [(4, _), (9, _), (48, _)]) (.cons rfl (.cons rfl (.cons rfl .nil))) ?_
      refine x_cond rfl (fun hc2 => ?_) (fun hc2 => ?_)
      ·
        refine x_seq (x_region ?_)
        refine tl_y rfl (y_build rfl) ?_
        refine tl_e rfl (e_store rfl rfl (by rfl) (by rfl) inferInstance inferInstance inferInstance ?_)
        refine tl_nil (.then_normal ?_)
        refine x_ret (.then_ret (retRV (L' := sL p d s A0 l0 c0 :: R) (rv1 rfl (rc_cellAgg (by rfl) rfl (.own inferInstance inferInstance))) inferInstance (hM1.trans hM2) (by
  rw [show readRec s.n a = (0, []) by rw [readRec, if_neg (by omega), hofx, if_neg hc2]]
  exact ⟨rfl, _, _, _, rfl, Row.nil _ _⟩)))
      ·
        refine x_skip (.then_normal ?_)
        refine x_seq (x_region ?_)
        refine tl_y rfl (y_loadAgg rfl rfl (.own inferInstance inferInstance)) ?_
        refine tl_e rfl (e_store rfl rfl (by rfl) (by rfl) inferInstance inferInstance inferInstance ?_)
        refine tl_nil (.then_normal ?_)
        refine x_ret (retRV (L' := sL p d s A0 l0 c0 :: R) (rv1 rfl (rc_cellAgg (by rfl) rfl (.own inferInstance inferInstance))) inferInstance (hM1.trans hM2) (by
  rw [show readRec s.n a = (x, datOf a) by rw [readRec, if_neg (by omega), hofx, if_pos (Classical.not_not.1 hc2)]]
  exact ⟨rfl, _, _, _, rfl, hA1.mono hM2⟩))
end
end Go.Proofs.YtbgdjdhbejbhkaaDoor
set_option linter.unusedVariables false
set_option linter.unusedSimpArgs false
namespace Go.Proofs.YtbgdjdhbejbhkaaDoor
open Go Go.Eng
section
variable {G : World} {M : Mem} {L R : Own} {p d : Nat} {r : DRep} {S : DS} {s : SS} {A0 : Option Addr} {l0 c0 : Nat}
def SK (p d : Nat) (S : DS) (s : SS) (R : Own) (M' : Mem) (L' : Own) : Prop := ∃ r' A l c, IsDisk M' r' S ∧ Bytes M' A l c s.b ∧ L' = dL d r' S (sL p d s A l c :: R)
theorem areaLen (h : IsDisk M r S) (ok : OkS S s) (hd : S.down = false) (i : Nat) (hi : i ≤ 1) : (areaB S (s.first + i * s.n) s.n).length = 64 * s.n :=
  areaB_length hd h.sl h.pl s.n (by have := ok.in_; have := Nat.mul_le_mul_right s.n hi; omega)
theorem load_spec (hg : ShaG M) (h : IsDisk M r S) (ok : OkS S s) (hb : Bytes M A0 l0 c0 s.b) :
    Con Tryd.prog 79 #[.pointer (some ⟨p, 0, none⟩)] G M (dL d r S (sL p d s A0 l0 c0 :: R))
      (fun v M' L' => (loadRes S s).2 = 0 ∧ SK p d S (loadRes S s).1 R M' L') (fun ch M' L' => ch = wrongs (loadRes S s).2 ∧ SK p d S (loadRes S s).1 R M' L') := by
  have hn := ok.n
  refine enter (args := [_]) (fn := Tryd.f79) ⟨Tryd.func79, rfl, by kernel_rfl, by kernel_rfl⟩ 49 rfl ?_
  refine x_seq (x_region ?_)
  refine tl_y rfl (y_move (v := .pointer _) rfl) ?_
  refine tl_e rfl (e_call rfl (area_spec h ok 0 (by omega)) (by
  rintro _ M1 _ hM1 ⟨hd, rfl, rfl⟩
  refine .retA rfl hM1 ?_
  rw [show loadRes S s = (s, 6) by rw [loadRes, if_pos hd]]
  exact ⟨rfl, r, A0, l0, c0, h.mono hM1, hb.mono hM1, rfl⟩) ?_)
  rintro _ M1 _ hM1 ⟨hd, rfl, A1, c1, rfl, hA1⟩
  refine tl_y rfl (y_move (v := .pointer _) rfl) ?_
  refine tl_e rfl (e_call rfl (area_spec (h.mono hM1) ok 1 (by omega)) (by
  rintro _ M2 _ hM2 ⟨hd', rfl, rfl⟩
  rw [hd] at hd'; cases hd') ?_)
  rintro _ M2 _ hM2 ⟨_, rfl, A2, c2, rfl, hA2⟩
  replace hA1 := hA1.mono hM2
  have hl1 : (areaB S s.first s.n).length = 64 * s.n := by simpa using areaLen h ok hd 0 (by omega)
  have hl2 : (areaB S (s.first + s.n) s.n).length = 64 * s.n := by simpa using areaLen h ok hd 1 (by omega)
  rw [show s.first + 0 * s.n = s.first by omega] at hA1
  rw [show s.first + 1 * s.n = s.first + s.n by omega] at hA2
  have hres : loadRes S s = loaded s (areaB S s.first s.n) (areaB S (s.first + s.n) s.n) := by rw [loadRes, if_neg (by simp [hd])]
  generalize areaB S s.first s.n = one at *
  generalize areaB S (s.first + s.n) s.n = two at *
  have hm := hM1.trans hM2
  refine tl_y rfl (y_assign (v := .slice _ _ _) rfl) ?_
  refine tl_y rfl (y_assign (v := .slice _ _ _) rfl) ?_
  refine tl_nil (.then_normal ?_)
  refine .sub (F' := [(0, _), (2, _), (3, _)]) (.cons rfl (.cons rfl (.cons rfl .nil))) ?_
  refine x_seq (x_region ?_)
  refine tl_y rfl (y_move (v := .pointer _) rfl) ?_
  refine tl_y rfl (y_move (v := .slice _ _ _) rfl) ?_
  refine tl_e rfl (e_call' rfl (Con.to (sL p d s A0 l0 c0 :: (d, .cells (List.toArray (dcells r S)) 134 (0, 0)) :: (r.E1 ++ (r.E2 ++ R))) inferInstance (read_spec (hg.mono hm) hn hA1 rfl)) ?_)
  rintro _ M3 _ hM3 ⟨rfl, A3, n3, c3, rfl, hA3⟩
  refine tl_y rfl (y_move (v := .pointer _) rfl) ?_
  refine tl_y rfl (y_move (v := .slice _ _ _) rfl) ?_
  refine tl_e rfl (e_call' rfl (read_spec (hg.mono (hm.trans hM3)) hn (hA2.mono hM3) rfl) ?_)
  rintro _ M4 _ hM4 ⟨rfl, A4, n4, c4, rfl, hA4⟩
  replace hA3 := hA3.mono hM4
  replace hm := hm.trans (hM3.trans hM4)
  replace hA1 := hA1.mono (hM3.trans hM4)
  replace hA2 := hA2.mono (hM3.trans hM4)
  refine tl_e rfl (e_alloc (fun b1 => ?_))
  refine tl_e rfl (e_alloc (fun b2 => ?_))
  refine tl_e rfl (e_store rfl rfl (by rfl) (by rfl) inferInstance inferInstance inferInstance ?_)
  refine tl_e rfl (e_store rfl rfl (by rfl) (by rfl) inferInstance inferInstance inferInstance ?_)
  refine tl_nil (.then_normal ?_)
  refine .sub (F' := [(0, _), (2, _), (3, _), (4, _), (5, _)]) (.cons rfl (.cons rfl (.cons rfl (.cons rfl (.cons rfl .nil))))) ?_
  refine x_seq ?_
  refine x_draw0 9 ([(b1, .cells (List.toArray [.int .u64 ((readRec s.n one).1.toNat : Int), .slice A3 n3 c3]) 136 (0, 0))]) Keeps.mem hmix rfl ?_
  refine to_p 0 rfl (by kernel_rfl) rfl (y_move (v := .pointer _) rfl) ?_
  refine to_p 1 rfl (by kernel_rfl) rfl (y_move (v := .pointer _) rfl) ?_
  refine to_y 2 rfl (by kernel_rfl) rfl (y_loadAgg rfl rfl (.own inferInstance inferInstance)) ?_
  refine to_p 3 rfl (by kernel_rfl) rfl (y_nilCheck rfl) ?_
  refine to_p 4 rfl (by kernel_rfl) rfl (y_fieldAddr rfl) ?_
  refine to_e 5 rfl (by kernel_rfl) rfl (e_store rfl rfl (by rfl) (by rfl) inferInstance inferInstance inferInstance ?_)
  refine ⟨⟨(by first | exact Le.refl _ | assumption), Keeps.mem⟩, ?_⟩
  refine to_p 6 rfl (by kernel_rfl) rfl (y_nilCheck rfl) ?_
  refine to_p 7 rfl (by kernel_rfl) rfl (y_fieldAddr rfl) ?_
  refine to_e 8 rfl (by kernel_rfl) rfl (e_store rfl rfl (by rfl) (by rfl) inferInstance inferInstance inferInstance ?_)
  refine ⟨⟨(by first | exact Le.refl _ | assumption), Keeps.mem⟩, ?_⟩
  refine to_nil (by kernel_rfl) (.then_normal ?_)
  refine .sub (F' := [(0, _), (2, _), (3, _), (4, _), (5, _)]) (.cons rfl (.cons rfl (.cons rfl (.cons rfl (.cons rfl .nil))))) ?_
  refine x_block ?_
  refine x_seq (x_region ?_)
  refine tl_y rfl (y_fieldAddr rfl) ?_
  refine tl_y rfl (y_load rfl rfl (.own inferInstance inferInstance)) ?_
  refine tl_y rfl (y_fieldAddr rfl) ?_
  refine tl_y rfl (y_load rfl rfl (.own inferInstance inferInstance)) ?_
  refine tl_y rfl (y_gtr rfl rfl) ?_
  refine tl_y rfl (y_assign (v := .bool _) rfl) ?_
  refine tl_nil (.then_normal ?_)
  refine .sub (F' := [(0, _), (2, _), (3, _), (4, _), (5, _), (24, _)]) (.cons rfl (.cons rfl (.cons rfl (.cons rfl (.cons rfl (.cons rfl .nil)))))) ?_
  refine x_cond rfl (fun hc1 => ?_) (fun hc1 => ?_)
  ·
    refine x_draw0 9 ([(b2, .cells (List.toArray [.int .u64 ((readRec s.n two).1.toNat : Int), .slice A4 n4 c4]) 136 (0, 0))]) Keeps.mem hmix rfl ?_
    refine to_p 0 rfl (by kernel_rfl) rfl (y_move (v := .pointer _) rfl) ?_
    refine to_p 1 rfl (by kernel_rfl) rfl (y_move (v := .pointer _) rfl) ?_
    refine to_y 2 rfl (by kernel_rfl) rfl (y_loadAgg rfl rfl (.own inferInstance inferInstance)) ?_
    refine to_p 3 rfl (by kernel_rfl) rfl (y_nilCheck rfl) ?_
    refine to_p 4 rfl (by kernel_rfl) rfl (y_fieldAddr rfl) ?_
    refine to_e 5 rfl (by kernel_rfl) rfl (e_store rfl rfl (by rfl) (by rfl) inferInstance inferInstance inferInstance ?_)
    refine ⟨⟨(by first | exact Le.refl _ | assumption), Keeps.mem⟩, ?_⟩
    refine to_p 6 rfl (by kernel_rfl) rfl (y_nilCheck rfl) ?_
    refine to_p 7 rfl (by kernel_rfl) rfl (y_fieldAddr rfl) ?_
    refine to_e 8 rfl (by kernel_rfl) rfl (e_store rfl rfl (by rfl) (by rfl) inferInstance inferInstance inferInstance ?_)
    refine ⟨⟨(by first | exact Le.refl _ | assumption), Keeps.mem⟩, ?_⟩
    refine to_nil (by kernel_rfl) (.block_normal (.dropTo (dL d r S (sL p d { s with at_ := 1, num := (readRec s.n two).1, b := (readRec s.n two).2 } A4 n4 c4 :: R)) inferInstance (end0 rfl hm (by
  rw [hres, loaded, if_pos (by omega)]
  exact ⟨rfl, r, _, _, _, h.mono hm, hA4, rfl⟩))))
  ·
    refine x_seq (x_region ?_)
    refine tl_y rfl (y_fieldAddr rfl) ?_
    refine tl_y rfl (y_load rfl rfl (.own inferInstance inferInstance)) ?_
    refine tl_y rfl (y_gtr rfl rfl) ?_
    refine tl_y rfl (y_assign (v := .bool _) rfl) ?_
    refine tl_nil (.then_normal ?_)
    refine .sub (F' := [(2, _), (3, _), (37, _)]) (.cons rfl (.cons rfl (.cons rfl .nil))) ?_
    refine x_cond rfl (fun hc2 => ?_) (fun hc2 => ?_)
    ·
      refine x_skip (.block_normal (.dropTo (dL d r S (sL p d { s with at_ := 0, num := (readRec s.n one).1, b := (readRec s.n one).2 } A3 n3 c3 :: R)) inferInstance (end0 rfl hm (by
  rw [hres, loaded, if_neg (by omega), if_pos (by omega)]
  exact ⟨rfl, r, _, _, _, h.mono hm, hA3, rfl⟩))))
    ·
      refine x_seq (x_region ?_)
      refine tl_y rfl (y_move (v := .slice _ _ _) rfl) ?_
      refine tl_e rfl (e_call' rfl (blank_spec hA1) ?_)
      rintro _ _ _ _ ⟨rfl, rfl, rfl⟩
      refine tl_y rfl (y_move (v := .bool _) rfl) ?_
      refine tl_casesb (s := 44) rfl (fun hk1 => ?_) (fun hk1 => ?_)
      ·
        refine tl_skip rfl ?_
        refine tl_skip rfl ?_
        refine tl_y rfl (y_pickT rfl rfl) ?_
        refine tl_y rfl (y_assign (v := .bool _) rfl) ?_
        refine tl_nil (.then_normal ?_)
        refine .sub (F' := [(41, _)]) (.cons rfl .nil) ?_
        refine x_true rfl rfl ?_
        refine x_region ?_
        refine tl_e rfl (e_call rfl (well_spec 11) (by
  rintro _ _ _ _ ⟨rfl, rfl, rfl, _⟩
  refine .dropTo (dL d r S (sL p d { s with at_ := 0, num := (readRec s.n one).1, b := (readRec s.n one).2 } A3 n3 c3 :: R)) inferInstance (.retA rfl hm ?_)
  rw [hres, loaded, if_neg (by omega), if_neg (by omega), if_pos (.inl hk1)]
  exact ⟨rfl, r, _, _, _, h.mono hm, hA3, rfl⟩) ?_)
        rintro _ _ _ _ ⟨rfl, rfl, hz⟩
        refine tl_nil (.block_normal (end0 rfl hm (absurd hz (by decide))))
      ·
        refine tl_y rfl (y_move (v := .slice _ _ _) rfl) ?_
        refine tl_e rfl (e_call' rfl (blank_spec hA2) ?_)
        rintro _ _ _ _ ⟨rfl, rfl, rfl⟩
        refine tl_y rfl (y_pickF rfl rfl) ?_
        refine tl_y rfl (y_assign (v := .bool _) rfl) ?_
        refine tl_nil (.then_normal ?_)
        refine .sub (F' := [(41, _)]) (.cons rfl .nil) ?_
        refine x_condb rfl (fun hc3 => ?_) (fun hc3 => ?_)
        ·
          refine x_region ?_
          refine tl_e rfl (e_call rfl (well_spec 11) (by
  rintro _ _ _ _ ⟨rfl, rfl, rfl, _⟩
  refine .dropTo (dL d r S (sL p d { s with at_ := 0, num := (readRec s.n one).1, b := (readRec s.n one).2 } A3 n3 c3 :: R)) inferInstance (.retA rfl hm ?_)
  rw [hres, loaded, if_neg (by omega), if_neg (by omega), if_pos (.inr hc3)]
  exact ⟨rfl, r, _, _, _, h.mono hm, hA3, rfl⟩) ?_)
          rintro _ _ _ _ ⟨rfl, rfl, hz⟩
          refine tl_nil (.block_normal (end0 rfl hm (absurd hz (by decide))))
        ·
          refine x_region ?_
          refine tl_e rfl (e_call rfl (well_spec 8) (by
  rintro _ _ _ _ ⟨rfl, rfl, rfl, _⟩
  refine .dropTo (dL d r S (sL p d { s with at_ := 0, num := (readRec s.n one).1, b := (readRec s.n one).2 } A3 n3 c3 :: R)) inferInstance (.retA rfl hm ?_)
  rw [hres, loaded, if_neg (by omega), if_neg (by omega), if_neg (by rw [hk1, hc3]; simp)]
  exact ⟨rfl, r, _, _, _, h.mono hm, hA3, rfl⟩) ?_)
          rintro _ _ _ _ ⟨rfl, rfl, hz⟩
          refine tl_nil (.block_normal (end0 rfl hm (absurd hz (by decide))))
theorem Now_spec (hb : Bytes M A0 l0 c0 s.b) (hbl : s.b.length ≤ 140737488355328) :
    Con Tryd.prog 32 #[.pointer (some ⟨p, 0, none⟩)] G M (sL p d s A0 l0 c0 :: R) (fun v M' L' => L' = sL p d s A0 l0 c0 :: R ∧ ∃ A c, v = .tuple #[.slice A l0 c, .int .u64 (s.num.toNat : Int)] ∧ Bytes M' A l0 c s.b) noPanic := by
  have hl := hb.size
  refine enter (args := [_]) (fn := Tryd.f32) ⟨Tryd.func32, rfl, by kernel_rfl, by kernel_rfl⟩ 15 rfl ?_
  refine x_seq (x_region ?_)
  refine tl_y rfl (y_assign rfl) ?_
  refine tl_y rfl (y_assign rfl) ?_
  refine tl_nil (.then_normal ?_)
  refine x_seq ?_
  refine x_draw 13 hmix rfl ?_
  refine to_p 0 rfl (by kernel_rfl) rfl (y_move (v := .pointer _) rfl) ?_
  refine to_p 1 rfl (by kernel_rfl) rfl (y_nilCheck rfl) ?_
  refine to_p 2 rfl (by kernel_rfl) rfl (y_fieldAddr rfl) ?_
  refine to_p 3 rfl (by kernel_rfl) rfl (y_fieldAddr rfl) ?_
  refine to_y 4 rfl (by kernel_rfl) rfl (y_load rfl rfl (.own inferInstance inferInstance)) ?_
  refine to_p 6 rfl (by kernel_rfl) rfl (y_move (v := .pointer _) rfl) ?_
  refine to_p 7 rfl (by kernel_rfl) rfl (y_nilCheck rfl) ?_
  refine to_p 8 rfl (by kernel_rfl) rfl (y_fieldAddr rfl) ?_
  refine to_p 9 rfl (by kernel_rfl) rfl (y_fieldAddr rfl) ?_
  refine to_y 10 rfl (by kernel_rfl) rfl (y_load rfl rfl (.own inferInstance inferInstance)) ?_
  refine to_e 5 rfl (by kernel_rfl) rfl (e_call' rfl (bytesClone_spec hb (by omega)) ?_)
  rintro _ M1 _ hM1 ⟨rfl, A1, c1, rfl, hA1⟩
  refine ⟨⟨(by first | exact Le.refl _ | assumption), Keeps.mem⟩, ?_⟩
  refine to_p 11 rfl (by kernel_rfl) rfl (y_assign (v := .slice _ _ _) rfl) ?_
  refine to_p 12 rfl (by kernel_rfl) rfl (y_assign (v := .int _ _) rfl) ?_
  refine to_nil (by kernel_rfl) (.then_normal ?_)
  refine .sub (F' := [(2, _), (3, _)]) (.cons rfl (.cons rfl .nil)) ?_
  refine x_ret (ret2 rfl rfl rfl hM1 ⟨rfl, A1, c1, rfl, hA1⟩)
/-- What 'Load' tells. -/
def loadTold (S : DS) (s : SS) : List UInt8 × UInt64 := if (loadRes S s).2 = 0 then ((loadRes S s).1.b, (loadRes S s).1.num) else ([], 0)
theorem Load_spec (hg : ShaG M) (h : IsDisk M r S) (ok : OkS S s) (hb : Bytes M A0 l0 c0 s.b) :
    Con Tryd.prog 29 #[.pointer (some ⟨p, 0, none⟩)] G M (dL d r S (sL p d s A0 l0 c0 :: R))
      (fun v M' L' => SK p d S (loadRes S s).1 R M' L' ∧ ∃ A n c, v = .tuple #[.slice A n c, .int .u64 ((loadTold S s).2.toNat : Int), .int .i64 (loadRes S s).2] ∧ Bytes M' A n c (loadTold S s).1) noPanic := by
  have hok := loadRes_ok ok
  refine enter (args := [_]) (fn := Tryd.f29) ⟨Tryd.func29, rfl, by kernel_rfl, by kernel_rfl⟩ 21 rfl ?_
  refine x_seq (x_region ?_)
  refine tl_y rfl (y_assign rfl) ?_
  refine tl_y rfl (y_assign rfl) ?_
  refine tl_y rfl (y_assign rfl) ?_
  refine tl_nil (.then_normal ?_)
  refine x_seq (x_seq (x_region ?_))
  refine tl_y rfl (y_move (v := .pointer _) rfl) ?_
  refine tl_y rfl (y_makeFunc rfl rfl) ?_
  refine tl_e rfl (e_call' rfl (caught_spec (first := [.pointer (some ⟨p, 0, none⟩)]) (cap := []) (K := fun M' L' => (loadRes S s).2 = 0 ∧ SK p d S (loadRes S s).1 R M' L') (Kc := fun e M' L' => e = (loadRes S s).2 ∧ SK p d S (loadRes S s).1 R M' L') (fun b o => (Con.to (dL d r S (sL p d s A0 l0 c0 :: (b, o) :: R)) inferInstance (load_spec hg h ok hb)).postP
  (fun v M' L' _ ⟨h0, r', A', l', c', k1, k2, e⟩ => ⟨(b, o) :: dL d r' S (sL p d (loadRes S s).1 A' l' c' :: R), by rw [e]; infer_instance, _, rfl, h0, r', A', l', c', k1, k2, rfl⟩)
  (fun ch M' L' _ ⟨h0, r', A', l', c', k1, k2, e⟩ => ⟨(b, o) :: dL d r' S (sL p d (loadRes S s).1 A' l' c' :: R), by rw [e]; infer_instance, _, _, h0, rfl, rfl, r', A', l', c', k1, k2, rfl⟩))) ?_)
  rintro v1 M1 L1 hM1 hv
  obtain ⟨e, rfl, he, r1, A1, l1, c1, hd1, hb1, rfl⟩ : ∃ e, v1 = Value.int .i64 e ∧ e = (loadRes S s).2 ∧ SK p d S (loadRes S s).1 R M1 L1 := by
    rcases hv with ⟨rfl, h0, hk⟩ | ⟨e, rfl, h0, hk⟩
    · exact ⟨0, rfl, h0.symm, hk⟩
    · exact ⟨e, rfl, h0, hk⟩
  subst he
  have hl1 := hb1.size
  refine tl_y rfl (y_assign (v := .int _ _) rfl) ?_
  refine tl_nil (.then_normal ?_)
  refine .sub (F' := [(0, _), (5, _)]) (.cons rfl (.cons rfl .nil)) ?_
  refine x_seq (x_region ?_)
  refine tl_y rfl (y_move (v := .int _ _) rfl) ?_
  refine tl_y rfl (y_neq rfl rfl) ?_
  refine tl_nil (.then_normal ?_)
  refine x_cond rfl (fun hc1 => ?_) (fun hc1 => ?_)
  ·
    refine x_seq (x_region ?_)
    refine tl_y rfl (y_move (v := .int _ _) rfl) ?_
    refine tl_y rfl (y_assign rfl) ?_
    refine tl_y rfl (y_assign rfl) ?_
    refine tl_y rfl (y_assign (v := .int _ _) rfl) ?_
    refine tl_nil (.then_normal ?_)
    refine .sub (F' := [(2, _), (3, _), (4, _)]) (.cons rfl (.cons rfl (.cons rfl .nil))) ?_
    refine x_ret (.then_ret (ret3 rfl rfl rfl rfl hM1 ⟨⟨r1, A1, l1, c1, hd1, hb1, rfl⟩, none, 0, 0, by rw [show loadTold S s = ([], 0) by rw [loadTold, if_neg hc1]]; rfl, by rw [show loadTold S s = ([], 0) by rw [loadTold, if_neg hc1]]; exact Row.nil _ _⟩))
  ·
    refine x_skip (.then_normal ?_)
    refine x_seq (x_region ?_)
    refine tl_y rfl (y_move (v := .pointer _) rfl) ?_
    refine tl_e rfl (e_call' rfl (Con.to (sL p d (loadRes S s).1 A1 l1 c1 :: (d, .cells (List.toArray (dcells r1 S)) 134 (0, 0)) :: (r1.E1 ++ (r1.E2 ++ R))) inferInstance (Now_spec hb1 (by have := hok.b; have := hok.n; omega))) ?_)
    rintro _ M2 _ hM2 ⟨rfl, A2, c2, rfl, hA2⟩
    refine tl_y rfl (y_move (v := .tuple _) rfl) ?_
    refine tl_y rfl (y_extract rfl) ?_
    refine tl_y rfl (y_extract rfl) ?_
    refine tl_y rfl (y_assign (v := .slice _ _ _) rfl) ?_
    refine tl_y rfl (y_assign (v := .int _ _) rfl) ?_
    refine tl_nil (.then_normal ?_)
    refine .sub (F' := [(6, _), (7, _)]) (.cons rfl (.cons rfl .nil)) ?_
    refine x_seq (x_region ?_)
    refine tl_y rfl (y_move (v := .slice _ _ _) rfl) ?_
    refine tl_y rfl (y_move (v := .int _ _) rfl) ?_
    refine tl_y rfl (y_assign (v := .slice _ _ _) rfl) ?_
    refine tl_y rfl (y_assign (v := .int _ _) rfl) ?_
    refine tl_y rfl (y_assign rfl) ?_
    refine tl_nil (.then_normal ?_)
    refine .sub (F' := [(2, _), (3, _), (4, _)]) (.cons rfl (.cons rfl (.cons rfl .nil))) ?_
    refine x_ret (.dropTo (dL d r1 S (sL p d (loadRes S s).1 A1 l1 c1 :: R)) inferInstance (ret3 rfl rfl rfl rfl (hM1.trans hM2) (by
  have h0 : (loadRes S s).2 = 0 := by omega
  rw [show loadTold S s = ((loadRes S s).1.b, (loadRes S s).1.num) by rw [loadTold, if_pos h0], h0]
  exact ⟨⟨r1, A1, l1, c1, hd1.mono hM2, hb1.mono hM2, rfl⟩, A2, l1, c2, rfl, hA2⟩)))
end
end Go.Proofs.YtbgdjdhbejbhkaaDoor
