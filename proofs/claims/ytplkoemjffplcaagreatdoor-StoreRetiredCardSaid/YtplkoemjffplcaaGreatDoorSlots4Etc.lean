/-
Contracts of functions, each proved by a walk through its code.
-/
import Derived.Test.YtplkoemjffplcaaGreatDoorHss15Etc
import Derived.Test.YtplkoemjffplcaaGreatDoorDisk3Etc
set_option linter.all false
namespace Go.Proofs.YtplkoemjffplcaaGreatDoor
open Go Go.Eng
theorem saveGo_stuck {S : DS} {a : Nat} {all : List UInt8} {k : Nat} (h : (saveGo S a all k).2 ≠ 0) : ∀ j, saveGo S a all (k + j) = saveGo S a all k
 | 0 => rfl
 | j + 1 => by
  have ih := saveGo_stuck h j
  rw [show k + (j + 1) = (k + j) + 1 from rfl, saveGo, ih, if_pos h]
section
variable {G : World} {M : Mem} {L R : Own} {p d : Nat} {r : DRep} {S : DS} {s : SS} {A0 : Option Addr} {l0 c0 : Nat}
theorem sNew2_spec (h : IsDisk M r S) (first n : Int) :
  Con Tryz.prog 87 #[.pointer (some ⟨d, 0, none⟩), .int .i64 first, .int .i64 n] G M (dL d r S R)
   (fun v M' L' => if 1 ≤ n ∧ n ≤ 8 ∧ 0 ≤ first ∧ first + 2 * n ≤ S.sure.length then ∃ p, v = .tuple #[.pointer (some ⟨p, 0, none⟩), .int .i64 0] ∧ SK p d S ⟨first.toNat, n.toNat, 0, 0, []⟩ R M' L' else v = .tuple #[.pointer none, .int .i64 1] ∧ ∃ r', IsDisk M' r' S ∧ L' = dL d r' S R) noPanic := by
 have hsz := h.sz
 have hsn := h.sn
 refine en Tryz.func87 rfl 33 rfl <| zr <| as0 rfl rfl <| as0 rfl rfl <| zq <| zr2 <| mvI rfl rfl <| tl_y rfl (y_lss rfl rfl) <| mvB rfl rfl <| tl_cases (s := 10) rfl (fun hk1 => ?_) (fun hk1 => ?_)
 ·
  refine tl_skip rfl <| tl_skip rfl <| tPt rfl rfl rfl <| mvB rfl rfl <| tl_skip rfl <| tl_skip rfl <| tPt rfl rfl rfl <| mvB rfl rfl <| tl_skip rfl <| tl_skip rfl <| tl_skip rfl <| tl_skip rfl <| tl_skip rfl <| tl_skip rfl <| tl_skip rfl <| tl_skip rfl <| tPt rfl rfl rfl <| zq <| .s4 0 1 2 27 rfl rfl rfl rfl <| x_true rfl rfl <| zr <| as0 rfl rfl <| as0 rfl rfl <| zq <| .s2 6 7 rfl rfl <| x_ret (.then_ret (ret2 rfl rfl rfl (Le.refl _) (by rw [if_neg (by omega)]; exact ⟨rfl, r, h, rfl⟩)))
 refine mvI rfl rfl <| tl_y rfl (y_gtr rfl rfl) <| tPf rfl rfl rfl <| mvB rfl rfl <| tl_cases (s := 14) rfl (fun hk2 => ?_) (fun hk2 => ?_)
 ·
  refine tl_skip rfl <| tl_skip rfl <| tPt rfl rfl rfl <| mvB rfl rfl <| tl_skip rfl <| tl_skip rfl <| tl_skip rfl <| tl_skip rfl <| tl_skip rfl <| tl_skip rfl <| tl_skip rfl <| tl_skip rfl <| tPt rfl rfl rfl <| zq <| .s4 0 1 2 27 rfl rfl rfl rfl <| x_true rfl rfl <| zr <| as0 rfl rfl <| as0 rfl rfl <| zq <| .s2 6 7 rfl rfl <| x_ret (.then_ret (ret2 rfl rfl rfl (Le.refl _) (by rw [if_neg (by omega)]; exact ⟨rfl, r, h, rfl⟩)))
 refine mvI rfl rfl <| tl_y rfl (y_lss rfl rfl) <| tPf rfl rfl rfl <| mvB rfl rfl <| tl_cases (s := 18) rfl (fun hk3 => ?_) (fun hk3 => ?_)
 ·
  refine tl_skip rfl <| tl_skip rfl <| tl_skip rfl <| tl_skip rfl <| tl_skip rfl <| tl_skip rfl <| tl_skip rfl <| tl_skip rfl <| tPt rfl rfl rfl <| zq <| .s4 0 1 2 27 rfl rfl rfl rfl <| x_true rfl rfl <| zr <| as0 rfl rfl <| as0 rfl rfl <| zq <| .s2 6 7 rfl rfl <| x_ret (.then_ret (ret2 rfl rfl rfl (Le.refl _) (by rw [if_neg (by omega)]; exact ⟨rfl, r, h, rfl⟩)))
 refine mvI rfl rfl <| mvP rfl rfl <| ec rfl rfl (Sure_spec h) ?_
 rintro _ M1 _ hM1 ⟨rfl, A1, n1, c1, vs1, rfl, hA1, hb1⟩
 have hn1 := hA1.len
 have hn2 := hb1.len
 obtain rfl : n1 = S.sure.length := by omega
 refine tLen rfl rfl <| mvI rfl rfl <| tl_y rfl (y_mulI rfl rfl (by omega)) <| tl_y rfl (y_subI rfl rfl (by omega)) <| tl_y rfl (y_gtr rfl rfl) <| tPf rfl rfl rfl <| zq <| .s4 0 1 2 27 rfl rfl rfl rfl <| x_cond rfl (fun hc1 => ?_) (fun hc1 => ?_)
 ·
  refine zr <| as0 rfl rfl <| as0 rfl rfl <| zq <| .s2 6 7 rfl rfl <| x_ret (.then_ret (ret2 rfl rfl rfl hM1 (by rw [if_neg (by omega)]; exact ⟨rfl, r, h.mono hM1, rfl⟩)))
 obtain ⟨f, rfl⟩ : ∃ f : Nat, first = f := ⟨first.toNat, by omega⟩
 obtain ⟨n, rfl⟩ : ∃ k : Nat, n = k := ⟨n.toNat, by omega⟩
 refine x_skip <| .then_normal <| zr <| mvP rfl rfl <| mvI rfl rfl <| mvI rfl rfl <| tl_y rfl (y_build rfl) <| tl_e rfl <| e_box rfl <| fun b1 => asP rfl rfl <| as0 rfl rfl <| zq <| .s2 6 7 rfl rfl <| x_ret (.eqL (L' := sL b1 d ⟨f, n, 0, 0, []⟩ none 0 0 :: dL d r S R) rfl (.to (dL d r S (sL b1 d ⟨f, n, 0, 0, []⟩ none 0 0 :: R)) ii (ret2 rfl rfl rfl hM1 (by rw [if_pos (by omega)]; exact ⟨b1, rfl, r, none, 0, 0, h.mono hM1, Row.nil _ _, rfl⟩))))
abbrev sbox (x0 x1 x2 p : Nat) (num : UInt64) (to : Nat) (A : Option Addr) (l c : Nat) (R : Own) : Own :=
 (x2, .cells #[.int .i64 to] 3 (0, 0)) :: (x1, .cells #[.int .u64 (num.toNat : Int), .slice A l c] 213 (0, 0)) :: (x0, .cells #[.pointer (some ⟨p, 0, none⟩)] 92 (0, 0)) :: R
theorem Save1_spec (hg : ShaG M) (h : IsDisk M r S) (ok : OkS S s) {B : Nat} (hw : S.within B) (hB : B ≤ 1000000) (hb : Bytes M A0 l0 c0 s.b) {A : Option Addr} {l c : Nat} {b : List UInt8} (hr : Bytes M A l c b) (hbl : b.length + 28 ≤ 64 * s.n) {x0 x1 x2 be : Nat} {oe : Obj} :
  Con Tryz.prog 181 #[.pointer (some ⟨x0, 0, none⟩), .pointer (some ⟨x1, 0, none⟩), .pointer (some ⟨x2, 0, none⟩)] G M (dL d r S (sL p d s A0 l0 c0 :: (be, oe) :: sbox x0 x1 x2 p (s.num + 1) s.to A l c R))
   (fun v M' L' => (saveRes S s b).2 = 0 ∧ SK p d (saveRes S s b).1.1 (saveRes S s b).1.2 ((be, oe) :: sbox x0 x1 x2 p (s.num + 1) s.to A l c R) M' L')
   (fun ch M' L' => ch = wrongs (saveRes S s b).2 ∧ SK p d (saveRes S s b).1.1 (saveRes S s b).1.2 ((be, oe) :: sbox x0 x1 x2 p (s.num + 1) s.to A l c R) M' L') := by
 have hn := ok.n
 have hin := ok.in_
 have hsz := h.sz
 have hto : s.to ≤ 1 := by have := to_le s; have := ok.at_; omega
 have hmul : (s.to : Int) * (s.n : Int) = ((s.to * s.n : Nat) : Int) := by simp
 have hq := Nat.mul_le_mul_right s.n hto
 have hsv : saveRes S s b = if (laid S s b).2 ≠ 0 then (((laid S s b).1, s), (laid S s b).2) else if (flushRes (laid S s b).1).2 ≠ 0 then (((flushRes (laid S s b).1).1, s), (flushRes (laid S s b).1).2) else (((flushRes (laid S s b).1).1, s.saved b), 0) := by
  unfold saveRes; rw [if_neg (by omega)]
 have hla : laid S s b = saveGo S (s.first + s.to * s.n) (recB s.n (s.num + 1) b) s.n := rfl
 have hrl := recB_length (num := s.num + 1) hbl
 generalize hq' : s.to * s.n = q at hmul hq hla
 generalize hall : recB s.n (s.num + 1) b = all at hla hrl
 refine en Tryz.func181 rfl 56 rfl <| zr <| tLd rfl rfl rfl <| tLg rfl rfl rfl <| ec rfl rfl (Con.to (sL p d s A0 l0 c0 :: (d, .cells (List.toArray (dcells r S)) 75 (0, 0)) :: (r.E1 ++ (r.E2 ++ ((be, oe) :: sbox x0 x1 x2 p (s.num + 1) s.to A l c R)))) ii (bytesOf_spec hg hn hr hbl)) ?_
 rintro _ M1 _ hM1 ⟨rfl, A1, c1, rfl, hA1⟩
 rw [hall] at hA1
 have hc1le := hA1.le
 refine .to (dL d r S (sL p d s A0 l0 c0 :: (be, oe) :: sbox x0 x1 x2 p (s.num + 1) s.to A l c R)) ii <| asS rfl rfl <| zq <| zr2 <| tLd rfl rfl rfl <| zc rfl rfl <| tFa rfl rfl <| tLd rfl rfl rfl <| mv0 rfl rfl <| zq <| .s6 0 1 2 3 11 12 rfl rfl rfl rfl rfl rfl <| x_block ?_
 refine x_loop (I := fun m' F D M2 L2 => ∃ (k : Nat) (r2 : DRep), m' = s.n - k ∧ k ≤ s.n ∧ Le M1 M2 ∧ (saveGo S (s.first + q) all k).2 = 0 ∧ IsDisk M2 r2 (saveGo S (s.first + q) all k).1 ∧ D = [] ∧ L2 = dL d r2 (saveGo S (s.first + q) all k).1 (sL p d s A0 l0 c0 :: (be, oe) :: sbox x0 x1 x2 p (s.num + 1) s.to A l c R) ∧ F = [(0, .pointer (some ⟨x0, 0, none⟩)), (1, .pointer (some ⟨x1, 0, none⟩)), (2, .pointer (some ⟨x2, 0, none⟩)), (3, .slice A1 (64 * s.n) c1), (11, .int .i64 s.n), (12, .int .i64 k)]) (s.n) (F0 := [(0, _), (1, _), (2, _), (3, _), (11, _), (12, _)]) ?_ (cs6 rfl rfl rfl rfl rfl rfl) ?_
 ·
  exact ⟨0, r, rfl, by omega, Le.refl _, rfl, h.mono hM1, rfl, rfl, rfl⟩
 rintro m _ _ M2 L2 ⟨k, r2, rfl, hk, hM2, h0, hd2, rfl, rfl, rfl⟩
 refine zr <| tl_y rfl (y_lss rfl rfl) <| zq <| x_seq <| x_cond rfl (fun hc1 => ?_) (fun hc1 => ?_)
 ·
  have hkn : k < s.n := by omega
  have hw2 := saveGo_within hw (s.first + q) all k
  have hgo : saveGo S (s.first + q) all (k + 1) = writeRes (saveGo S (s.first + q) all k).1 ((s.first + q + k : Nat) : Int) ((all.drop (64 * k)).take 64) := by rw [saveGo, if_neg (by simp [h0])]
  have hrow : Bytes M2 (sl A1 ((k : Int) * 64).toNat c1 1) ((((k : Int) + 1) * 64).toNat - ((k : Int) * 64).toNat) (c1 - ((k : Int) * 64).toNat) ((all.drop (64 * k)).take 64) := by
   have h1 := Bytes.sub (hA1.mono hM2) (64 * k) (64 * (k + 1)) (by omega) (by omega)
   rw [show 64 * (k + 1) - 64 * k = 64 by omega] at h1
   rw [show ((k : Int) * 64).toNat = 64 * k by omega, show (((k : Int) + 1) * 64).toNat - 64 * k = 64 by omega]
   exact h1
  refine x_skip <| .then_normal <| x_seq <| x_block <| zr <| mvI rfl rfl <| asI rfl rfl <| zq <| x_draw0 26 ([(x2, .cells #[.int .i64 s.to] 3 (0, 0)), (x0, .cells #[.pointer (some ⟨p, 0, none⟩)] 92 (0, 0)), sL p d s A0 l0 c0]) Keeps.mem hmix rfl <| zy 0 rfl rfl (y_ld rfl rfl) <| zp 1 rfl rfl (y_nilCheck rfl) ?_
  refine zp 2 rfl rfl (y_fieldAddr rfl) <| zy 3 rfl rfl (y_ld rfl rfl) <| zy 4 rfl rfl (y_ld rfl rfl) <| zp 5 rfl rfl (y_nilCheck rfl) <| zp 6 rfl rfl (y_fieldAddr rfl) <| zy 7 rfl rfl (y_ld rfl rfl) <| zy 8 rfl rfl (y_ld rfl rfl) <| zy 9 rfl rfl (y_ld rfl rfl) <| zp 10 rfl rfl (y_nilCheck rfl) <| zp 11 rfl rfl (y_fieldAddr rfl) ?_
  refine zy 12 rfl rfl (y_ld rfl rfl) <| zp 13 rfl rfl (y_mulI rfl rfl (by rw [hmul]; omega)) ?_
  rw [hmul]
  refine zp 14 rfl rfl (y_addI rfl rfl (by omega)) <| zp 15 rfl rfl (y_move (v := .int _ _) rfl) <| zp 16 rfl rfl (y_addI rfl rfl (by omega)) ?_
  rw [show ((s.first : Int) + (q : Int)) + (k : Int) = ((s.first + q + k : Nat) : Int) by omega]
  refine zp 17 rfl rfl (y_move (v := .slice _ _ _) rfl) <| zp 18 rfl rfl (y_move (v := .int _ _) rfl) <| zp 19 rfl rfl (y_mulI rfl rfl (by omega)) <| zp 20 rfl rfl (y_move (v := .int _ _) rfl) <| zp 21 rfl rfl (y_addI rfl rfl (by omega)) <| zp 22 rfl rfl (y_mulI rfl rfl (by omega)) <| zp 23 rfl rfl (y_sliceLH rfl rfl rfl (by omega) (by omega)) <| ze 24 rfl rfl <| e_call' rfl (Write_spec hd2 (by have := hw2.1; have := hw2.2.1; omega) (by have := hw2.2.2; omega) hrow) ?_
  rintro _ M3 _ hM3 ⟨⟨r3, hd3, rfl⟩, rfl⟩
  rw [← hgo] at hd3 ⊢
  refine ⟨⟨hM3, Keeps.mem⟩, ?_⟩
  refine to_e 25 rfl (by kernel_rfl) rfl (e_call rfl (well_spec _) (by
   rintro _ _ _ _ ⟨rfl, rfl, rfl, hne⟩
   refine .retA rfl (hM1.trans (hM2.trans hM3)) ?_
   have hst := saveGo_stuck hne (s.n - (k + 1))
   rw [show k + 1 + (s.n - (k + 1)) = s.n by omega, ← hla] at hst
   rw [← hst] at hd3 hne ⊢
   rw [hsv, if_pos hne]
   exact ⟨rfl, r3, A0, l0, c0, hd3, hb.mono (hM1.trans (hM2.trans hM3)), rfl⟩) ?_)
  rintro _ _ _ _ ⟨rfl, rfl, h1⟩
  refine ⟨⟨hM3, Keeps.mem⟩, ?_⟩
  refine zz <| .block_normal <| .then_normal <| .s6 0 1 2 3 11 12 rfl rfl rfl rfl rfl rfl <| x_region <| tl_y rfl (y_addI rfl rfl (by omega)) <| mvI rfl rfl <| tl_nil <| .loop_next (m' := s.n - (k + 1)) (by omega) (F' := [(0, _), (1, _), (2, _), (3, _), (11, _), (12, _)]) (cs6 rfl rfl rfl rfl rfl rfl) ?_
  exact ⟨k + 1, r3, rfl, by omega, hM2.trans hM3, h1, hd3, rfl, rfl, rfl⟩
 obtain rfl : k = s.n := by omega
 rw [← hla] at h0 hd2 ⊢
 have hw2 : (laid S s b).1.within (B + s.n) := by rw [hla]; exact saveGo_within hw _ _ _
 have hm := hM1.trans hM2
 refine x_exit <| .then_exit <| .loop_exit <| .block_exit <| .then_normal <| .s3 0 1 2 rfl rfl rfl <| zr <| tLd rfl rfl rfl <| zc rfl rfl <| tFa rfl rfl <| tLd rfl rfl rfl <| ec rfl rfl (Flush_spec hd2 (by have := hw2.1; have := hw2.2.1; omega) (by have := hw2.2.2; omega)) ?_
 rintro _ M3 _ hM3 ⟨⟨r3, hd3, rfl⟩, rfl⟩
 replace hm := hm.trans hM3
 refine tl_e rfl (e_call rfl (well_spec _) (by
  rintro _ _ _ _ ⟨rfl, rfl, rfl, hne⟩
  refine .retA rfl hm ?_
  rw [hsv, if_neg (by simp [h0]), if_pos hne]
  exact ⟨rfl, r3, A0, l0, c0, hd3, hb.mono hm, rfl⟩) ?_)
 rintro _ _ _ _ ⟨rfl, rfl, h1⟩
 refine zq <| .s3 0 1 2 rfl rfl rfl <| x_region <| tLd rfl rfl rfl <| tLd rfl rfl rfl <| tLd rfl rfl rfl <| tLg rfl rfl rfl <| zc rfl rfl <| tFa rfl rfl <| tl_e rfl <| e_st rfl rfl (by rfl) (by rfl) <| zc rfl rfl <| tFa rfl rfl <| tl_e rfl <| e_st rfl rfl (by rfl) (by rfl) <| tl_nil (.dropTo (dL d r3 (flushRes (laid S s b).1).1 (sL p d { s with at_ := s.to, num := s.num + 1, b := b } A l c :: (be, oe) :: sbox x0 x1 x2 p (s.num + 1) s.to A l c R)) ii (end0 rfl hm (by
  rw [hsv, if_neg (by simp [h0]), if_neg (by simp [h1])]
  exact ⟨rfl, r3, A, l, c, hd3, hr.mono hm, rfl⟩)))
theorem Save_spec (hg : ShaG M) (h : IsDisk M r S) (ok : OkS S s) {B : Nat} (hw : S.within B) (hB : B ≤ 1000000) (hb : Bytes M A0 l0 c0 s.b) {A : Option Addr} {l c : Nat} {b : List UInt8} (hr : Bytes M A l c b) :
  Con Tryz.prog 135 #[.pointer (some ⟨p, 0, none⟩), .slice A l c] G M (dL d r S (sL p d s A0 l0 c0 :: R))
   (fun v M' L' => SK p d (saveRes S s b).1.1 (saveRes S s b).1.2 R M' L' ∧ v = .int .i64 (saveRes S s b).2) noPanic := by
 have hn := ok.n
 have hl := hr.size
 have hat := ok.at_
 have hroom : (if (s.n : Int) < 1 ∨ 8 < (s.n : Int) then 0 else 64 * (s.n : Int) - 28) = 64 * (s.n : Int) - 28 := by rw [if_neg (by omega)]
 refine en Tryz.func135 rfl 37 rfl <| zr <| tl_e rfl <| e_box rfl <| fun b1 => as0 rfl rfl <| zq <| zr2 <| mvS rfl rfl <| tLen rfl rfl <| tLd rfl rfl rfl <| zc rfl rfl <| tFa rfl rfl <| tLd rfl rfl rfl <| ec rfl rfl (Room_spec (s.n : Int)) ?_
 rintro _ _ _ _ ⟨rfl, rfl, rfl⟩
 rw [hroom]
 refine tl_y rfl (y_gtr rfl rfl) <| zq <| .s3 1 2 14 rfl rfl rfl <| x_cond rfl (fun hc1 => ?_) (fun hc1 => ?_)
 ·
  refine zr <| as0 rfl rfl <| zq <| x_ret (.then_ret (.dropTo (dL d r S (sL p d s A0 l0 c0 :: R)) ii (ret1 rfl rfl (Le.refl _) (by
   rw [show saveRes S s b = ((S, s), 1) by rw [saveRes, if_pos (by omega)]]
   exact ⟨⟨r, A0, l0, c0, h, hb, rfl⟩, rfl⟩))))
 refine x_skip <| .then_normal <| x_seq <| x_meet (I := fun F D M1 L1 => D = [] ∧ Le M M1 ∧ ∃ x1 x2 A1 c1, Bytes M1 A1 l c1 b ∧ PermTo L1 ((x2, .cells #[.int .i64 0] 3 (0, 0)) :: (x1, .cells #[.int .u64 ((s.num + 1).toNat : Int), .slice A1 l c1] 213 (0, 0)) :: (b1, .cells #[.pointer (some ⟨p, 0, none⟩)] 92 (0, 0)) :: dL d r S (sL p d s A0 l0 c0 :: R)) ∧ F = [(2, .pointer (some ⟨b1, 0, none⟩)), (5, .pointer (some ⟨x1, 0, none⟩)), (6, .pointer (some ⟨x2, 0, none⟩))]) ?_ (fun Jd3 => ?_)
 ·
  rintro _ _ M1 L1 ⟨rfl, hM1, x1, x2, A1, c1, hA1, hp, rfl⟩
  refine .to _ hp <| x_join (I := fun F D M2 L2 => D = [] ∧ M1 = M2 ∧ L2 = (x2, .cells #[.int .i64 s.to] 3 (0, 0)) :: (x1, .cells #[.int .u64 ((s.num + 1).toNat : Int), .slice A1 l c1] 213 (0, 0)) :: (b1, .cells #[.pointer (some ⟨p, 0, none⟩)] 92 (0, 0)) :: dL d r S (sL p d s A0 l0 c0 :: R) ∧ F = [(2, .pointer (some ⟨b1, 0, none⟩)), (5, .pointer (some ⟨x1, 0, none⟩)), (6, .pointer (some ⟨x2, 0, none⟩))]) ?_ (fun Jj1 => ?_)
  ·
   rintro _ _ M2 L2 ⟨rfl, rfl, rfl, rfl⟩
   refine zr <| tl_y rfl (y_makeFunc rfl rfl) <| tl_e rfl (e_call' rfl (caught_spec (first := []) (cap := [.pointer (some ⟨b1, 0, none⟩), .pointer (some ⟨x1, 0, none⟩), .pointer (some ⟨x2, 0, none⟩)])
    (K := fun M' L' => (saveRes S s b).2 = 0 ∧ SK p d (saveRes S s b).1.1 (saveRes S s b).1.2 (sbox b1 x1 x2 p (s.num + 1) s.to A1 l c1 R) M' L')
    (Kc := fun e M' L' => e = (saveRes S s b).2 ∧ SK p d (saveRes S s b).1.1 (saveRes S s b).1.2 (sbox b1 x1 x2 p (s.num + 1) s.to A1 l c1 R) M' L')
    (fun be oe => (Con.to (dL d r S (sL p d s A0 l0 c0 :: (be, oe) :: sbox b1 x1 x2 p (s.num + 1) s.to A1 l c1 R)) ii (Save1_spec (hg.mono hM1) (h.mono hM1) ok hw hB (hb.mono hM1) hA1 (by omega))).postP
    (fun v M' L' _ ⟨h0, r', A', l', c', k1, k2, e⟩ => ⟨(be, oe) :: dL d r' (saveRes S s b).1.1 (sL p d (saveRes S s b).1.2 A' l' c' :: sbox b1 x1 x2 p (s.num + 1) s.to A1 l c1 R), by rw [e]; infer_instance, _, rfl, h0, r', A', l', c', k1, k2, rfl⟩)
    (fun ch M' L' _ ⟨h0, r', A', l', c', k1, k2, e⟩ => ⟨(be, oe) :: dL d r' (saveRes S s b).1.1 (sL p d (saveRes S s b).1.2 A' l' c' :: sbox b1 x1 x2 p (s.num + 1) s.to A1 l c1 R), by rw [e]; infer_instance, _, _, h0, rfl, rfl, r', A', l', c', k1, k2, rfl⟩))) ?_)
   rintro v3 M3 L3 hM3 hv
   obtain ⟨e, rfl, he, r3, A3, l3, c3, hd3, hb3, rfl⟩ : ∃ e, v3 = Value.int .i64 e ∧ e = (saveRes S s b).2 ∧ SK p d (saveRes S s b).1.1 (saveRes S s b).1.2 (sbox b1 x1 x2 p (s.num + 1) s.to A1 l c1 R) M3 L3 := by
    rcases hv with ⟨rfl, h0, hk⟩ | ⟨e, rfl, h0, hk⟩
    ·
     exact ⟨0, rfl, h0.symm, hk⟩
    exact ⟨e, rfl, h0, hk⟩
   subst he
   refine asI rfl rfl <| zq <| .s1 4 rfl <| x_ret (.dropTo (dL d r3 (saveRes S s b).1.1 (sL p d (saveRes S s b).1.2 A3 l3 c3 :: R)) ii (ret1 rfl rfl (hM1.trans hM3) ⟨⟨r3, A3, l3, c3, hd3, hb3, rfl⟩, rfl⟩))
  refine zr <| tLd rfl rfl rfl <| zc rfl rfl <| tFa rfl rfl <| tFa rfl rfl <| tLd rfl rfl rfl <| tl_y rfl (y_gtr rfl rfl) <| zq <| .s4 2 5 6 29 rfl rfl rfl rfl <| x_cond rfl (fun hc2 => ?_) (fun hc2 => ?_)
  ·
   refine x_region <| tLd rfl rfl rfl <| zc rfl rfl <| tFa rfl rfl <| tLd rfl rfl rfl <| tl_y rfl (y_subI rfl rfl (by omega)) <| tl_e rfl <| e_st rfl rfl (by rfl) (by rfl) <| zq <| .sub (F' := [(2, _), (5, _), (6, _)]) (cs3 rfl rfl rfl) <| Jj1 _ _ _ _ ?_
   exact ⟨rfl, rfl, by rw [show s.to = 1 - s.at_ by rw [SS.to, if_pos (by omega)], show (1 : Int) - (s.at_ : Int) = ((1 - s.at_ : Nat) : Int) by omega], rfl⟩
  refine x_skip <| .then_normal <| .sub (F' := [(2, _), (5, _), (6, _)]) (cs3 rfl rfl rfl) <| Jj1 _ _ _ _ ?_
  exact ⟨rfl, rfl, by rw [show s.to = 0 by rw [SS.to, if_neg (by omega)]]; rfl, rfl⟩
 refine x_draw 11 hmix rfl <| zy 0 rfl rfl (y_ld rfl rfl) <| zp 1 rfl rfl (y_nilCheck rfl) <| zp 2 rfl rfl (y_fieldAddr rfl) <| zp 3 rfl rfl (y_fieldAddr rfl) <| zy 4 rfl rfl (y_ld rfl rfl) <| zp 5 rfl rfl (y_add64 (b := 1) rfl rfl) <| zp 6 rfl rfl (y_move (v := .slice _ _ _) rfl) <| to_three 7 9 10 (by kernel_rfl) ?_ ?_ ?_
 ·
  refine two_e 7 rfl rfl <| e_call' rfl (bytesClone_spec hr (by omega)) ?_
  rintro _ M9 _ hM9 ⟨rfl, A9, c9, rfl, hA9⟩
  refine ⟨⟨(by first | exact Le.refl _ | assumption), Keeps.mem⟩, ?_⟩
  refine zp 8 rfl rfl (y_build rfl) <| to_two 9 10 (by kernel_rfl) ?_ ?_
  ·
   refine two_e 9 rfl rfl <| e_alloc <| fun b2 => ⟨⟨(by first | exact Le.refl _ | assumption), Keeps.mem⟩, ?_⟩
   refine ze 10 rfl rfl <| e_alloc <| fun b3 => ⟨⟨(by first | exact Le.refl _ | assumption), Keeps.mem⟩, ?_⟩
   refine zt 11 rfl rfl <| e_st rfl rfl (by rfl) (by rfl) <| zt 12 rfl rfl <| e_st rfl rfl (by rfl) (by rfl) <| zz <| .then_normal <| .sub (F' := [(2, _), (5, _), (6, _)]) (cs3 rfl rfl rfl) <| Jd3 _ _ _ _ ?_
   exact ⟨rfl, hM9, _, _, _, _, hA9, ii, rfl⟩
  refine two_e 10 rfl rfl <| e_alloc <| fun b4 => ⟨⟨(by first | exact Le.refl _ | assumption), Keeps.mem⟩, ?_⟩
  refine ze 9 rfl rfl <| e_alloc <| fun b5 => ⟨⟨(by first | exact Le.refl _ | assumption), Keeps.mem⟩, ?_⟩
  refine zt 11 rfl rfl <| e_st rfl rfl (by rfl) (by rfl) <| zt 12 rfl rfl <| e_st rfl rfl (by rfl) (by rfl) <| zz <| .then_normal <| .sub (F' := [(2, _), (5, _), (6, _)]) (cs3 rfl rfl rfl) <| Jd3 _ _ _ _ ?_
  exact ⟨rfl, hM9, _, _, _, _, hA9, ii, rfl⟩
 ·
  refine two_e 9 rfl rfl <| e_alloc <| fun b6 => ⟨⟨(by first | exact Le.refl _ | assumption), Keeps.mem⟩, ?_⟩
  refine to_two 7 10 (by kernel_rfl) ?_ ?_
  ·
   refine two_e 7 rfl rfl <| e_call' rfl (bytesClone_spec hr (by omega)) ?_
   rintro _ M9 _ hM9 ⟨rfl, A9, c9, rfl, hA9⟩
   refine ⟨⟨(by first | exact Le.refl _ | assumption), Keeps.mem⟩, ?_⟩
   refine zp 8 rfl rfl (y_build rfl) <| ze 10 rfl rfl <| e_alloc <| fun b7 => ⟨⟨(by first | exact Le.refl _ | assumption), Keeps.mem⟩, ?_⟩
   refine zt 11 rfl rfl <| e_st rfl rfl (by rfl) (by rfl) <| zt 12 rfl rfl <| e_st rfl rfl (by rfl) (by rfl) <| zz <| .then_normal <| .sub (F' := [(2, _), (5, _), (6, _)]) (cs3 rfl rfl rfl) <| Jd3 _ _ _ _ ?_
   exact ⟨rfl, hM9, _, _, _, _, hA9, ii, rfl⟩
  refine two_e 10 rfl rfl <| e_alloc <| fun b8 => ⟨⟨(by first | exact Le.refl _ | assumption), Keeps.mem⟩, ?_⟩
  refine ze 7 rfl rfl <| e_call' rfl (bytesClone_spec hr (by omega)) ?_
  rintro _ M9 _ hM9 ⟨rfl, A9, c9, rfl, hA9⟩
  refine ⟨⟨(by first | exact Le.refl _ | assumption), Keeps.mem⟩, ?_⟩
  refine zp 8 rfl rfl (y_build rfl) <| zt 11 rfl rfl <| e_st rfl rfl (by rfl) (by rfl) <| zt 12 rfl rfl <| e_st rfl rfl (by rfl) (by rfl) <| zz <| .then_normal <| .sub (F' := [(2, _), (5, _), (6, _)]) (cs3 rfl rfl rfl) <| Jd3 _ _ _ _ ?_
  exact ⟨rfl, hM9, _, _, _, _, hA9, ii, rfl⟩
 refine two_e 10 rfl rfl <| e_alloc <| fun b9 => ⟨⟨(by first | exact Le.refl _ | assumption), Keeps.mem⟩, ?_⟩
 refine to_two 7 9 (by kernel_rfl) ?_ ?_
 ·
  refine two_e 7 rfl rfl <| e_call' rfl (bytesClone_spec hr (by omega)) ?_
  rintro _ M9 _ hM9 ⟨rfl, A9, c9, rfl, hA9⟩
  refine ⟨⟨(by first | exact Le.refl _ | assumption), Keeps.mem⟩, ?_⟩
  refine zp 8 rfl rfl (y_build rfl) <| ze 9 rfl rfl <| e_alloc <| fun b10 => ⟨⟨(by first | exact Le.refl _ | assumption), Keeps.mem⟩, ?_⟩
  refine zt 11 rfl rfl <| e_st rfl rfl (by rfl) (by rfl) <| zt 12 rfl rfl <| e_st rfl rfl (by rfl) (by rfl) <| zz <| .then_normal <| .sub (F' := [(2, _), (5, _), (6, _)]) (cs3 rfl rfl rfl) <| Jd3 _ _ _ _ ?_
  exact ⟨rfl, hM9, _, _, _, _, hA9, ii, rfl⟩
 refine two_e 9 rfl rfl <| e_alloc <| fun b11 => ⟨⟨(by first | exact Le.refl _ | assumption), Keeps.mem⟩, ?_⟩
 refine ze 7 rfl rfl <| e_call' rfl (bytesClone_spec hr (by omega)) ?_
 rintro _ M9 _ hM9 ⟨rfl, A9, c9, rfl, hA9⟩
 refine ⟨⟨(by first | exact Le.refl _ | assumption), Keeps.mem⟩, ?_⟩
 refine zp 8 rfl rfl (y_build rfl) <| zt 11 rfl rfl <| e_st rfl rfl (by rfl) (by rfl) <| zt 12 rfl rfl <| e_st rfl rfl (by rfl) (by rfl) <| zz <| .then_normal <| .sub (F' := [(2, _), (5, _), (6, _)]) (cs3 rfl rfl rfl) <| Jd3 _ _ _ _ ?_
 exact ⟨rfl, hM9, _, _, _, _, hA9, ii, rfl⟩
end
section
variable {G : World} {M : Mem} {L R : Own}
theorem may_spec (x : Cn) {A : Option Addr} {n c : Nat} :
  Con Tryz.prog 84 #[.agg (List.toArray (ccells x)), .slice A n c] G M L (fun v M' L' => M = M' ∧ L = L' ∧ v = .bool (mayB x n)) noPanic := by
 refine en Tryz.func84 rfl 35 rfl <| zr <| tl_e rfl <| e_box rfl <| fun b1 => as0 rfl rfl <| zq <| zr <| tFa rfl rfl <| tLd rfl rfl rfl <| tl_y rfl (y_geq rfl rfl) <| mvB rfl rfl <| tl_cases (s := 8) rfl (fun hk1 => ?_) (fun hk1 => ?_)
 ·
  refine tFa rfl rfl <| tLd rfl rfl rfl <| tl_y rfl (y_leq rfl rfl) <| tPt rfl rfl rfl <| mvB rfl rfl <| tl_cases (s := 13) rfl (fun hk2 => ?_) (fun hk2 => ?_)
  ·
   refine tFa rfl rfl <| tLd rfl rfl rfl <| tl_y rfl (y_geq rfl rfl) <| tPt rfl rfl rfl <| mvB rfl rfl <| tl_cases (s := 18) rfl (fun hk3 => ?_) (fun hk3 => ?_)
   ·
    refine tFa rfl rfl <| tLd rfl rfl rfl <| tl_y rfl (y_leq rfl rfl) <| tPt rfl rfl rfl <| mvB rfl rfl <| tl_cases (s := 23) rfl (fun hk4 => ?_) (fun hk4 => ?_)
    ·
     refine tFa rfl rfl <| tLd rfl rfl rfl <| tFa rfl rfl <| tLd rfl rfl rfl <| tl_y rfl (y_leq rfl rfl) <| tPt rfl rfl rfl <| mvB rfl rfl <| tl_cases (s := 30) rfl (fun hk5 => ?_) (fun hk5 => ?_)
     ·
      refine mvS rfl rfl <| tLen rfl rfl <| tl_y rfl (y_leq rfl rfl) <| tPt rfl rfl rfl <| asB rfl rfl <| zq <| .s1 4 rfl <| x_ret (.dropTo L ii (ret1 rfl rfl (Le.refl _) ⟨rfl, rfl, by congr 1; rw [mayB, decide_eq_decide]; omega⟩))
     refine tl_skip rfl <| tl_skip rfl <| tl_skip rfl <| tPf rfl rfl rfl <| asB rfl rfl <| zq <| .s1 4 rfl <| x_ret (.dropTo L ii (ret1 rfl rfl (Le.refl _) ⟨rfl, rfl, by congr 1; symm; rw [mayB, decide_eq_false_iff_not]; omega⟩))
    refine tl_skip rfl <| tl_skip rfl <| tl_skip rfl <| tl_skip rfl <| tl_skip rfl <| tPf rfl rfl rfl <| mvB rfl rfl <| tl_skip rfl <| tl_skip rfl <| tl_skip rfl <| tPf rfl rfl rfl <| asB rfl rfl <| zq <| .s1 4 rfl <| x_ret (.dropTo L ii (ret1 rfl rfl (Le.refl _) ⟨rfl, rfl, by congr 1; symm; rw [mayB, decide_eq_false_iff_not]; omega⟩))
   refine tl_skip rfl <| tl_skip rfl <| tl_skip rfl <| tPf rfl rfl rfl <| mvB rfl rfl <| tl_skip rfl <| tl_skip rfl <| tl_skip rfl <| tl_skip rfl <| tl_skip rfl <| tPf rfl rfl rfl <| mvB rfl rfl <| tl_skip rfl <| tl_skip rfl <| tl_skip rfl <| tPf rfl rfl rfl <| asB rfl rfl <| zq <| .s1 4 rfl <| x_ret (.dropTo L ii (ret1 rfl rfl (Le.refl _) ⟨rfl, rfl, by congr 1; symm; rw [mayB, decide_eq_false_iff_not]; omega⟩))
  refine tl_skip rfl <| tl_skip rfl <| tl_skip rfl <| tPf rfl rfl rfl <| mvB rfl rfl <| tl_skip rfl <| tl_skip rfl <| tl_skip rfl <| tPf rfl rfl rfl <| mvB rfl rfl <| tl_skip rfl <| tl_skip rfl <| tl_skip rfl <| tl_skip rfl <| tl_skip rfl <| tPf rfl rfl rfl <| mvB rfl rfl <| tl_skip rfl <| tl_skip rfl <| tl_skip rfl <| tPf rfl rfl rfl <| asB rfl rfl <| zq <| .s1 4 rfl <| x_ret (.dropTo L ii (ret1 rfl rfl (Le.refl _) ⟨rfl, rfl, by congr 1; symm; rw [mayB, decide_eq_false_iff_not]; omega⟩))
 refine tl_skip rfl <| tl_skip rfl <| tl_skip rfl <| tPf rfl rfl rfl <| mvB rfl rfl <| tl_skip rfl <| tl_skip rfl <| tl_skip rfl <| tPf rfl rfl rfl <| mvB rfl rfl <| tl_skip rfl <| tl_skip rfl <| tl_skip rfl <| tPf rfl rfl rfl <| mvB rfl rfl <| tl_skip rfl <| tl_skip rfl <| tl_skip rfl <| tl_skip rfl <| tl_skip rfl <| tPf rfl rfl rfl <| mvB rfl rfl <| tl_skip rfl <| tl_skip rfl <| tl_skip rfl <| tPf rfl rfl rfl <| asB rfl rfl <| zq <| .s1 4 rfl <| x_ret (.dropTo L ii (ret1 rfl rfl (Le.refl _) ⟨rfl, rfl, by congr 1; symm; rw [mayB, decide_eq_false_iff_not]; omega⟩))
theorem Bytes_spec (x : Cn) {A : Option Addr} {n c : Nat} {head : List UInt8} (h : Bytes M A n c head) :
  Con Tryz.prog 134 #[.agg (List.toArray (ccells x)), .slice A n c] G M L (fun v M' L' => L' = L ∧ if mayB x n = true then ∃ A' c', v = .tuple #[.slice A' (25 + n) c', .int .i64 0] ∧ Bytes M' A' (25 + n) c' (bytesC x head) else v = .tuple #[.slice none 0 0, .int .i64 1]) noPanic := by
 have hl := h.size
 have hbl := bytesC_length x head
 refine en Tryz.func134 rfl 27 rfl <| zr <| tl_e rfl <| e_box rfl <| fun b1 => as0 rfl rfl <| as0 rfl rfl <| zq <| zr2 <| tLg rfl rfl rfl <| mvS rfl rfl <| ec rfl rfl (may_spec x) ?_
 rintro _ _ _ _ ⟨rfl, rfl, rfl⟩
 refine tl_y rfl (y_not rfl) <| zq <| .s3 1 2 10 rfl rfl rfl <| x_condb rfl (fun hc1 => ?_) (fun hc1 => ?_)
 ·
  refine zr <| as0 rfl rfl <| as0 rfl rfl <| zq <| x_ret (.then_ret (.dropTo L ii (ret2 rfl rfl rfl (Le.refl _) ⟨rfl, by rw [if_neg (by simpa using hc1)]⟩)))
 have hmay : mayB x n = true := by simpa using hc1
 have hn200 : n ≤ 200 := by rw [mayB, decide_eq_true_eq] at hmay; omega
 refine x_skip <| .then_normal <| zr <| as0 rfl rfl <| zq <| x_join (I := fun F D M1 L1 => D = [] ∧ M = M1 ∧ L1 = (b1, .cells (List.toArray (ccells x)) 157 (0, 0)) :: L ∧ F = [(1, .slice A n c), (2, .pointer (some ⟨b1, 0, none⟩)), (6, .int .u8 (((if x.retired then 1 else 0 : UInt8)).toNat : Int))]) ?_ (fun Jj1 => ?_)
 ·
  rintro _ _ M1 L1 ⟨rfl, rfl, rfl, rfl⟩
  refine x_seq <| x_meet (I := fun F D M1 L1 => D = [] ∧ Le M M1 ∧ ∃ A' c', Bytes M1 A' (25 + n) c' (bytesC x head) ∧ DropTo L1 L ∧ F = [(4, .slice A' (25 + n) c'), (5, .int .i64 0)]) ?_ (fun Jd6 => ?_)
  ·
   rintro _ _ M1 L1 ⟨rfl, hM1, A', c', hA', hdr, rfl⟩
   refine x_ret (.dropTo L hdr (ret2 rfl rfl rfl hM1 ⟨rfl, by rw [if_pos hmay]; exact ⟨A', c', rfl, hA'⟩⟩))
  refine x_draw 16 hmix rfl <| zp 0 rfl rfl (y_fieldAddr rfl) <| zy 1 rfl rfl (y_ld rfl rfl) <| zp 3 rfl rfl (y_fieldAddr rfl) <| zy 4 rfl rfl (y_ld rfl rfl) <| zp 6 rfl rfl (y_fieldAddr rfl) <| zy 7 rfl rfl (y_ld rfl rfl) <| zp 9 rfl rfl (y_move (v := .int _ _) rfl) <| zp 11 rfl rfl (y_move (v := .slice _ _ _) rfl) <| to_two 2 10 (by kernel_rfl) ?_ ?_
  ·
   refine two_e 2 rfl rfl <| e_call' rfl (PutN_spec x.total 8 (by omega)) ?_
   rintro _ M2 _ hM2 ⟨rfl, A2, c2, rfl, hA2⟩
   refine ⟨⟨hM2, Keeps.mem⟩, ?_⟩
   refine to_two 5 10 (by kernel_rfl) ?_ ?_
   ·
    refine two_e 5 rfl rfl <| e_call' rfl (PutN_spec x.batch 8 (by omega)) ?_
    rintro _ M3 _ hM3 ⟨rfl, A3, c3, rfl, hA3⟩
    refine ⟨⟨hM2.trans hM3, Keeps.mem⟩, ?_⟩
    refine to_two 8 10 (by kernel_rfl) ?_ ?_
    ·
     refine two_e 8 rfl rfl <| e_call' rfl (PutN_spec x.reserved 8 (by omega)) ?_
     rintro _ M4 _ hM4 ⟨rfl, A4, c4, rfl, hA4⟩
     refine ⟨⟨hM2.trans (hM3.trans hM4), Keeps.mem⟩, ?_⟩
     refine ze 10 rfl rfl <| e_buildSlice rfl (by decide) <| fun bA => ⟨⟨by first | exact Le.refl _ | exact hM2 | exact hM2.trans hM3 | exact hM2.trans (hM3.trans hM4), Keeps.mem⟩, ?_⟩
     refine ze 12 rfl rfl <| e_buildSlice rfl (by decide) <| fun bB => ⟨⟨hM2.trans (hM3.trans hM4), Keeps.mem⟩, ?_⟩
     refine .pub bA ii <| fun M5 hM5 hbA => .pub bB ii <| fun M6 hM6 hbB => ?_
     have hm : Le M M6 := hM2.trans (hM3.trans (hM4.trans (hM5.trans hM6)))
     have hfl : [putB x.total.toNat 8, putB x.batch.toNat 8, putB x.reserved.toNat 8, [if x.retired then 1 else 0], head].flatten = bytesC x head := by simp [bytesC]
     have hR : Bytes M6 (some ⟨bA, 0, none⟩) 1 1 [if x.retired then 1 else 0] := Row.mono (Row.whole hbA rfl (by omega)) hM6
     refine ze 13 rfl rfl <| e_call' rfl (Cat_spec (Row.whole hbB rfl (by omega)) (.cons (hA2.mono (hM3.trans (hM4.trans (hM5.trans hM6)))) (.cons (hA3.mono (hM4.trans (hM5.trans hM6))) (.cons (hA4.mono (hM5.trans hM6)) (.cons hR (.cons (h.mono hm) .nil))))) (by rw [hfl, hbl]; omega)) ?_
     rintro _ M7 _ hM7 ⟨rfl, A7, c7, rfl, hA7⟩
     rw [hfl, hbl, hl] at hA7
     rw [hfl, hbl, hl]
     refine ⟨⟨hm.trans hM7, Keeps.mem⟩, ?_⟩
     refine zp 14 rfl rfl (y_assign (v := .slice _ _ _) rfl) <| zp 15 rfl rfl (y_assign rfl) <| zz <| .then_normal <| .sub (F' := [(4, _), (5, _)]) (cs2 rfl rfl) <| Jd6 _ _ _ _ ?_
     exact ⟨rfl, hm.trans hM7, A7, c7, hA7, ii, rfl⟩
    refine two_e 10 rfl rfl <| e_buildSlice rfl (by decide) <| fun bA => ⟨⟨by first | exact Le.refl _ | exact hM2 | exact hM2.trans hM3 | exact hM2.trans (hM3.trans hM4), Keeps.mem⟩, ?_⟩
    refine ze 8 rfl rfl <| e_call' rfl (PutN_spec x.reserved 8 (by omega)) ?_
    rintro _ M4 _ hM4 ⟨rfl, A4, c4, rfl, hA4⟩
    refine ⟨⟨hM2.trans (hM3.trans hM4), Keeps.mem⟩, ?_⟩
    refine ze 12 rfl rfl <| e_buildSlice rfl (by decide) <| fun bB => ⟨⟨hM2.trans (hM3.trans hM4), Keeps.mem⟩, ?_⟩
    refine .pub bA ii <| fun M5 hM5 hbA => .pub bB ii <| fun M6 hM6 hbB => ?_
    have hm : Le M M6 := hM2.trans (hM3.trans (hM4.trans (hM5.trans hM6)))
    have hfl : [putB x.total.toNat 8, putB x.batch.toNat 8, putB x.reserved.toNat 8, [if x.retired then 1 else 0], head].flatten = bytesC x head := by simp [bytesC]
    have hR : Bytes M6 (some ⟨bA, 0, none⟩) 1 1 [if x.retired then 1 else 0] := Row.mono (Row.whole hbA rfl (by omega)) hM6
    refine ze 13 rfl rfl <| e_call' rfl (Cat_spec (Row.whole hbB rfl (by omega)) (.cons (hA2.mono (hM3.trans (hM4.trans (hM5.trans hM6)))) (.cons (hA3.mono (hM4.trans (hM5.trans hM6))) (.cons (hA4.mono (hM5.trans hM6)) (.cons hR (.cons (h.mono hm) .nil))))) (by rw [hfl, hbl]; omega)) ?_
    rintro _ M7 _ hM7 ⟨rfl, A7, c7, rfl, hA7⟩
    rw [hfl, hbl, hl] at hA7
    rw [hfl, hbl, hl]
    refine ⟨⟨hm.trans hM7, Keeps.mem⟩, ?_⟩
    refine zp 14 rfl rfl (y_assign (v := .slice _ _ _) rfl) <| zp 15 rfl rfl (y_assign rfl) <| zz <| .then_normal <| .sub (F' := [(4, _), (5, _)]) (cs2 rfl rfl) <| Jd6 _ _ _ _ ?_
    exact ⟨rfl, hm.trans hM7, A7, c7, hA7, ii, rfl⟩
   refine two_e 10 rfl rfl <| e_buildSlice rfl (by decide) <| fun bA => ⟨⟨by first | exact Le.refl _ | exact hM2 | exact hM2.trans hM3 | exact hM2.trans (hM3.trans hM4), Keeps.mem⟩, ?_⟩
   refine ze 5 rfl rfl <| e_call' rfl (PutN_spec x.batch 8 (by omega)) ?_
   rintro _ M3 _ hM3 ⟨rfl, A3, c3, rfl, hA3⟩
   refine ⟨⟨hM2.trans hM3, Keeps.mem⟩, ?_⟩
   refine ze 8 rfl rfl <| e_call' rfl (PutN_spec x.reserved 8 (by omega)) ?_
   rintro _ M4 _ hM4 ⟨rfl, A4, c4, rfl, hA4⟩
   refine ⟨⟨hM2.trans (hM3.trans hM4), Keeps.mem⟩, ?_⟩
   refine ze 12 rfl rfl <| e_buildSlice rfl (by decide) <| fun bB => ⟨⟨hM2.trans (hM3.trans hM4), Keeps.mem⟩, ?_⟩
   refine .pub bA ii <| fun M5 hM5 hbA => .pub bB ii <| fun M6 hM6 hbB => ?_
   have hm : Le M M6 := hM2.trans (hM3.trans (hM4.trans (hM5.trans hM6)))
   have hfl : [putB x.total.toNat 8, putB x.batch.toNat 8, putB x.reserved.toNat 8, [if x.retired then 1 else 0], head].flatten = bytesC x head := by simp [bytesC]
   have hR : Bytes M6 (some ⟨bA, 0, none⟩) 1 1 [if x.retired then 1 else 0] := Row.mono (Row.whole hbA rfl (by omega)) hM6
   refine ze 13 rfl rfl <| e_call' rfl (Cat_spec (Row.whole hbB rfl (by omega)) (.cons (hA2.mono (hM3.trans (hM4.trans (hM5.trans hM6)))) (.cons (hA3.mono (hM4.trans (hM5.trans hM6))) (.cons (hA4.mono (hM5.trans hM6)) (.cons hR (.cons (h.mono hm) .nil))))) (by rw [hfl, hbl]; omega)) ?_
   rintro _ M7 _ hM7 ⟨rfl, A7, c7, rfl, hA7⟩
   rw [hfl, hbl, hl] at hA7
   rw [hfl, hbl, hl]
   refine ⟨⟨hm.trans hM7, Keeps.mem⟩, ?_⟩
   refine zp 14 rfl rfl (y_assign (v := .slice _ _ _) rfl) <| zp 15 rfl rfl (y_assign rfl) <| zz <| .then_normal <| .sub (F' := [(4, _), (5, _)]) (cs2 rfl rfl) <| Jd6 _ _ _ _ ?_
   exact ⟨rfl, hm.trans hM7, A7, c7, hA7, ii, rfl⟩
  refine two_e 10 rfl rfl <| e_buildSlice rfl (by decide) <| fun bA => ⟨⟨by first | exact Le.refl _ | exact hM2 | exact hM2.trans hM3 | exact hM2.trans (hM3.trans hM4), Keeps.mem⟩, ?_⟩
  refine ze 2 rfl rfl <| e_call' rfl (PutN_spec x.total 8 (by omega)) ?_
  rintro _ M2 _ hM2 ⟨rfl, A2, c2, rfl, hA2⟩
  refine ⟨⟨hM2, Keeps.mem⟩, ?_⟩
  refine ze 5 rfl rfl <| e_call' rfl (PutN_spec x.batch 8 (by omega)) ?_
  rintro _ M3 _ hM3 ⟨rfl, A3, c3, rfl, hA3⟩
  refine ⟨⟨hM2.trans hM3, Keeps.mem⟩, ?_⟩
  refine ze 8 rfl rfl <| e_call' rfl (PutN_spec x.reserved 8 (by omega)) ?_
  rintro _ M4 _ hM4 ⟨rfl, A4, c4, rfl, hA4⟩
  refine ⟨⟨hM2.trans (hM3.trans hM4), Keeps.mem⟩, ?_⟩
  refine ze 12 rfl rfl <| e_buildSlice rfl (by decide) <| fun bB => ⟨⟨hM2.trans (hM3.trans hM4), Keeps.mem⟩, ?_⟩
  refine .pub bA ii <| fun M5 hM5 hbA => .pub bB ii <| fun M6 hM6 hbB => ?_
  have hm : Le M M6 := hM2.trans (hM3.trans (hM4.trans (hM5.trans hM6)))
  have hfl : [putB x.total.toNat 8, putB x.batch.toNat 8, putB x.reserved.toNat 8, [if x.retired then 1 else 0], head].flatten = bytesC x head := by simp [bytesC]
  have hR : Bytes M6 (some ⟨bA, 0, none⟩) 1 1 [if x.retired then 1 else 0] := Row.mono (Row.whole hbA rfl (by omega)) hM6
  refine ze 13 rfl rfl <| e_call' rfl (Cat_spec (Row.whole hbB rfl (by omega)) (.cons (hA2.mono (hM3.trans (hM4.trans (hM5.trans hM6)))) (.cons (hA3.mono (hM4.trans (hM5.trans hM6))) (.cons (hA4.mono (hM5.trans hM6)) (.cons hR (.cons (h.mono hm) .nil))))) (by rw [hfl, hbl]; omega)) ?_
  rintro _ M7 _ hM7 ⟨rfl, A7, c7, rfl, hA7⟩
  rw [hfl, hbl, hl] at hA7
  rw [hfl, hbl, hl]
  refine ⟨⟨hm.trans hM7, Keeps.mem⟩, ?_⟩
  refine zp 14 rfl rfl (y_assign (v := .slice _ _ _) rfl) <| zp 15 rfl rfl (y_assign rfl) <| zz <| .then_normal <| .sub (F' := [(4, _), (5, _)]) (cs2 rfl rfl) <| Jd6 _ _ _ _ ?_
  exact ⟨rfl, hm.trans hM7, A7, c7, hA7, ii, rfl⟩
 refine zr <| tFa rfl rfl <| tLd rfl rfl rfl <| zq <| x_condb rfl (fun hc2 => ?_) (fun hc2 => ?_)
 ·
  refine x_region <| as0 rfl rfl <| zq <| .sub (F' := [(1, _), (2, _), (6, _)]) (cs3 rfl rfl rfl) <| Jj1 _ _ _ _ ?_
  exact ⟨rfl, rfl, rfl, by rw [hc2]; rfl⟩
 refine x_skip <| .then_normal <| .sub (F' := [(1, _), (2, _), (6, _)]) (cs3 rfl rfl rfl) <| Jj1 _ _ _ _ ?_
 exact ⟨rfl, rfl, rfl, by rw [hc2]; rfl⟩
end
section
variable {G : World} {M : Mem} {L R : Own}
abbrev bboxL (x0 : Nat) (A : Option Addr) (n c : Nat) (R : Own) : Own := (x0, .cells #[.slice A n c] 22 (0, 0)) :: R
theorem cRead1_spec {x0 : Nat} {A : Option Addr} {n c : Nat} {b : List UInt8} (h : Bytes M A n c b) (hn : 25 ≤ n) (i : Nat) (hi : i ≤ 2) :
  Con Tryz.prog 174 #[.int .i64 (i : Int), .pointer (some ⟨x0, 0, none⟩)] G M (bboxL x0 A n c R) (fun v M' L' => M = M' ∧ L' = bboxL x0 A n c R ∧ v = .int .u64 ((UInt64.ofNat (getB ((b.drop (8 * i)).take 8))).toNat : Int)) noPanic := by
 have hc := h.le
 have hs := h.size
 refine en Tryz.func174 rfl 18 rfl <| zr <| as0 rfl rfl <| zq <| zr <| tLd rfl rfl rfl <| mvI rfl rfl <| tl_y rfl (y_mulI rfl rfl (by omega)) <| mvI rfl rfl <| tl_y rfl (y_addI rfl rfl (by omega)) <| tl_y rfl (y_mulI rfl rfl (by omega)) <| tl_y rfl (y_sliceLH rfl rfl rfl (by omega) (by omega)) ?_
 rw [show ((i : Int) * 8).toNat = 8 * i by omega, show (((i : Int) + 1) * 8).toNat = 8 * i + 8 by omega]
 have hsub := Bytes.sub h (8 * i) (8 * i + 8) (by omega) (by omega)
 rw [show 8 * i + 8 - 8 * i = 8 by omega] at hsub ⊢
 refine ec rfl rfl (Get8_spec (n := 8) hsub (by omega)) ?_
 rintro _ _ _ _ ⟨rfl, rfl, x, hx, rfl⟩
 refine mvU rfl rfl <| zx rfl rfl <| zx rfl rfl <| asI rfl rfl <| asB rfl rfl <| zq <| .s1 4 rfl <| zr <| mvI rfl rfl <| asI rfl rfl <| zq <| x_ret (ret1 rfl rfl (Le.refl _) ⟨rfl, rfl, by rw [← hx]; simp⟩)
theorem Read_spec' {A : Option Addr} {n c : Nat} {b : List UInt8} (h : Bytes M A n c b) (hn : n ≤ 140737488355328) :
  Con Tryz.prog 130 #[.slice A n c] G M L (fun v M' L' => L' = L ∧ ∃ A' n' c', v = .tuple #[.agg (List.toArray (ccells (readC b).1.1)), .slice A' n' c', .int .i64 (readC b).2] ∧ Bytes M' A' n' c' (readC b).1.2) noPanic := by
 have hc := h.le
 have hs := h.size
 have hX : List.toArray (ccells (xOf b)) = #[u64v (UInt64.ofNat (getB (List.take 8 (List.drop (8 * 0) b)))), u64v (UInt64.ofNat (getB (List.take 8 (List.drop (8 * 1) b)))), u64v (UInt64.ofNat (getB (List.take 8 (List.drop (8 * 2) b)))), u64v (UInt64.ofNat (getB (List.take 8 (List.drop (8 * 2) b)))), .bool (decide (((b.getD 24 0).toNat : Int) = 1))] := by
  have e : (b.getD 24 0 == 1) = decide (((b.getD 24 0).toNat : Int) = 1) := by
   rw [Bool.eq_iff_iff, beq_iff_eq, decide_eq_true_eq, ← UInt8.toNat_inj]
   show _ = 1 ↔ _
   omega
  rw [← e]; rfl
 have hz : ccells zeroC = [.int .u64 0, .int .u64 0, .int .u64 0, .int .u64 0, .bool false] := rfl
 refine en Tryz.func130 rfl 41 rfl <| zr <| tl_e rfl <| e_box rfl <| fun b1 => tl_e rfl <| e_alloc <| fun b2 => as0 rfl rfl <| as0 rfl rfl <| zq <| zr2 <| tLd rfl rfl rfl <| tLen rfl rfl <| tl_y rfl (y_lss rfl rfl) <| zq <| .s3 1 2 9 rfl rfl rfl <| x_cond rfl (fun hc1 => ?_) (fun hc1 => ?_)
 ·
  refine zr <| tl_y rfl (y_build rfl) <| tl_e rfl <| e_st rfl rfl (by rfl) (by rfl) <| as0 rfl rfl <| as0 rfl rfl <| zq <| x_ret (.then_ret (retRV (L' := L) (rv3 rfl (rc_cellAgg (by rfl) rfl (.own ii ii)) (rc_tmp rfl) (rc_tmp rfl)) ii (Le.refl _) (by
   rw [show readC b = ((zeroC, []), 2) by rw [readC, if_pos (by omega)]]
   exact ⟨rfl, none, 0, 0, rfl, Row.nil _ _⟩)))
 have hn25 : 25 ≤ n := by omega
 obtain ⟨g, o, hAe, hby⟩ := h.byte (by omega)
 have h24 := fun L => hby L 24 (by omega)
 have hbx := (b.getD 24 0).toNat_lt
 refine x_skip <| .then_normal <| zr <| tl_y rfl (y_makeFunc rfl rfl) <| asF rfl rfl <| zq <| x_seq <| x_meet (I := fun F D M1 L1 => D = [] ∧ M = M1 ∧ ∃ x3, DropTo L1 ((x3, .cells (List.toArray (ccells (xOf b))) 157 (0, 0)) :: bboxL b1 A n c ((b2, .cells #[.int .u64 0, .int .u64 0, .int .u64 0, .int .u64 0, .bool false] 157 (0, 0)) :: L)) ∧ F = [(1, .pointer (some ⟨b1, 0, none⟩)), (2, .pointer (some ⟨b2, 0, none⟩)), (6, .pointer (some ⟨x3, 0, none⟩))]) ?_ (fun Jd4 => ?_)
 ·
  rintro _ _ M1 L1 ⟨rfl, rfl, x3, hdr, rfl⟩
  refine .dropTo _ hdr <| x_seq <| x_seq <| x_draw 11 hmix rfl <| zy 0 rfl rfl (y_ld rfl rfl) <| zp 1 rfl rfl (y_indexAddr (b := g) (o := o) (by rw [hAe]; rfl) rfl (by omega)) <| zy 2 rfl rfl (y_load rfl rfl (.at_ (h24 _) (by omega))) <| zp 3 rfl rfl (y_gtr rfl rfl) <| zp 4 rfl rfl (y_move (v := .bool _) rfl) <| to_cases (s := 29) rfl (fun hk1 => ?_) (fun hk1 => ?_)
  ·
   refine zs 5 rfl rfl <| zs 6 rfl rfl <| zs 7 rfl rfl <| zs 8 rfl rfl <| zs 9 rfl rfl <| zp 10 rfl rfl (y_pickT rfl rfl) <| zz <| .then_normal <| .s4 1 2 6 35 rfl rfl rfl rfl <| x_true rfl rfl <| zr ?_
   refine tl_y rfl (y_build rfl) <| tl_e rfl <| e_st rfl rfl (by rfl) (by rfl) <| as0 rfl rfl <| as0 rfl rfl <| zq <| .s3 2 3 4 rfl rfl rfl <| x_ret (.then_ret (retRV (L' := L) (rv3 rfl (rc_cellAgg (by rfl) rfl (.own ii ii)) (rc_tmp rfl) (rc_tmp rfl)) ii (Le.refl _) (by
    rw [show readC b = ((zeroC, []), 3) by rw [readC, if_neg (by omega), if_pos (Or.inl (by omega))]]
    exact ⟨rfl, none, 0, 0, rfl, Row.nil _ _⟩)))
  refine zy 5 rfl rfl (y_lg rfl rfl) <| zy 6 rfl rfl (y_ld rfl rfl) <| zp 7 rfl rfl (y_sliceL rfl rfl (by omega)) <| ze 8 rfl rfl <| e_call' rfl (may_spec (xOf b)) ?_
  rintro _ _ _ _ ⟨rfl, rfl, rfl⟩
  refine ⟨⟨(by first | exact Le.refl _ | assumption), Keeps.mem⟩, ?_⟩
  refine zp 9 rfl rfl (y_not rfl) <| zp 10 rfl rfl (y_pickF rfl rfl) <| zz <| .then_normal <| .s4 1 2 6 35 rfl rfl rfl rfl <| x_condb rfl (fun hc2 => ?_) (fun hc2 => ?_)
  ·
   refine zr <| tl_y rfl (y_build rfl) <| tl_e rfl <| e_st rfl rfl (by rfl) (by rfl) <| as0 rfl rfl <| as0 rfl rfl <| zq <| .s3 2 3 4 rfl rfl rfl <| x_ret (.then_ret (retRV (L' := L) (rv3 rfl (rc_cellAgg (by rfl) rfl (.own ii ii)) (rc_tmp rfl) (rc_tmp rfl)) ii (Le.refl _) (by
    rw [show readC b = ((zeroC, []), 3) by rw [readC, if_neg (by omega), if_pos (Or.inr (by rw [hs]; simpa using hc2))]]
    exact ⟨rfl, none, 0, 0, rfl, Row.nil _ _⟩)))
  refine x_skip <| .then_normal <| x_seq <| x_draw 4 hmix rfl <| zy 0 rfl rfl (y_lg rfl rfl) <| zy1 1 rfl rfl (y_ld rfl rfl) <| zp 2 rfl rfl (y_sliceL rfl rfl (by omega)) <| ze 3 rfl rfl <| e_call' rfl (bytesClone_spec (h.sub 25 n (by omega) (by omega)) (by omega)) ?_
  rintro _ M2 _ hM2 ⟨rfl, A2, c2, rfl, hA2⟩
  refine ⟨⟨hM2, Keeps.mem⟩, ?_⟩
  refine zt 4 rfl rfl <| e_st rfl rfl (by rfl) (by rfl) <| zp 5 rfl rfl (y_assign (v := .slice _ _ _) rfl) <| zp 6 rfl rfl (y_assign rfl) <| zz <| .then_normal <| .s3 2 3 4 rfl rfl rfl <| x_ret (retRV (L' := L) (rv3 rfl (rc_cellAgg (by rfl) rfl (.own ii ii)) (rc_tmp rfl) (rc_tmp rfl)) ii hM2 (by
   have : 25 < n + 1 := by omega
   rw [show readC b = ((xOf b, b.drop 25), 0) by rw [readC, if_neg (by omega), if_neg (by rw [hs]; simp at hc2 hk1; simp [hc2]; omega)]]
   rw [List.take_of_length_le (by simp; omega)] at hA2; exact ⟨rfl, A2, _, c2, rfl, hA2⟩))
 refine x_draw 14 hmix rfl <| zp 0 rfl rfl (y_move (v := .func _ _ _) rfl) <| zp 2 rfl rfl (y_move (v := .func _ _ _) rfl) <| zp 4 rfl rfl (y_move (v := .func _ _ _) rfl) <| zp 6 rfl rfl (y_move (v := .func _ _ _) rfl) <| zy 8 rfl rfl (y_ld rfl rfl) <| zp 9 rfl rfl (y_indexAddr (b := g) (o := o) (by rw [hAe]; rfl) rfl (by omega)) <| zy 10 rfl rfl (y_load rfl rfl (.at_ (h24 _) (by omega))) <| zp 11 rfl rfl (y_eql rfl rfl) <| to_two 1 13 (by kernel_rfl) ?_ ?_
 ·
  refine two_e 1 rfl rfl <| e_callv rfl rfl (Con.bring b1 ii (cRead1_spec h hn25 0 (by omega))) (fun _ _ _ _ h => h.elim) ?_
  rintro _ _ _ _ ⟨rfl, rfl, rfl⟩
  refine ⟨⟨(by first | exact Le.refl _ | assumption), Keeps.mem⟩, ?_⟩
  refine to_two 3 13 (by kernel_rfl) ?_ ?_
  ·
   refine two_e 3 rfl rfl <| e_callv rfl rfl (Con.bring b1 ii (cRead1_spec h hn25 1 (by omega))) (fun _ _ _ _ h => h.elim) ?_
   rintro _ _ _ _ ⟨rfl, rfl, rfl⟩
   refine ⟨⟨(by first | exact Le.refl _ | assumption), Keeps.mem⟩, ?_⟩
   refine to_two 5 13 (by kernel_rfl) ?_ ?_
   ·
    refine two_e 5 rfl rfl <| e_callv rfl rfl (Con.bring b1 ii (cRead1_spec h hn25 2 (by omega))) (fun _ _ _ _ h => h.elim) ?_
    rintro _ _ _ _ ⟨rfl, rfl, rfl⟩
    refine ⟨⟨(by first | exact Le.refl _ | assumption), Keeps.mem⟩, ?_⟩
    refine to_two 7 13 (by kernel_rfl) ?_ ?_
    ·
     refine two_e 7 rfl rfl <| e_callv rfl rfl (Con.bring b1 ii (cRead1_spec h hn25 2 (by omega))) (fun _ _ _ _ h => h.elim) ?_
     rintro _ _ _ _ ⟨rfl, rfl, rfl⟩
     refine ⟨⟨(by first | exact Le.refl _ | assumption), Keeps.mem⟩, ?_⟩
     refine zp 12 rfl rfl (y_build rfl) <| ze 13 rfl rfl <| e_alloc <| fun bA => ⟨⟨(by first | exact Le.refl _ | assumption), Keeps.mem⟩, ?_⟩
     refine zt 14 rfl rfl <| e_st rfl rfl (by rfl) (by rfl) <| zz <| .then_normal <| .sub (F' := [(1, _), (2, _), (6, _)]) (cs3 rfl rfl rfl) <| Jd4 _ _ _ _ ?_
     exact ⟨rfl, rfl, _, by rw [hX]; exact ii, rfl⟩
    refine two_e 13 rfl rfl <| e_alloc <| fun bA => ⟨⟨(by first | exact Le.refl _ | assumption), Keeps.mem⟩, ?_⟩
    refine ze 7 rfl rfl <| e_callv rfl rfl (Con.bring b1 ii (cRead1_spec h hn25 2 (by omega))) (fun _ _ _ _ h => h.elim) ?_
    rintro _ _ _ _ ⟨rfl, rfl, rfl⟩
    refine ⟨⟨(by first | exact Le.refl _ | assumption), Keeps.mem⟩, ?_⟩
    refine zp 12 rfl rfl (y_build rfl) <| zt 14 rfl rfl <| e_st rfl rfl (by rfl) (by rfl) <| zz <| .then_normal <| .sub (F' := [(1, _), (2, _), (6, _)]) (cs3 rfl rfl rfl) <| Jd4 _ _ _ _ ?_
    exact ⟨rfl, rfl, _, by rw [hX]; exact ii, rfl⟩
   refine two_e 13 rfl rfl <| e_alloc <| fun bA => ⟨⟨(by first | exact Le.refl _ | assumption), Keeps.mem⟩, ?_⟩
   refine ze 5 rfl rfl <| e_callv rfl rfl (Con.bring b1 ii (cRead1_spec h hn25 2 (by omega))) (fun _ _ _ _ h => h.elim) ?_
   rintro _ _ _ _ ⟨rfl, rfl, rfl⟩
   refine ⟨⟨(by first | exact Le.refl _ | assumption), Keeps.mem⟩, ?_⟩
   refine ze 7 rfl rfl <| e_callv rfl rfl (Con.bring b1 ii (cRead1_spec h hn25 2 (by omega))) (fun _ _ _ _ h => h.elim) ?_
   rintro _ _ _ _ ⟨rfl, rfl, rfl⟩
   refine ⟨⟨(by first | exact Le.refl _ | assumption), Keeps.mem⟩, ?_⟩
   refine zp 12 rfl rfl (y_build rfl) <| zt 14 rfl rfl <| e_st rfl rfl (by rfl) (by rfl) <| zz <| .then_normal <| .sub (F' := [(1, _), (2, _), (6, _)]) (cs3 rfl rfl rfl) <| Jd4 _ _ _ _ ?_
   exact ⟨rfl, rfl, _, by rw [hX]; exact ii, rfl⟩
  refine two_e 13 rfl rfl <| e_alloc <| fun bA => ⟨⟨(by first | exact Le.refl _ | assumption), Keeps.mem⟩, ?_⟩
  refine ze 3 rfl rfl <| e_callv rfl rfl (Con.bring b1 ii (cRead1_spec h hn25 1 (by omega))) (fun _ _ _ _ h => h.elim) ?_
  rintro _ _ _ _ ⟨rfl, rfl, rfl⟩
  refine ⟨⟨(by first | exact Le.refl _ | assumption), Keeps.mem⟩, ?_⟩
  refine ze 5 rfl rfl <| e_callv rfl rfl (Con.bring b1 ii (cRead1_spec h hn25 2 (by omega))) (fun _ _ _ _ h => h.elim) ?_
  rintro _ _ _ _ ⟨rfl, rfl, rfl⟩
  refine ⟨⟨(by first | exact Le.refl _ | assumption), Keeps.mem⟩, ?_⟩
  refine ze 7 rfl rfl <| e_callv rfl rfl (Con.bring b1 ii (cRead1_spec h hn25 2 (by omega))) (fun _ _ _ _ h => h.elim) ?_
  rintro _ _ _ _ ⟨rfl, rfl, rfl⟩
  refine ⟨⟨(by first | exact Le.refl _ | assumption), Keeps.mem⟩, ?_⟩
  refine zp 12 rfl rfl (y_build rfl) <| zt 14 rfl rfl <| e_st rfl rfl (by rfl) (by rfl) <| zz <| .then_normal <| .sub (F' := [(1, _), (2, _), (6, _)]) (cs3 rfl rfl rfl) <| Jd4 _ _ _ _ ?_
  exact ⟨rfl, rfl, _, by rw [hX]; exact ii, rfl⟩
 refine two_e 13 rfl rfl <| e_alloc <| fun bA => ⟨⟨(by first | exact Le.refl _ | assumption), Keeps.mem⟩, ?_⟩
 refine ze 1 rfl rfl <| e_callv rfl rfl (Con.bring b1 ii (cRead1_spec h hn25 0 (by omega))) (fun _ _ _ _ h => h.elim) ?_
 rintro _ _ _ _ ⟨rfl, rfl, rfl⟩
 refine ⟨⟨(by first | exact Le.refl _ | assumption), Keeps.mem⟩, ?_⟩
 refine ze 3 rfl rfl <| e_callv rfl rfl (Con.bring b1 ii (cRead1_spec h hn25 1 (by omega))) (fun _ _ _ _ h => h.elim) ?_
 rintro _ _ _ _ ⟨rfl, rfl, rfl⟩
 refine ⟨⟨(by first | exact Le.refl _ | assumption), Keeps.mem⟩, ?_⟩
 refine ze 5 rfl rfl <| e_callv rfl rfl (Con.bring b1 ii (cRead1_spec h hn25 2 (by omega))) (fun _ _ _ _ h => h.elim) ?_
 rintro _ _ _ _ ⟨rfl, rfl, rfl⟩
 refine ⟨⟨(by first | exact Le.refl _ | assumption), Keeps.mem⟩, ?_⟩
 refine ze 7 rfl rfl <| e_callv rfl rfl (Con.bring b1 ii (cRead1_spec h hn25 2 (by omega))) (fun _ _ _ _ h => h.elim) ?_
 rintro _ _ _ _ ⟨rfl, rfl, rfl⟩
 refine ⟨⟨(by first | exact Le.refl _ | assumption), Keeps.mem⟩, ?_⟩
 refine zp 12 rfl rfl (y_build rfl) <| zt 14 rfl rfl <| e_st rfl rfl (by rfl) (by rfl) <| zz <| .then_normal <| .sub (F' := [(1, _), (2, _), (6, _)]) (cs3 rfl rfl rfl) <| Jd4 _ _ _ _ ?_
 exact ⟨rfl, rfl, _, by rw [hX]; exact ii, rfl⟩
end
section
variable {G : World} {M : Mem} {L R : Own} {p d c : Nat} {S : DS} {s : SS} {r : DRep} {A0 HA : Option Addr} {l0 c0 hl hc : Nat}
abbrev cL (c : Nat) (x : Cn) (HA : Option Addr) (hl hc : Nat) (p : Nat) : Nat × Obj :=
 (c, .cells #[.int .u64 (x.total.toNat : Int), .int .u64 (x.batch.toNat : Int), .int .u64 (x.reserved.toNat : Int), .int .u64 (x.next.toNat : Int), .bool x.retired, .slice HA hl hc, .pointer (some ⟨p, 0, none⟩)] 163 (0, 0))
theorem Head_spec (x : Cn) {head : List UInt8} (h : Bytes M HA hl hc head) (hn : hl ≤ 140737488355328) :
  Con Tryz.prog 81 #[.pointer (some ⟨c, 0, none⟩)] G M (cL c x HA hl hc p :: R) (fun v M' L' => L' = cL c x HA hl hc p :: R ∧ ∃ A' c', v = .slice A' hl c' ∧ Bytes M' A' hl c' head) noPanic := by
 refine en Tryz.func81 rfl 8 rfl <| zr <| as0 rfl rfl <| zq <| zr <| mvP rfl rfl <| zc rfl rfl <| tFa rfl rfl <| tLd rfl rfl rfl <| ec rfl rfl (bytesClone_spec h hn) ?_
 rintro _ M1 _ hM1 ⟨rfl, A1, c1, rfl, hA1⟩
 refine asS rfl rfl <| zq <| .s1 2 rfl <| x_ret (ret1 rfl rfl hM1 ⟨rfl, A1, c1, rfl, hA1⟩)
theorem State_spec (x : Cn) :
  Con Tryz.prog 82 #[.pointer (some ⟨c, 0, none⟩)] G M (cL c x HA hl hc p :: R) (fun v M' L' => L' = cL c x HA hl hc p :: R ∧ M' = M ∧ v = .agg (List.toArray (ccells x))) noPanic := by
 refine en Tryz.func82 rfl 7 rfl <| zr <| tl_e rfl <| e_alloc <| fun b1 => zq <| zr <| mvP rfl rfl <| zc rfl rfl <| tFa rfl rfl <| tLg rfl rfl rfl <| tl_e rfl <| e_st rfl rfl (by rfl) (by rfl) <| zq <| .s1 2 rfl <| x_ret (retRV (L' := cL c x HA hl hc p :: R) (rv1 rfl (rc_cellAgg (by rfl) rfl (.own ii ii))) ii (Le.refl _) ⟨rfl, rfl, rfl⟩)
theorem Cn.eq_iff (x y : Cn) : ((x.total.toNat : Int) = y.total.toNat ∧ ((x.batch.toNat : Int) = y.batch.toNat ∧ ((x.reserved.toNat : Int) = y.reserved.toNat ∧ ((x.next.toNat : Int) = y.next.toNat ∧ (x.retired = y.retired ∧ True))))) ↔ x = y := by
 obtain ⟨a, b, c, d, e⟩ := x
 obtain ⟨a', b', c', d', e'⟩ := y
 have h : ∀ u v : UInt64, (u.toNat : Int) = v.toNat ↔ u = v := fun u v => by rw [← UInt64.toNat_inj]; omega
 simp only [h, Cn.mk.injEq, and_true]
theorem csave_spec (hg : ShaG M) (h : IsDisk M r S) (ok : OkS S s) {B : Nat} (hw : S.within B) (hB : B ≤ 1000000) (hb : Bytes M A0 l0 c0 s.b) {head : List UInt8} (hh : Bytes M HA hl hc head) (x x' : Cn) :
  Con Tryz.prog 86 #[.pointer (some ⟨c, 0, none⟩), .agg (List.toArray (ccells x'))] G M (dL d r S (sL p d s A0 l0 c0 :: cL c x HA hl hc p :: R))
   (fun v M' L' => SK p d (saveC S s x x' head).1.1.1 (saveC S s x x' head).1.1.2 (cL c (saveC S s x x' head).1.2 HA hl hc p :: R) M' L' ∧ v = .int .i64 (saveC S s x x' head).2) noPanic := by
 have hl' := hh.size
 refine en Tryz.func86 rfl 39 rfl <| zr <| tl_e rfl <| e_box rfl <| fun b1 => as0 rfl rfl <| zq <| x_seq <| x_seq <| x_draw 6 hmix rfl <| zy 0 rfl rfl (y_lg rfl rfl) <| zp 1 rfl rfl (y_move (v := .pointer _) rfl) <| zp 2 rfl rfl (y_nilCheck rfl) ?_
 refine zp 3 rfl rfl (y_fieldAddr rfl) <| zy 4 rfl rfl (y_lg rfl rfl) <| zp 5 rfl rfl (y_eqlS rfl rfl eqs157) <| zz <| .then_normal <| .s3 0 3 13 rfl rfl rfl ?_
 rw [show (decide _ : Bool) = decide (x' = x) from decide_eq_decide.mpr (Cn.eq_iff x' x)]
 refine x_condb rfl (fun hc1 => ?_) (fun hc1 => ?_)
 ·
  refine zr <| as0 rfl rfl <| zq <| x_ret (.then_ret (.dropTo _ ii (ret1 rfl rfl (Le.refl _) (by
   rw [show saveC S s x x' head = (((S, s), x), 0) by rw [saveC, if_pos (by simpa using hc1)]]
   exact ⟨⟨r, A0, l0, c0, h, hb, rfl⟩, rfl⟩))))
 refine x_skip <| .then_normal <| x_seq <| x_draw 11 hmix rfl <| zy 0 rfl rfl (y_lg rfl rfl) <| zp 1 rfl rfl (y_move (v := .pointer _) rfl) <| zp 2 rfl rfl (y_nilCheck rfl) <| zp 3 rfl rfl (y_fieldAddr rfl) <| zy 4 rfl rfl (y_ld rfl rfl) <| ze 5 rfl rfl <| e_call' rfl (Bytes_spec x' hh) ?_
 rintro v M2 _ hM2 ⟨rfl, hv⟩
 obtain ⟨A', n', c', e, rfl, hcase⟩ : ∃ A' n' c' e, v = .tuple #[.slice A' n' c', .int .i64 e] ∧ ((mayB x' hl = true ∧ e = 0 ∧ Bytes M2 A' n' c' (bytesC x' head)) ∨ (mayB x' hl = false ∧ e = 1)) := by
  split at hv
  ·
   obtain ⟨A', c', rfl, h⟩ := hv; exact ⟨A', _, c', 0, rfl, .inl ⟨by assumption, rfl, h⟩⟩
  exact ⟨none, 0, 0, 1, hv, .inr ⟨by simpa using (by assumption : ¬ mayB x' hl = true), rfl⟩⟩
 refine ⟨⟨hM2, Keeps.mem⟩, ?_⟩
 refine zp 6 rfl rfl (y_move (v := .tuple _) rfl) <| zp 7 rfl rfl (y_extract rfl) <| zp 8 rfl rfl (y_extract rfl) <| zp 9 rfl rfl (y_assign (v := .slice _ _ _) rfl) <| zp 10 rfl rfl (y_assign (v := .int _ _) rfl) <| zz <| .then_normal <| .s4 0 3 5 6 rfl rfl rfl rfl <| zr2 <| mvI rfl rfl <| tl_y rfl (y_neq rfl rfl) ?_
 refine zq <| x_condb rfl (fun hc2 => ?_) (fun hc2 => ?_)
 ·
  refine zr <| mvI rfl rfl <| asI rfl rfl <| zq <| .s1 4 rfl <| x_ret (.then_ret (.dropTo _ ii (ret1 rfl rfl hM2 (by
   obtain ⟨hm, rfl⟩ : mayB x' hl = false ∧ e = 1 := by rcases hcase with ⟨_, rfl, _⟩ | h; exact absurd hc2 (by simp); exact h
   rw [show saveC S s x x' head = (((S, s), x), 1) by rw [saveC, if_neg (by simpa using hc1), if_pos (by rw [hl']; exact hm)]]
   exact ⟨⟨r, A0, l0, c0, h.mono hM2, hb.mono hM2, rfl⟩, rfl⟩))))
 obtain ⟨hm, rfl, hbb⟩ : mayB x' hl = true ∧ e = 0 ∧ Bytes M2 A' n' c' (bytesC x' head) := by rcases hcase with h | ⟨_, rfl⟩; exact h; exact absurd hc2 (by simp)
 refine x_skip <| .then_normal <| zr2 <| mvP rfl rfl <| zc rfl rfl <| tFa rfl rfl <| tLd rfl rfl rfl <| mvS rfl rfl <| .to (dL d r S (sL p d s A0 l0 c0 :: (b1, .cells (List.toArray (ccells x')) 157 (0, 0)) :: cL c x HA hl hc p :: R)) ii <| ec rfl rfl (Save_spec (hg.mono hM2) (h.mono hM2) ok hw hB (hb.mono hM2) hbb) ?_
 rintro _ M3 _ hM3 ⟨⟨r', A3, l3, c3, h3, hb3, rfl⟩, rfl⟩
 refine asI rfl rfl <| zq <| .s3 0 3 7 rfl rfl rfl <| zr <| mvI rfl rfl <| tl_y rfl (y_neq rfl rfl) <| zq <| x_condb rfl (fun hc3 => ?_) (fun hc3 => ?_)
 ·
  refine zr <| mvI rfl rfl <| asI rfl rfl <| zq <| .s1 4 rfl <| x_ret (.then_ret (.dropTo _ ii (ret1 rfl rfl (hM2.trans hM3) (by
   have hne : (saveRes S s (bytesC x' head)).2 ≠ 0 := by simpa using hc3
   rw [show saveC S s x x' head = (((saveRes S s (bytesC x' head)).1, x), (saveRes S s (bytesC x' head)).2) by rw [saveC, if_neg (by simpa using hc1), if_neg (by rw [hl', hm]; simp), if_pos hne]]
   exact ⟨⟨r', A3, l3, c3, h3, hb3, rfl⟩, rfl⟩))))
 refine x_skip <| .then_normal <| zr <| mvP rfl rfl <| tLg rfl rfl rfl <| zc rfl rfl <| tFa rfl rfl <| tl_e rfl <| e_st rfl rfl (by rfl) (by rfl) <| zq <| .s0 <| zr <| as0 rfl rfl <| zq <| x_ret (.dropTo (dL d r' (saveRes S s (bytesC x' head)).1.1 (sL p d (saveRes S s (bytesC x' head)).1.2 A3 l3 c3 :: cL c x' HA hl hc p :: R)) ii (ret1 rfl rfl (hM2.trans hM3) (by
  have hne : (saveRes S s (bytesC x' head)).2 = 0 := by simpa using hc3
  rw [show saveC S s x x' head = (((saveRes S s (bytesC x' head)).1, x'), 0) by rw [saveC, if_neg (by simpa using hc1), if_neg (by rw [hl', hm]; simp), if_neg (by simp [hne])]]
  exact ⟨⟨r', A3, l3, c3, h3, hb3, rfl⟩, rfl⟩)))
end
section
variable {G : World} {M : Mem} {L R : Own} {p d c : Nat} {S : DS} {s : SS} {r : DRep} {A0 HA : Option Addr} {l0 c0 hl hc : Nat}
theorem Retire_spec (hg : ShaG M) (h : IsDisk M r S) (ok : OkS S s) {B : Nat} (hw : S.within B) (hB : B ≤ 1000000) (hb : Bytes M A0 l0 c0 s.b) {head : List UInt8} (hh : Bytes M HA hl hc head) (x : Cn) :
  Con Tryz.prog 68 #[.pointer (some ⟨c, 0, none⟩)] G M (dL d r S (sL p d s A0 l0 c0 :: cL c x HA hl hc p :: R))
   (fun v M' L' => SK p d (retireC S s x head).1.1.1 (retireC S s x head).1.1.2 (cL c (retireC S s x head).1.2 HA hl hc p :: R) M' L' ∧ v = .int .i64 (retireC S s x head).2) noPanic := by
 refine en Tryz.func68 rfl 12 rfl <| zr <| as0 rfl rfl <| zq <| zr <| mvP rfl rfl <| zc rfl rfl <| tFa rfl rfl <| tLg rfl rfl rfl <| tl_e rfl <| e_alloc <| fun b1 => tl_e rfl <| e_st rfl rfl (by rfl) (by rfl) <| zq <| .s2 0 3 rfl rfl <| zr <| tFa rfl rfl <| tl_e rfl <| e_st rfl rfl (by rfl) (by rfl) <| zq <| zr <| mvP rfl rfl <| tLg rfl rfl rfl <| .to (dL d r S (sL p d s A0 l0 c0 :: cL c x HA hl hc p :: (b1, .cells (List.toArray (ccells { x with retired := true })) 157 (0, 0)) :: R)) ii <| ec rfl rfl (csave_spec hg h ok hw hB hb hh x { x with retired := true }) ?_
 rintro _ M3 _ hM3 ⟨⟨r', A3, l3, c3, h3, hb3, rfl⟩, rfl⟩
 refine asI rfl rfl <| zq <| .s1 2 rfl <| x_ret (.dropTo (dL d r' (saveC S s x { x with retired := true } head).1.1.1 (sL p d (saveC S s x { x with retired := true } head).1.1.2 A3 l3 c3 :: cL c (saveC S s x { x with retired := true } head).1.2 HA hl hc p :: R)) ii (ret1 rfl rfl hM3 ⟨⟨r', A3, l3, c3, h3, hb3, rfl⟩, rfl⟩))
theorem cTake_spec (hg : ShaG M) (h : IsDisk M r S) (ok : OkS S s) {B : Nat} (hw : S.within B) (hB : B ≤ 1000000) (hb : Bytes M A0 l0 c0 s.b) {head : List UInt8} (hh : Bytes M HA hl hc head) (x : Cn) :
  Con Tryz.prog 45 #[.pointer (some ⟨c, 0, none⟩)] G M (dL d r S (sL p d s A0 l0 c0 :: cL c x HA hl hc p :: R))
   (fun v M' L' => SK p d (takeC S s x head).1.1.1 (takeC S s x head).1.1.2 (cL c (takeC S s x head).1.2 HA hl hc p :: R) M' L' ∧ v = .tuple #[.int .u64 ((takeC S s x head).2.1.toNat : Int), .int .i64 (takeC S s x head).2.2]) noPanic := by
 have ht : ∀ u v : UInt64, (u.toNat : Int) = v.toNat ↔ u = v := fun u v => by rw [← UInt64.toNat_inj]; omega
 refine en Tryz.func45 rfl 69 rfl <| zr <| as0 rfl rfl <| as0 rfl rfl <| zq <| x_seq <| x_block <| zr <| mvP rfl rfl <| zc rfl rfl <| tFa rfl rfl <| tFa rfl rfl <| tLd rfl rfl rfl <| asB rfl rfl <| zq <| .s2 0 6 rfl rfl <| x_condb rfl (fun hc1 => ?_) (fun hc1 => ?_)
 ·
  refine zr <| as0 rfl rfl <| as0 rfl rfl <| zq <| x_ret (.block_ret (.then_ret (ret2 rfl rfl rfl (Le.refl _) (by
   rw [show takeC S s x head = (((S, s), x), (0, 13)) by rw [takeC, if_pos hc1]]
   exact ⟨⟨r, A0, l0, c0, h, hb, rfl⟩, rfl⟩))))
 refine x_seq <| x_draw 12 hmix rfl <| zp 0 rfl rfl (y_move (v := .pointer _) rfl) <| zp 1 rfl rfl (y_nilCheck rfl) <| zp 2 rfl rfl (y_fieldAddr rfl) <| zp 3 rfl rfl (y_fieldAddr rfl) <| zy 4 rfl rfl (y_ld rfl rfl) <| zp 5 rfl rfl (y_move (v := .pointer _) rfl) <| zp 6 rfl rfl (y_nilCheck rfl) <| zp 7 rfl rfl (y_fieldAddr rfl) ?_
 refine zp 8 rfl rfl (y_fieldAddr rfl) <| zy 9 rfl rfl (y_ld rfl rfl) <| zp 10 rfl rfl (y_eql rfl rfl) <| zp 11 rfl rfl (y_assign (v := .bool _) rfl) <| zz <| .then_normal <| .s2 0 12 rfl rfl <| x_cond rfl (fun hc2 => ?_) (fun hc2 => ?_)
 ·
  refine zr <| as0 rfl rfl <| as0 rfl rfl <| zq <| x_ret (.block_ret (.then_ret (ret2 rfl rfl rfl (Le.refl _) (by
   rw [show takeC S s x head = (((S, s), x), (0, 9)) by rw [takeC, if_neg (by simp [hc1]), if_pos ((ht _ _).1 hc2)]]
   exact ⟨⟨r, A0, l0, c0, h, hb, rfl⟩, rfl⟩))))
 refine x_skip <| .block_normal <| .then_normal <| x_seq <| x_seq <| x_draw 11 hmix rfl <| zp 0 rfl rfl (y_move (v := .pointer _) rfl) <| zp 1 rfl rfl (y_nilCheck rfl) <| zp 2 rfl rfl (y_fieldAddr rfl) <| zp 3 rfl rfl (y_fieldAddr rfl) <| zy 4 rfl rfl (y_ld rfl rfl) <| zp 5 rfl rfl (y_move (v := .pointer _) rfl) <| zp 6 rfl rfl (y_nilCheck rfl) ?_
 refine zp 7 rfl rfl (y_fieldAddr rfl) <| zp 8 rfl rfl (y_fieldAddr rfl) <| zy 9 rfl rfl (y_ld rfl rfl) <| zp 10 rfl rfl (y_eql rfl rfl) <| zz <| .then_normal <| .s2 0 34 rfl rfl <| x_cond rfl (fun hc3 => ?_) (fun hc3 => ?_)
 ·
  refine zr <| mvP rfl rfl <| zc rfl rfl <| tFa rfl rfl <| tLg rfl rfl rfl <| tl_e rfl <| e_alloc <| fun b1 => tl_e rfl <| e_st rfl rfl (by rfl) (by rfl) <| zq <| .s2 0 4 rfl rfl <| zr <| tFa rfl rfl <| tLd rfl rfl rfl <| tFa rfl rfl <| tLd rfl rfl rfl <| tl_y rfl (y_add64 rfl rfl) <| tFa rfl rfl <| tLd rfl rfl rfl <| tl_y rfl (y_min rfl rfl) ?_
  rw [show (if (x.total.toNat : Int) < ((x.reserved + x.batch).toNat : Int) then (x.total.toNat : Int) else ((x.reserved + x.batch).toNat : Int)) = ((moreC x).reserved.toNat : Int) by rw [moreC]; show _ = ((if _ then _ else _ : UInt64).toNat : Int); split <;> split <;> first | rfl | omega]
  refine tFa rfl rfl <| tl_e rfl <| e_st rfl rfl (by rfl) (by rfl) <| zq <| .s2 0 4 rfl rfl <| zr <| mvP rfl rfl <| tLg rfl rfl rfl <| .to (dL d r S (sL p d s A0 l0 c0 :: cL c x HA hl hc p :: (b1, .cells #[.int .u64 (x.total.toNat : Int), .int .u64 (x.batch.toNat : Int), u64v (moreC x).reserved, .int .u64 (x.next.toNat : Int), .bool x.retired] 157 (0, 0)) :: R)) ii <| ec rfl rfl (csave_spec hg h ok hw hB hb hh x (moreC x)) ?_
  rintro _ M3 _ hM3 ⟨⟨r', A3, l3, c3, h3, hb3, rfl⟩, rfl⟩
  refine asI rfl rfl <| zq <| .s2 0 5 rfl rfl <| zr <| mvI rfl rfl <| tl_y rfl (y_neq rfl rfl) <| zq <| x_condb rfl (fun hc4 => ?_) (fun hc4 => ?_)
  ·
   refine zr <| mvI rfl rfl <| as0 rfl rfl <| asI rfl rfl <| zq <| .s2 2 3 rfl rfl <| x_ret (.then_ret (.dropTo (dL d r' (saveC S s x (moreC x) head).1.1.1 (sL p d (saveC S s x (moreC x) head).1.1.2 A3 l3 c3 :: cL c (saveC S s x (moreC x) head).1.2 HA hl hc p :: R)) ii (ret2 rfl rfl rfl hM3 (by
    rw [show takeC S s x head = ((saveC S s x (moreC x) head).1, (0, (saveC S s x (moreC x) head).2)) by rw [takeC, if_neg (by simp [hc1]), if_neg (fun e => hc2 ((ht _ _).2 e)), if_pos ((ht _ _).1 hc3), if_pos (by simpa using hc4)]]
    exact ⟨⟨r', A3, l3, c3, h3, hb3, rfl⟩, rfl⟩))))
  refine x_skip <| .then_normal <| zr <| mvP rfl rfl <| zc rfl rfl <| tFa rfl rfl <| tFa rfl rfl <| tLd rfl rfl rfl <| tl_y rfl (y_add64 (b := 1) rfl rfl) <| zc rfl rfl <| tFa rfl rfl <| tFa rfl rfl <| tl_e rfl <| e_st rfl rfl (by rfl) (by rfl) <| zq <| .s1 0 rfl <| zr <| mvP rfl rfl <| zc rfl rfl <| tFa rfl rfl <| tFa rfl rfl <| tLd rfl rfl rfl <| tl_y rfl (y_sub64 (b := 1) rfl rfl) <| asI rfl rfl <| as0 rfl rfl <| zq <| .s2 2 3 rfl rfl <| x_ret (.dropTo (dL d r' (saveC S s x (moreC x) head).1.1.1 (sL p d (saveC S s x (moreC x) head).1.1.2 A3 l3 c3 :: (c, .cells #[.int .u64 ((saveC S s x (moreC x) head).1.2.total.toNat : Int), .int .u64 ((saveC S s x (moreC x) head).1.2.batch.toNat : Int), .int .u64 ((saveC S s x (moreC x) head).1.2.reserved.toNat : Int), u64v ((saveC S s x (moreC x) head).1.2.next + 1), .bool (saveC S s x (moreC x) head).1.2.retired, .slice HA hl hc, .pointer (some ⟨p, 0, none⟩)] 163 (0, 0)) :: R)) ii (ret2 rfl rfl rfl hM3 (by
   rw [show takeC S s x head = (((saveC S s x (moreC x) head).1.1, nextC' (saveC S s x (moreC x) head).1.2), ((nextC' (saveC S s x (moreC x) head).1.2).next - 1, 0)) by rw [takeC, if_neg (by simp [hc1]), if_neg (fun e => hc2 ((ht _ _).2 e)), if_pos ((ht _ _).1 hc3), if_neg (by simpa using hc4)]]
   exact ⟨⟨r', A3, l3, c3, h3, hb3, rfl⟩, rfl⟩)))
 refine x_skip <| .then_normal <| zr <| mvP rfl rfl <| zc rfl rfl <| tFa rfl rfl <| tFa rfl rfl <| tLd rfl rfl rfl <| tl_y rfl (y_add64 (b := 1) rfl rfl) <| zc rfl rfl <| tFa rfl rfl <| tFa rfl rfl <| tl_e rfl <| e_st rfl rfl (by rfl) (by rfl) <| zq <| .s1 0 rfl <| zr <| mvP rfl rfl <| zc rfl rfl <| tFa rfl rfl <| tFa rfl rfl <| tLd rfl rfl rfl <| tl_y rfl (y_sub64 (b := 1) rfl rfl) <| asI rfl rfl <| as0 rfl rfl <| zq <| .s2 2 3 rfl rfl <| x_ret (.to (dL d r S (sL p d s A0 l0 c0 :: (c, .cells #[.int .u64 (x.total.toNat : Int), .int .u64 (x.batch.toNat : Int), .int .u64 (x.reserved.toNat : Int), u64v (x.next + 1), .bool x.retired, .slice HA hl hc, .pointer (some ⟨p, 0, none⟩)] 163 (0, 0)) :: R)) ii (ret2 rfl rfl rfl (Le.refl _) (by
  rw [show takeC S s x head = (((S, s), nextC' x), ((nextC' x).next - 1, 0)) by rw [takeC, if_neg (by simp [hc1]), if_neg (fun e => hc2 ((ht _ _).2 e)), if_neg (fun e => hc3 ((ht _ _).2 e))]]
  exact ⟨⟨r, A0, l0, c0, h, hb, rfl⟩, rfl⟩)))
end
end Go.Proofs.YtplkoemjffplcaaGreatDoor
