/-
Contracts of functions, each proved by a walk through its code.
-/
import Derived.Test.YtplkoemjffplcaaGreatDoorHss14Etc
import Derived.Test.YtplkoemjffplcaaGreatDoorSlotsPureEtc
set_option linter.all false
namespace Go.Proofs.YtplkoemjffplcaaGreatDoor
open Go Go.Eng
theorem saveGo_stuck {S : DS} {a : Nat} {all : List UInt8} {k : Nat} (h : (saveGo S a all k).2 ≠ 0) : ∀ j, saveGo S a all (k + j) = saveGo S a all k
 | 0 => rfl
 | j + 1 => by
  have ih := saveGo_stuck h j
  rw [show k + (j + 1) = (k + j) + 1 from rfl, saveGo, ih, if_pos h]
section
variable {G : World} {M : Mem} {L R : Own} {p d : Nat} {r : DRep} {S : DS} {s : SS} {A0 : Option Addr} {l0 c0 : Nat}
theorem sNew2_spec (h : IsDisk M r S) (first n : Int) :
  Con Tryz.prog 87 #[.pointer (some ⟨d, 0, none⟩), .int .i64 first, .int .i64 n] G M (dL d r S R)
   (fun v M' L' => if 1 ≤ n ∧ n ≤ 8 ∧ 0 ≤ first ∧ first + 2 * n ≤ S.sure.length then ∃ p, v = .tuple #[.pointer (some ⟨p, 0, none⟩), .int .i64 0] ∧ SK p d S ⟨first.toNat, n.toNat, 0, 0, []⟩ R M' L' else v = .tuple #[.pointer none, .int .i64 1] ∧ ∃ r', IsDisk M' r' S ∧ L' = dL d r' S R) noPanic := by
 have hsz := h.sz
 have hsn := h.sn
 refine zfn Tryz.func87 rfl 33 rfl <| zr <| as0 rfl <| as0 rfl <| zq <| zr2 <| mvI rfl <| tl_y rfl (y_lss rfl rfl) <| mvB rfl <| tl_cases (s := 10) rfl (fun hk1 => ?_) (fun hk1 => ?_)
 ·
  refine sk2 rfl rfl <| tPt rfl rfl <| mvB rfl <| sk2 rfl rfl <| tPt rfl rfl <| mvB rfl <| sk8 rfl rfl rfl rfl rfl rfl rfl rfl <| tPt rfl rfl <| zq <| .s4 0 1 2 27 rfl rfl rfl rfl <| x_true rfl rfl <| zr <| as0 rfl <| as0 rfl <| zq <| .s2 6 7 rfl rfl <| x_ret (.then_ret (ret2 rfl rfl rfl lR (by rw [if_neg (by omega)]; exact ⟨rfl, r, h, rfl⟩)))
 refine mvI rfl <| tl_y rfl (y_gtr rfl rfl) <| tPf rfl rfl <| mvB rfl <| tl_cases (s := 14) rfl (fun hk2 => ?_) (fun hk2 => ?_)
 ·
  refine sk2 rfl rfl <| tPt rfl rfl <| mvB rfl <| sk8 rfl rfl rfl rfl rfl rfl rfl rfl <| tPt rfl rfl <| zq <| .s4 0 1 2 27 rfl rfl rfl rfl <| x_true rfl rfl <| zr <| as0 rfl <| as0 rfl <| zq <| .s2 6 7 rfl rfl <| x_ret (.then_ret (ret2 rfl rfl rfl lR (by rw [if_neg (by omega)]; exact ⟨rfl, r, h, rfl⟩)))
 refine mvI rfl <| tl_y rfl (y_lss rfl rfl) <| tPf rfl rfl <| mvB rfl <| tl_cases (s := 18) rfl (fun hk3 => ?_) (fun hk3 => ?_)
 ·
  refine sk8 rfl rfl rfl rfl rfl rfl rfl rfl <| tPt rfl rfl <| zq <| .s4 0 1 2 27 rfl rfl rfl rfl <| x_true rfl rfl <| zr <| as0 rfl <| as0 rfl <| zq <| .s2 6 7 rfl rfl <| x_ret (.then_ret (ret2 rfl rfl rfl lR (by rw [if_neg (by omega)]; exact ⟨rfl, r, h, rfl⟩)))
 refine mvI rfl <| mvP rfl <| zca rfl (Sure_spec h) ?_
 rintro _ M1 _ hM1 ⟨rfl, A1, n1, c1, vs1, rfl, hA1, hb1⟩
 have hn1 := hA1.len
 have hn2 := hb1.len
 obtain rfl : n1 = S.sure.length := by omega
 refine tLen rfl <| mvI rfl <| tl_y rfl (y_mulI rfl rfl (by omega)) <| tl_y rfl (y_subI rfl rfl (by omega)) <| tl_y rfl (y_gtr rfl rfl) <| tPf rfl rfl <| zq <| .s4 0 1 2 27 rfl rfl rfl rfl <| x_cond rfl (fun hc1 => ?_) (fun hc1 => ?_)
 ·
  refine zr <| as0 rfl <| as0 rfl <| zq <| .s2 6 7 rfl rfl <| x_ret (.then_ret (ret2 rfl rfl rfl hM1 (by rw [if_neg (by omega)]; exact ⟨rfl, r, h.mono hM1, rfl⟩)))
 obtain ⟨f, rfl⟩ : ∃ f : Nat, first = f := ⟨first.toNat, by omega⟩
 obtain ⟨n, rfl⟩ : ∃ k : Nat, n = k := ⟨n.toNat, by omega⟩
 refine x_skip <| .then_normal <| zr <| mvP rfl <| mvI rfl <| mvI rfl <| tl_y rfl (y_build rfl) <| tl_e rfl <| e_box rfl <| fun b1 => asP rfl <| as0 rfl <| zq <| .s2 6 7 rfl rfl <| x_ret (.eqL (L' := sL b1 d ⟨f, n, 0, 0, []⟩ none 0 0 :: dL d r S R) rfl (.to (dL d r S (sL b1 d ⟨f, n, 0, 0, []⟩ none 0 0 :: R)) iI (ret2 rfl rfl rfl hM1 (by rw [if_pos (by omega)]; exact ⟨b1, rfl, r, none, 0, 0, h.mono hM1, Row.nil _ _, rfl⟩))))
abbrev sbox (x0 x1 x2 p : Nat) (num : UInt64) (to : Nat) (A : Option Addr) (l c : Nat) (R : Own) : Own :=
 (x2, .cells #[.int .i64 to] 3 (0, 0)) :: (x1, .cells #[.int .u64 (num.toNat : Int), .slice A l c] 213 (0, 0)) :: (x0, .cells #[.pointer (some ⟨p, 0, none⟩)] 92 (0, 0)) :: R
theorem Save1_spec (hg : ShaG M) (h : IsDisk M r S) (ok : OkS S s) {B : Nat} (hw : S.within B) (hB : B ≤ 1000000) (hb : Bytes M A0 l0 c0 s.b) {A : Option Addr} {l c : Nat} {b : List UInt8} (hr : Bytes M A l c b) (hbl : b.length + 28 ≤ 64 * s.n) {x0 x1 x2 be : Nat} {oe : Obj} :
  Con Tryz.prog 181 #[.pointer (some ⟨x0, 0, none⟩), .pointer (some ⟨x1, 0, none⟩), .pointer (some ⟨x2, 0, none⟩)] G M (dL d r S (sL p d s A0 l0 c0 :: (be, oe) :: sbox x0 x1 x2 p (s.num + 1) s.to A l c R))
   (fun v M' L' => (saveRes S s b).2 = 0 ∧ SK p d (saveRes S s b).1.1 (saveRes S s b).1.2 ((be, oe) :: sbox x0 x1 x2 p (s.num + 1) s.to A l c R) M' L')
   (fun ch M' L' => ch = wrongs (saveRes S s b).2 ∧ SK p d (saveRes S s b).1.1 (saveRes S s b).1.2 ((be, oe) :: sbox x0 x1 x2 p (s.num + 1) s.to A l c R) M' L') := by
 have hn := ok.n
 have hin := ok.in_
 have hsz := h.sz
 have hto : s.to ≤ 1 := by have := to_le s; have := ok.at_; omega
 have hmul : (s.to : Int) * (s.n : Int) = ((s.to * s.n : Nat) : Int) := by simp
 have hq := Nat.mul_le_mul_right s.n hto
 have hsv : saveRes S s b = if (laid S s b).2 ≠ 0 then (((laid S s b).1, s), (laid S s b).2) else if (flushRes (laid S s b).1).2 ≠ 0 then (((flushRes (laid S s b).1).1, s), (flushRes (laid S s b).1).2) else (((flushRes (laid S s b).1).1, s.saved b), 0) := by
  unfold saveRes; rw [if_neg (by omega)]
 have hla : laid S s b = saveGo S (s.first + s.to * s.n) (recB s.n (s.num + 1) b) s.n := rfl
 have hrl := recB_length (num := s.num + 1) hbl
 generalize hq' : s.to * s.n = q at hmul hq hla
 generalize hall : recB s.n (s.num + 1) b = all at hla hrl
 refine zfn Tryz.func181 rfl 56 rfl <| zr <| tLd rfl rfl <| tLg rfl rfl <| zca rfl (Con.to (sL p d s A0 l0 c0 :: (d, .cells (List.toArray (dcells r S)) 75 (0, 0)) :: (r.E1 ++ (r.E2 ++ ((be, oe) :: sbox x0 x1 x2 p (s.num + 1) s.to A l c R)))) iI (bytesOf_spec hg hn hr hbl)) ?_
 rintro _ M1 _ hM1 ⟨rfl, A1, c1, rfl, hA1⟩
 rw [hall] at hA1
 have hc1le := hA1.le
 refine .to (dL d r S (sL p d s A0 l0 c0 :: (be, oe) :: sbox x0 x1 x2 p (s.num + 1) s.to A l c R)) iI <| asS rfl <| zq <| zr2 <| tLd rfl rfl <| zc rfl <| tFa rfl <| tLd rfl rfl <| mv0 rfl <| zq <| .s6 0 1 2 3 11 12 rfl rfl rfl rfl rfl rfl <| x_block ?_
 refine x_loop (I := fun m' F D M2 L2 => ∃ (k : Nat) (r2 : DRep), m' = s.n - k ∧ k ≤ s.n ∧ Le M1 M2 ∧ (saveGo S (s.first + q) all k).2 = 0 ∧ IsDisk M2 r2 (saveGo S (s.first + q) all k).1 ∧ D = [] ∧ L2 = dL d r2 (saveGo S (s.first + q) all k).1 (sL p d s A0 l0 c0 :: (be, oe) :: sbox x0 x1 x2 p (s.num + 1) s.to A l c R) ∧ F = [(0, .pointer (some ⟨x0, 0, none⟩)), (1, .pointer (some ⟨x1, 0, none⟩)), (2, .pointer (some ⟨x2, 0, none⟩)), (3, .slice A1 (64 * s.n) c1), (11, .int .i64 s.n), (12, .int .i64 k)]) (s.n) (F0 := [(0, _), (1, _), (2, _), (3, _), (11, _), (12, _)]) ?_ (cs6 rfl rfl rfl rfl rfl rfl) ?_
 ·
  exact ⟨0, r, rfl, by omega, Le.refl _, rfl, h.mono hM1, rfl, rfl, rfl⟩
 rintro m _ _ M2 L2 ⟨k, r2, rfl, hk, hM2, h0, hd2, rfl, rfl, rfl⟩
 refine zr <| tl_y rfl (y_lss rfl rfl) <| zq <| x_seq <| x_cond rfl (fun hc1 => ?_) (fun hc1 => ?_)
 ·
  have hkn : k < s.n := by omega
  have hw2 := saveGo_within hw (s.first + q) all k
  have hgo : saveGo S (s.first + q) all (k + 1) = writeRes (saveGo S (s.first + q) all k).1 ((s.first + q + k : Nat) : Int) ((all.drop (64 * k)).take 64) := by rw [saveGo, if_neg (by simp [h0])]
  have hrow : Bytes M2 (sl A1 ((k : Int) * 64).toNat c1 1) ((((k : Int) + 1) * 64).toNat - ((k : Int) * 64).toNat) (c1 - ((k : Int) * 64).toNat) ((all.drop (64 * k)).take 64) := by
   have h1 := Bytes.sub (hA1.mono hM2) (64 * k) (64 * (k + 1)) (by omega) (by omega)
   rw [show 64 * (k + 1) - 64 * k = 64 by omega] at h1
   rw [show ((k : Int) * 64).toNat = 64 * k by omega, show (((k : Int) + 1) * 64).toNat - 64 * k = 64 by omega]
   exact h1
  refine x_skip <| .then_normal <| x_seq <| x_block <| zr <| mvI rfl <| asI rfl <| zq <| x_draw0 26 ([(x2, .cells #[.int .i64 s.to] 3 (0, 0)), (x0, .cells #[.pointer (some ⟨p, 0, none⟩)] 92 (0, 0)), sL p d s A0 l0 c0]) Keeps.mem hmix rfl <| pLd 0 rfl rfl rfl <| zp 1 rfl rfl (y_nilCheck rfl) ?_
  refine pFa 2 rfl rfl <| pLd 3 rfl rfl rfl <| pLd 4 rfl rfl rfl <| zp 5 rfl rfl (y_nilCheck rfl) <| pFa 6 rfl rfl <| pLd 7 rfl rfl rfl <| pLd 8 rfl rfl rfl <| pLd 9 rfl rfl rfl <| zp 10 rfl rfl (y_nilCheck rfl) <| pFa 11 rfl rfl ?_
  refine pLd 12 rfl rfl rfl <| zp 13 rfl rfl (y_mulI rfl rfl (by rw [hmul]; omega)) ?_
  rw [hmul]
  refine zp 14 rfl rfl (y_addI rfl rfl (by omega)) <| pmI 15 rfl rfl <| zp 16 rfl rfl (y_addI rfl rfl (by omega)) ?_
  rw [show ((s.first : Int) + (q : Int)) + (k : Int) = ((s.first + q + k : Nat) : Int) by omega]
  refine pmS 17 rfl rfl <| pmI 18 rfl rfl <| zp 19 rfl rfl (y_mulI rfl rfl (by omega)) <| pmI 20 rfl rfl <| zp 21 rfl rfl (y_addI rfl rfl (by omega)) <| zp 22 rfl rfl (y_mulI rfl rfl (by omega)) <| zp 23 rfl rfl (y_sliceLH rfl rfl rfl (by omega) (by omega)) ?_
  refine ze 24 rfl rfl <| e_call' rfl (Write_spec hd2 (by have := hw2.1; have := hw2.2.1; omega) (by have := hw2.2.2; omega) hrow) ?_
  rintro _ M3 _ hM3 ⟨⟨r3, hd3, rfl⟩, rfl⟩
  rw [← hgo] at hd3 ⊢
  refine ⟨⟨hM3, Keeps.mem⟩, ?_⟩
  refine to_e 25 rfl (by kernel_rfl) rfl (e_call rfl (well_spec _) (by
   rintro _ _ _ _ ⟨rfl, rfl, rfl, hne⟩
   refine .retA rfl (hM1.trans (hM2.trans hM3)) ?_
   have hst := saveGo_stuck hne (s.n - (k + 1))
   rw [show k + 1 + (s.n - (k + 1)) = s.n by omega, ← hla] at hst
   rw [← hst] at hd3 hne ⊢
   rw [hsv, if_pos hne]
   exact ⟨rfl, r3, A0, l0, c0, hd3, hb.mono (hM1.trans (hM2.trans hM3)), rfl⟩) ?_)
  rintro _ _ _ _ ⟨rfl, rfl, h1⟩
  refine ⟨⟨hM3, Keeps.mem⟩, ?_⟩
  refine zz <| .block_normal <| .then_normal <| .s6 0 1 2 3 11 12 rfl rfl rfl rfl rfl rfl <| x_region <| tl_y rfl (y_addI rfl rfl (by omega)) <| mvI rfl <| tl_nil <| .loop_next (m' := s.n - (k + 1)) (by omega) (F' := [(0, _), (1, _), (2, _), (3, _), (11, _), (12, _)]) (cs6 rfl rfl rfl rfl rfl rfl) ?_
  exact ⟨k + 1, r3, rfl, by omega, hM2.trans hM3, h1, hd3, rfl, rfl, rfl⟩
 obtain rfl : k = s.n := by omega
 rw [← hla] at h0 hd2 ⊢
 have hw2 : (laid S s b).1.within (B + s.n) := by rw [hla]; exact saveGo_within hw _ _ _
 have hm := hM1.trans hM2
 refine x_exit <| .then_exit <| .loop_exit <| .block_exit <| .then_normal <| .s3 0 1 2 rfl rfl rfl <| zr <| tLd rfl rfl <| zc rfl <| tFa rfl <| tLd rfl rfl <| zca rfl (Flush_spec hd2 (by have := hw2.1; have := hw2.2.1; omega) (by have := hw2.2.2; omega)) ?_
 rintro _ M3 _ hM3 ⟨⟨r3, hd3, rfl⟩, rfl⟩
 replace hm := hm.trans hM3
 refine tl_e rfl (e_call rfl (well_spec _) (by
  rintro _ _ _ _ ⟨rfl, rfl, rfl, hne⟩
  refine .retA rfl hm ?_
  rw [hsv, if_neg (by simp [h0]), if_pos hne]
  exact ⟨rfl, r3, A0, l0, c0, hd3, hb.mono hm, rfl⟩) ?_)
 rintro _ _ _ _ ⟨rfl, rfl, h1⟩
 refine zq <| .s3 0 1 2 rfl rfl rfl <| x_region <| tLd rfl rfl <| tLd rfl rfl <| tLd rfl rfl <| tLg rfl rfl <| zc rfl <| tFa rfl <| tl_e rfl <| e_sT rfl rfl <| zc rfl <| tFa rfl <| tl_e rfl <| e_sT rfl rfl <| tl_nil (.dropTo (dL d r3 (flushRes (laid S s b).1).1 (sL p d { s with at_ := s.to, num := s.num + 1, b := b } A l c :: (be, oe) :: sbox x0 x1 x2 p (s.num + 1) s.to A l c R)) iI (end0 rfl hm (by
  rw [hsv, if_neg (by simp [h0]), if_neg (by simp [h1])]
  exact ⟨rfl, r3, A, l, c, hd3, hr.mono hm, rfl⟩)))
theorem Save_spec (hg : ShaG M) (h : IsDisk M r S) (ok : OkS S s) {B : Nat} (hw : S.within B) (hB : B ≤ 1000000) (hb : Bytes M A0 l0 c0 s.b) {A : Option Addr} {l c : Nat} {b : List UInt8} (hr : Bytes M A l c b) :
  Con Tryz.prog 135 #[.pointer (some ⟨p, 0, none⟩), .slice A l c] G M (dL d r S (sL p d s A0 l0 c0 :: R))
   (fun v M' L' => SK p d (saveRes S s b).1.1 (saveRes S s b).1.2 R M' L' ∧ v = .int .i64 (saveRes S s b).2) noPanic := by
 have hn := ok.n
 have hl := hr.size
 have hat := ok.at_
 have hroom : (if (s.n : Int) < 1 ∨ 8 < (s.n : Int) then 0 else 64 * (s.n : Int) - 28) = 64 * (s.n : Int) - 28 := by rw [if_neg (by omega)]
 refine zfn Tryz.func135 rfl 37 rfl <| zr <| tl_e rfl <| e_box rfl <| fun b1 => as0 rfl <| zq <| zr2 <| mvS rfl <| tLen rfl <| tLd rfl rfl <| zc rfl <| tFa rfl <| tLd rfl rfl <| zca rfl (Room_spec (s.n : Int)) ?_
 rintro _ _ _ _ ⟨rfl, rfl, rfl⟩
 rw [hroom]
 refine tl_y rfl (y_gtr rfl rfl) <| zq <| .s3 1 2 14 rfl rfl rfl <| x_cond rfl (fun hc1 => ?_) (fun hc1 => ?_)
 ·
  refine zr <| as0 rfl <| zq <| x_ret (.then_ret (.dropTo (dL d r S (sL p d s A0 l0 c0 :: R)) iI (ret1 rfl rfl lR (by
   rw [show saveRes S s b = ((S, s), 1) by rw [saveRes, if_pos (by omega)]]
   exact ⟨⟨r, A0, l0, c0, h, hb, rfl⟩, rfl⟩))))
 refine x_skip <| .then_normal <| x_seq <| x_meet (I := fun F D M1 L1 => D = [] ∧ Le M M1 ∧ ∃ x1 x2 A1 c1, Bytes M1 A1 l c1 b ∧ PermTo L1 ((x2, .cells #[.int .i64 0] 3 (0, 0)) :: (x1, .cells #[.int .u64 ((s.num + 1).toNat : Int), .slice A1 l c1] 213 (0, 0)) :: (b1, .cells #[.pointer (some ⟨p, 0, none⟩)] 92 (0, 0)) :: dL d r S (sL p d s A0 l0 c0 :: R)) ∧ F = [(2, .pointer (some ⟨b1, 0, none⟩)), (5, .pointer (some ⟨x1, 0, none⟩)), (6, .pointer (some ⟨x2, 0, none⟩))]) ?_ (fun Jd3 => ?_)
 ·
  rintro _ _ M1 L1 ⟨rfl, hM1, x1, x2, A1, c1, hA1, hp, rfl⟩
  refine .to _ hp <| x_join (I := fun F D M2 L2 => D = [] ∧ M1 = M2 ∧ L2 = (x2, .cells #[.int .i64 s.to] 3 (0, 0)) :: (x1, .cells #[.int .u64 ((s.num + 1).toNat : Int), .slice A1 l c1] 213 (0, 0)) :: (b1, .cells #[.pointer (some ⟨p, 0, none⟩)] 92 (0, 0)) :: dL d r S (sL p d s A0 l0 c0 :: R) ∧ F = [(2, .pointer (some ⟨b1, 0, none⟩)), (5, .pointer (some ⟨x1, 0, none⟩)), (6, .pointer (some ⟨x2, 0, none⟩))]) ?_ (fun Jj1 => ?_)
  ·
   rintro _ _ M2 L2 ⟨rfl, rfl, rfl, rfl⟩
   refine zr <| tl_y rfl (y_makeFunc rfl rfl) <| tl_e rfl (e_call' rfl (caught_spec (first := []) (cap := [.pointer (some ⟨b1, 0, none⟩), .pointer (some ⟨x1, 0, none⟩), .pointer (some ⟨x2, 0, none⟩)])
    (K := fun M' L' => (saveRes S s b).2 = 0 ∧ SK p d (saveRes S s b).1.1 (saveRes S s b).1.2 (sbox b1 x1 x2 p (s.num + 1) s.to A1 l c1 R) M' L')
    (Kc := fun e M' L' => e = (saveRes S s b).2 ∧ SK p d (saveRes S s b).1.1 (saveRes S s b).1.2 (sbox b1 x1 x2 p (s.num + 1) s.to A1 l c1 R) M' L')
    (fun be oe => (Con.to (dL d r S (sL p d s A0 l0 c0 :: (be, oe) :: sbox b1 x1 x2 p (s.num + 1) s.to A1 l c1 R)) iI (Save1_spec (hg.mono hM1) (h.mono hM1) ok hw hB (hb.mono hM1) hA1 (by omega))).postP
    (fun v M' L' _ ⟨h0, r', A', l', c', k1, k2, e⟩ => ⟨(be, oe) :: dL d r' (saveRes S s b).1.1 (sL p d (saveRes S s b).1.2 A' l' c' :: sbox b1 x1 x2 p (s.num + 1) s.to A1 l c1 R), by rw [e]; infer_instance, _, rfl, h0, r', A', l', c', k1, k2, rfl⟩)
    (fun ch M' L' _ ⟨h0, r', A', l', c', k1, k2, e⟩ => ⟨(be, oe) :: dL d r' (saveRes S s b).1.1 (sL p d (saveRes S s b).1.2 A' l' c' :: sbox b1 x1 x2 p (s.num + 1) s.to A1 l c1 R), by rw [e]; infer_instance, _, _, h0, rfl, rfl, r', A', l', c', k1, k2, rfl⟩))) ?_)
   rintro v3 M3 L3 hM3 hv
   obtain ⟨e, rfl, he, r3, A3, l3, c3, hd3, hb3, rfl⟩ : ∃ e, v3 = Value.int .i64 e ∧ e = (saveRes S s b).2 ∧ SK p d (saveRes S s b).1.1 (saveRes S s b).1.2 (sbox b1 x1 x2 p (s.num + 1) s.to A1 l c1 R) M3 L3 := by
    rcases hv with ⟨rfl, h0, hk⟩ | ⟨e, rfl, h0, hk⟩
    ·
     exact ⟨0, rfl, h0.symm, hk⟩
    exact ⟨e, rfl, h0, hk⟩
   subst he
   refine asI rfl <| zq <| .s1 4 rfl <| x_ret (.dropTo (dL d r3 (saveRes S s b).1.1 (sL p d (saveRes S s b).1.2 A3 l3 c3 :: R)) iI (ret1 rfl rfl (hM1.trans hM3) ⟨⟨r3, A3, l3, c3, hd3, hb3, rfl⟩, rfl⟩))
  refine zr <| tLd rfl rfl <| zc rfl <| tFa rfl <| tFa rfl <| tLd rfl rfl <| tl_y rfl (y_gtr rfl rfl) <| zq <| .s4 2 5 6 29 rfl rfl rfl rfl <| x_cond rfl (fun hc2 => ?_) (fun hc2 => ?_)
  ·
   refine x_region <| tLd rfl rfl <| zc rfl <| tFa rfl <| tLd rfl rfl <| tl_y rfl (y_subI rfl rfl (by omega)) <| tl_e rfl <| e_sT rfl rfl <| zq <| .sub (F' := [(2, _), (5, _), (6, _)]) (cs3 rfl rfl rfl) <| Jj1 _ _ _ _ ?_
   exact ⟨rfl, rfl, by rw [show s.to = 1 - s.at_ by rw [SS.to, if_pos (by omega)], show (1 : Int) - (s.at_ : Int) = ((1 - s.at_ : Nat) : Int) by omega], rfl⟩
  refine x_skip <| .then_normal <| .sub (F' := [(2, _), (5, _), (6, _)]) (cs3 rfl rfl rfl) <| Jj1 _ _ _ _ ?_
  exact ⟨rfl, rfl, by rw [show s.to = 0 by rw [SS.to, if_neg (by omega)]]; rfl, rfl⟩
 refine x_draw 11 hmix rfl <| pLd 0 rfl rfl rfl <| zp 1 rfl rfl (y_nilCheck rfl) <| pFa 2 rfl rfl <| pFa 3 rfl rfl <| pLd 4 rfl rfl rfl <| zp 5 rfl rfl (y_add64 (b := 1) rfl rfl) <| pmS 6 rfl rfl <| to_three 7 9 10 (by kernel_rfl) ?_ ?_ ?_
 ·
  refine two_e 7 rfl rfl <| e_call' rfl (bytesClone_spec hr (by omega)) ?_
  rintro _ M9 _ hM9 ⟨rfl, A9, c9, rfl, hA9⟩
  refine kp ?_
  refine zp 8 rfl rfl (y_build rfl) <| to_two 9 10 (by kernel_rfl) ?_ ?_
  ·
   refine two_e 9 rfl rfl <| e_alloc <| fun b2 => kp ?_
   refine ze 10 rfl rfl <| e_alloc <| fun b3 => kp ?_
   refine zt 11 rfl rfl <| e_sT rfl rfl <| zt 12 rfl rfl <| e_sT rfl rfl <| zz <| .then_normal <| .sub (F' := [(2, _), (5, _), (6, _)]) (cs3 rfl rfl rfl) <| Jd3 _ _ _ _ ?_
   exact ⟨rfl, hM9, _, _, _, _, hA9, iI, rfl⟩
  refine two_e 10 rfl rfl <| e_alloc <| fun b4 => kp ?_
  refine ze 9 rfl rfl <| e_alloc <| fun b5 => kp ?_
  refine zt 11 rfl rfl <| e_sT rfl rfl <| zt 12 rfl rfl <| e_sT rfl rfl <| zz <| .then_normal <| .sub (F' := [(2, _), (5, _), (6, _)]) (cs3 rfl rfl rfl) <| Jd3 _ _ _ _ ?_
  exact ⟨rfl, hM9, _, _, _, _, hA9, iI, rfl⟩
 ·
  refine two_e 9 rfl rfl <| e_alloc <| fun b6 => kp ?_
  refine to_two 7 10 (by kernel_rfl) ?_ ?_
  ·
   refine two_e 7 rfl rfl <| e_call' rfl (bytesClone_spec hr (by omega)) ?_
   rintro _ M9 _ hM9 ⟨rfl, A9, c9, rfl, hA9⟩
   refine kp ?_
   refine zp 8 rfl rfl (y_build rfl) <| ze 10 rfl rfl <| e_alloc <| fun b7 => kp ?_
   refine zt 11 rfl rfl <| e_sT rfl rfl <| zt 12 rfl rfl <| e_sT rfl rfl <| zz <| .then_normal <| .sub (F' := [(2, _), (5, _), (6, _)]) (cs3 rfl rfl rfl) <| Jd3 _ _ _ _ ?_
   exact ⟨rfl, hM9, _, _, _, _, hA9, iI, rfl⟩
  refine two_e 10 rfl rfl <| e_alloc <| fun b8 => kp ?_
  refine ze 7 rfl rfl <| e_call' rfl (bytesClone_spec hr (by omega)) ?_
  rintro _ M9 _ hM9 ⟨rfl, A9, c9, rfl, hA9⟩
  refine kp ?_
  refine zp 8 rfl rfl (y_build rfl) <| zt 11 rfl rfl <| e_sT rfl rfl <| zt 12 rfl rfl <| e_sT rfl rfl <| zz <| .then_normal <| .sub (F' := [(2, _), (5, _), (6, _)]) (cs3 rfl rfl rfl) <| Jd3 _ _ _ _ ?_
  exact ⟨rfl, hM9, _, _, _, _, hA9, iI, rfl⟩
 refine two_e 10 rfl rfl <| e_alloc <| fun b9 => kp ?_
 refine to_two 7 9 (by kernel_rfl) ?_ ?_
 ·
  refine two_e 7 rfl rfl <| e_call' rfl (bytesClone_spec hr (by omega)) ?_
  rintro _ M9 _ hM9 ⟨rfl, A9, c9, rfl, hA9⟩
  refine kp ?_
  refine zp 8 rfl rfl (y_build rfl) <| ze 9 rfl rfl <| e_alloc <| fun b10 => kp ?_
  refine zt 11 rfl rfl <| e_sT rfl rfl <| zt 12 rfl rfl <| e_sT rfl rfl <| zz <| .then_normal <| .sub (F' := [(2, _), (5, _), (6, _)]) (cs3 rfl rfl rfl) <| Jd3 _ _ _ _ ?_
  exact ⟨rfl, hM9, _, _, _, _, hA9, iI, rfl⟩
 refine two_e 9 rfl rfl <| e_alloc <| fun b11 => kp ?_
 refine ze 7 rfl rfl <| e_call' rfl (bytesClone_spec hr (by omega)) ?_
 rintro _ M9 _ hM9 ⟨rfl, A9, c9, rfl, hA9⟩
 refine kp ?_
 refine zp 8 rfl rfl (y_build rfl) <| zt 11 rfl rfl <| e_sT rfl rfl <| zt 12 rfl rfl <| e_sT rfl rfl <| zz <| .then_normal <| .sub (F' := [(2, _), (5, _), (6, _)]) (cs3 rfl rfl rfl) <| Jd3 _ _ _ _ ?_
 exact ⟨rfl, hM9, _, _, _, _, hA9, iI, rfl⟩
end
section
variable {G : World} {M : Mem} {L R : Own}
theorem may_spec (x : Cn) {A : Option Addr} {n c : Nat} :
  Con Tryz.prog 84 #[.agg (List.toArray (ccells x)), .slice A n c] G M L (fun v M' L' => M = M' ∧ L = L' ∧ v = .bool (mayB x n)) noPanic := by
 refine zfn Tryz.func84 rfl 35 rfl <| zr <| tl_e rfl <| e_box rfl <| fun b1 => as0 rfl <| zq <| zr <| tFa rfl <| tLd rfl rfl <| tl_y rfl (y_geq rfl rfl) <| mvB rfl <| tl_cases (s := 8) rfl (fun hk1 => ?_) (fun hk1 => ?_)
 ·
  refine tFa rfl <| tLd rfl rfl <| tl_y rfl (y_leq rfl rfl) <| tPt rfl rfl <| mvB rfl <| tl_cases (s := 13) rfl (fun hk2 => ?_) (fun hk2 => ?_)
  ·
   refine tFa rfl <| tLd rfl rfl <| tl_y rfl (y_geq rfl rfl) <| tPt rfl rfl <| mvB rfl <| tl_cases (s := 18) rfl (fun hk3 => ?_) (fun hk3 => ?_)
   ·
    refine tFa rfl <| tLd rfl rfl <| tl_y rfl (y_leq rfl rfl) <| tPt rfl rfl <| mvB rfl <| tl_cases (s := 23) rfl (fun hk4 => ?_) (fun hk4 => ?_)
    ·
     refine tFa rfl <| tLd rfl rfl <| tFa rfl <| tLd rfl rfl <| tl_y rfl (y_leq rfl rfl) <| tPt rfl rfl <| mvB rfl <| tl_cases (s := 30) rfl (fun hk5 => ?_) (fun hk5 => ?_)
     ·
      refine mvS rfl <| tLen rfl <| tl_y rfl (y_leq rfl rfl) <| tPt rfl rfl <| asB rfl <| zq <| .s1 4 rfl <| x_ret (.dropTo L iI (ret1 rfl rfl lR ⟨rfl, rfl, by congr 1; rw [mayB, decide_eq_decide]; omega⟩))
     refine sk3 rfl rfl rfl <| tPf rfl rfl <| asB rfl <| zq <| .s1 4 rfl <| x_ret (.dropTo L iI (ret1 rfl rfl lR ⟨rfl, rfl, by congr 1; symm; rw [mayB, decide_eq_false_iff_not]; omega⟩))
    refine sk5 rfl rfl rfl rfl rfl <| tPf rfl rfl <| mvB rfl <| sk3 rfl rfl rfl <| tPf rfl rfl <| asB rfl <| zq <| .s1 4 rfl <| x_ret (.dropTo L iI (ret1 rfl rfl lR ⟨rfl, rfl, by congr 1; symm; rw [mayB, decide_eq_false_iff_not]; omega⟩))
   refine sk3 rfl rfl rfl <| tPf rfl rfl <| mvB rfl <| sk5 rfl rfl rfl rfl rfl <| tPf rfl rfl <| mvB rfl <| sk3 rfl rfl rfl <| tPf rfl rfl <| asB rfl <| zq <| .s1 4 rfl <| x_ret (.dropTo L iI (ret1 rfl rfl lR ⟨rfl, rfl, by congr 1; symm; rw [mayB, decide_eq_false_iff_not]; omega⟩))
  refine sk3 rfl rfl rfl <| tPf rfl rfl <| mvB rfl <| sk3 rfl rfl rfl <| tPf rfl rfl <| mvB rfl <| sk5 rfl rfl rfl rfl rfl <| tPf rfl rfl <| mvB rfl <| sk3 rfl rfl rfl <| tPf rfl rfl <| asB rfl <| zq <| .s1 4 rfl <| x_ret (.dropTo L iI (ret1 rfl rfl lR ⟨rfl, rfl, by congr 1; symm; rw [mayB, decide_eq_false_iff_not]; omega⟩))
 refine sk3 rfl rfl rfl <| tPf rfl rfl <| mvB rfl <| sk3 rfl rfl rfl <| tPf rfl rfl <| mvB rfl <| sk3 rfl rfl rfl <| tPf rfl rfl <| mvB rfl <| sk5 rfl rfl rfl rfl rfl <| tPf rfl rfl <| mvB rfl <| sk3 rfl rfl rfl <| tPf rfl rfl <| asB rfl <| zq <| .s1 4 rfl <| x_ret (.dropTo L iI (ret1 rfl rfl lR ⟨rfl, rfl, by congr 1; symm; rw [mayB, decide_eq_false_iff_not]; omega⟩))
theorem Bytes_spec (x : Cn) {A : Option Addr} {n c : Nat} {head : List UInt8} (h : Bytes M A n c head) :
  Con Tryz.prog 134 #[.agg (List.toArray (ccells x)), .slice A n c] G M L (fun v M' L' => L' = L ∧ if mayB x n = true then ∃ A' c', v = .tuple #[.slice A' (25 + n) c', .int .i64 0] ∧ Bytes M' A' (25 + n) c' (bytesC x head) else v = .tuple #[.slice none 0 0, .int .i64 1]) noPanic := by
 have hl := h.size
 have hbl := bytesC_length x head
 refine zfn Tryz.func134 rfl 27 rfl <| zr <| tl_e rfl <| e_box rfl <| fun b1 => as0 rfl <| as0 rfl <| zq <| zr2 <| tLg rfl rfl <| mvS rfl <| zca rfl (may_spec x) ?_
 rintro _ _ _ _ ⟨rfl, rfl, rfl⟩
 refine tl_y rfl (y_not rfl) <| zq <| .s3 1 2 10 rfl rfl rfl <| x_condb rfl (fun hc1 => ?_) (fun hc1 => ?_)
 ·
  refine zr <| as0 rfl <| as0 rfl <| zq <| x_ret (.then_ret (.dropTo L iI (ret2 rfl rfl rfl lR ⟨rfl, by rw [if_neg (by simpa using hc1)]⟩)))
 have hmay : mayB x n = true := by simpa using hc1
 have hn200 : n ≤ 200 := by rw [mayB, decide_eq_true_eq] at hmay; omega
 refine x_skip <| .then_normal <| zr <| as0 rfl <| zq <| x_join (I := fun F D M1 L1 => D = [] ∧ M = M1 ∧ L1 = (b1, .cells (List.toArray (ccells x)) 157 (0, 0)) :: L ∧ F = [(1, .slice A n c), (2, .pointer (some ⟨b1, 0, none⟩)), (6, .int .u8 (((if x.retired then 1 else 0 : UInt8)).toNat : Int))]) ?_ (fun Jj1 => ?_)
 ·
  rintro _ _ M1 L1 ⟨rfl, rfl, rfl, rfl⟩
  refine x_seq <| x_meet (I := fun F D M1 L1 => D = [] ∧ Le M M1 ∧ ∃ A' c', Bytes M1 A' (25 + n) c' (bytesC x head) ∧ DropTo L1 L ∧ F = [(4, .slice A' (25 + n) c'), (5, .int .i64 0)]) ?_ (fun Jd6 => ?_)
  ·
   rintro _ _ M1 L1 ⟨rfl, hM1, A', c', hA', hdr, rfl⟩
   refine x_ret (.dropTo L hdr (ret2 rfl rfl rfl hM1 ⟨rfl, by rw [if_pos hmay]; exact ⟨A', c', rfl, hA'⟩⟩))
  refine x_draw 16 hmix rfl <| pFa 0 rfl rfl <| pLd 1 rfl rfl rfl <| pFa 3 rfl rfl <| pLd 4 rfl rfl rfl <| pFa 6 rfl rfl <| pLd 7 rfl rfl rfl <| pmI 9 rfl rfl <| pmS 11 rfl rfl <| to_two 2 10 (by kernel_rfl) ?_ ?_
  ·
   refine two_e 2 rfl rfl <| e_call' rfl (PutN_spec x.total 8 (by omega)) ?_
   rintro _ M2 _ hM2 ⟨rfl, A2, c2, rfl, hA2⟩
   refine ⟨⟨hM2, Keeps.mem⟩, ?_⟩
   refine to_two 5 10 (by kernel_rfl) ?_ ?_
   ·
    refine two_e 5 rfl rfl <| e_call' rfl (PutN_spec x.batch 8 (by omega)) ?_
    rintro _ M3 _ hM3 ⟨rfl, A3, c3, rfl, hA3⟩
    refine ⟨⟨hM2.trans hM3, Keeps.mem⟩, ?_⟩
    refine to_two 8 10 (by kernel_rfl) ?_ ?_
    ·
     refine two_e 8 rfl rfl <| e_call' rfl (PutN_spec x.reserved 8 (by omega)) ?_
     rintro _ M4 _ hM4 ⟨rfl, A4, c4, rfl, hA4⟩
     refine ⟨⟨hM2.trans (hM3.trans hM4), Keeps.mem⟩, ?_⟩
     refine ze 10 rfl rfl <| e_buildSlice rfl (by decide) <| fun bA => ⟨⟨by first | exact Le.refl _ | exact hM2 | exact hM2.trans hM3 | exact hM2.trans (hM3.trans hM4), Keeps.mem⟩, ?_⟩
     refine ze 12 rfl rfl <| e_buildSlice rfl (by decide) <| fun bB => ⟨⟨hM2.trans (hM3.trans hM4), Keeps.mem⟩, ?_⟩
     refine .pub bA iI <| fun M5 hM5 hbA => .pub bB iI <| fun M6 hM6 hbB => ?_
     have hm : Le M M6 := hM2.trans (hM3.trans (hM4.trans (hM5.trans hM6)))
     have hfl : [putB x.total.toNat 8, putB x.batch.toNat 8, putB x.reserved.toNat 8, [if x.retired then 1 else 0], head].flatten = bytesC x head := by simp [bytesC]
     have hR : Bytes M6 (some ⟨bA, 0, none⟩) 1 1 [if x.retired then 1 else 0] := Row.mono (Row.whole hbA rfl (by omega)) hM6
     refine ze 13 rfl rfl <| e_call' rfl (Cat_spec (Row.whole hbB rfl (by omega)) (.cons (hA2.mono (hM3.trans (hM4.trans (hM5.trans hM6)))) (.cons (hA3.mono (hM4.trans (hM5.trans hM6))) (.cons (hA4.mono (hM5.trans hM6)) (.cons hR (.cons (h.mono hm) .nil))))) (by rw [hfl, hbl]; omega)) ?_
     rintro _ M7 _ hM7 ⟨rfl, A7, c7, rfl, hA7⟩
     rw [hfl, hbl, hl] at hA7
     rw [hfl, hbl, hl]
     refine ⟨⟨hm.trans hM7, Keeps.mem⟩, ?_⟩
     refine paS 14 rfl rfl <| zp 15 rfl rfl (y_assign rfl) <| zz <| .then_normal <| .sub (F' := [(4, _), (5, _)]) (cs2 rfl rfl) <| Jd6 _ _ _ _ ?_
     exact ⟨rfl, hm.trans hM7, A7, c7, hA7, iI, rfl⟩
    refine two_e 10 rfl rfl <| e_buildSlice rfl (by decide) <| fun bA => ⟨⟨by first | exact Le.refl _ | exact hM2 | exact hM2.trans hM3 | exact hM2.trans (hM3.trans hM4), Keeps.mem⟩, ?_⟩
    refine ze 8 rfl rfl <| e_call' rfl (PutN_spec x.reserved 8 (by omega)) ?_
    rintro _ M4 _ hM4 ⟨rfl, A4, c4, rfl, hA4⟩
    refine ⟨⟨hM2.trans (hM3.trans hM4), Keeps.mem⟩, ?_⟩
    refine ze 12 rfl rfl <| e_buildSlice rfl (by decide) <| fun bB => ⟨⟨hM2.trans (hM3.trans hM4), Keeps.mem⟩, ?_⟩
    refine .pub bA iI <| fun M5 hM5 hbA => .pub bB iI <| fun M6 hM6 hbB => ?_
    have hm : Le M M6 := hM2.trans (hM3.trans (hM4.trans (hM5.trans hM6)))
    have hfl : [putB x.total.toNat 8, putB x.batch.toNat 8, putB x.reserved.toNat 8, [if x.retired then 1 else 0], head].flatten = bytesC x head := by simp [bytesC]
    have hR : Bytes M6 (some ⟨bA, 0, none⟩) 1 1 [if x.retired then 1 else 0] := Row.mono (Row.whole hbA rfl (by omega)) hM6
    refine ze 13 rfl rfl <| e_call' rfl (Cat_spec (Row.whole hbB rfl (by omega)) (.cons (hA2.mono (hM3.trans (hM4.trans (hM5.trans hM6)))) (.cons (hA3.mono (hM4.trans (hM5.trans hM6))) (.cons (hA4.mono (hM5.trans hM6)) (.cons hR (.cons (h.mono hm) .nil))))) (by rw [hfl, hbl]; omega)) ?_
    rintro _ M7 _ hM7 ⟨rfl, A7, c7, rfl, hA7⟩
    rw [hfl, hbl, hl] at hA7
    rw [hfl, hbl, hl]
    refine ⟨⟨hm.trans hM7, Keeps.mem⟩, ?_⟩
    refine paS 14 rfl rfl <| zp 15 rfl rfl (y_assign rfl) <| zz <| .then_normal <| .sub (F' := [(4, _), (5, _)]) (cs2 rfl rfl) <| Jd6 _ _ _ _ ?_
    exact ⟨rfl, hm.trans hM7, A7, c7, hA7, iI, rfl⟩
   refine two_e 10 rfl rfl <| e_buildSlice rfl (by decide) <| fun bA => ⟨⟨by first | exact Le.refl _ | exact hM2 | exact hM2.trans hM3 | exact hM2.trans (hM3.trans hM4), Keeps.mem⟩, ?_⟩
   refine ze 5 rfl rfl <| e_call' rfl (PutN_spec x.batch 8 (by omega)) ?_
   rintro _ M3 _ hM3 ⟨rfl, A3, c3, rfl, hA3⟩
   refine ⟨⟨hM2.trans hM3, Keeps.mem⟩, ?_⟩
   refine ze 8 rfl rfl <| e_call' rfl (PutN_spec x.reserved 8 (by omega)) ?_
   rintro _ M4 _ hM4 ⟨rfl, A4, c4, rfl, hA4⟩
   refine ⟨⟨hM2.trans (hM3.trans hM4), Keeps.mem⟩, ?_⟩
   refine ze 12 rfl rfl <| e_buildSlice rfl (by decide) <| fun bB => ⟨⟨hM2.trans (hM3.trans hM4), Keeps.mem⟩, ?_⟩
   refine .pub bA iI <| fun M5 hM5 hbA => .pub bB iI <| fun M6 hM6 hbB => ?_
   have hm : Le M M6 := hM2.trans (hM3.trans (hM4.trans (hM5.trans hM6)))
   have hfl : [putB x.total.toNat 8, putB x.batch.toNat 8, putB x.reserved.toNat 8, [if x.retired then 1 else 0], head].flatten = bytesC x head := by simp [bytesC]
   have hR : Bytes M6 (some ⟨bA, 0, none⟩) 1 1 [if x.retired then 1 else 0] := Row.mono (Row.whole hbA rfl (by omega)) hM6
   refine ze 13 rfl rfl <| e_call' rfl (Cat_spec (Row.whole hbB rfl (by omega)) (.cons (hA2.mono (hM3.trans (hM4.trans (hM5.trans hM6)))) (.cons (hA3.mono (hM4.trans (hM5.trans hM6))) (.cons (hA4.mono (hM5.trans hM6)) (.cons hR (.cons (h.mono hm) .nil))))) (by rw [hfl, hbl]; omega)) ?_
   rintro _ M7 _ hM7 ⟨rfl, A7, c7, rfl, hA7⟩
   rw [hfl, hbl, hl] at hA7
   rw [hfl, hbl, hl]
   refine ⟨⟨hm.trans hM7, Keeps.mem⟩, ?_⟩
   refine paS 14 rfl rfl <| zp 15 rfl rfl (y_assign rfl) <| zz <| .then_normal <| .sub (F' := [(4, _), (5, _)]) (cs2 rfl rfl) <| Jd6 _ _ _ _ ?_
   exact ⟨rfl, hm.trans hM7, A7, c7, hA7, iI, rfl⟩
  refine two_e 10 rfl rfl <| e_buildSlice rfl (by decide) <| fun bA => ⟨⟨by first | exact Le.refl _ | exact hM2 | exact hM2.trans hM3 | exact hM2.trans (hM3.trans hM4), Keeps.mem⟩, ?_⟩
  refine ze 2 rfl rfl <| e_call' rfl (PutN_spec x.total 8 (by omega)) ?_
  rintro _ M2 _ hM2 ⟨rfl, A2, c2, rfl, hA2⟩
  refine ⟨⟨hM2, Keeps.mem⟩, ?_⟩
  refine ze 5 rfl rfl <| e_call' rfl (PutN_spec x.batch 8 (by omega)) ?_
  rintro _ M3 _ hM3 ⟨rfl, A3, c3, rfl, hA3⟩
  refine ⟨⟨hM2.trans hM3, Keeps.mem⟩, ?_⟩
  refine ze 8 rfl rfl <| e_call' rfl (PutN_spec x.reserved 8 (by omega)) ?_
  rintro _ M4 _ hM4 ⟨rfl, A4, c4, rfl, hA4⟩
  refine ⟨⟨hM2.trans (hM3.trans hM4), Keeps.mem⟩, ?_⟩
  refine ze 12 rfl rfl <| e_buildSlice rfl (by decide) <| fun bB => ⟨⟨hM2.trans (hM3.trans hM4), Keeps.mem⟩, ?_⟩
  refine .pub bA iI <| fun M5 hM5 hbA => .pub bB iI <| fun M6 hM6 hbB => ?_
  have hm : Le M M6 := hM2.trans (hM3.trans (hM4.trans (hM5.trans hM6)))
  have hfl : [putB x.total.toNat 8, putB x.batch.toNat 8, putB x.reserved.toNat 8, [if x.retired then 1 else 0], head].flatten = bytesC x head := by simp [bytesC]
  have hR : Bytes M6 (some ⟨bA, 0, none⟩) 1 1 [if x.retired then 1 else 0] := Row.mono (Row.whole hbA rfl (by omega)) hM6
  refine ze 13 rfl rfl <| e_call' rfl (Cat_spec (Row.whole hbB rfl (by omega)) (.cons (hA2.mono (hM3.trans (hM4.trans (hM5.trans hM6)))) (.cons (hA3.mono (hM4.trans (hM5.trans hM6))) (.cons (hA4.mono (hM5.trans hM6)) (.cons hR (.cons (h.mono hm) .nil))))) (by rw [hfl, hbl]; omega)) ?_
  rintro _ M7 _ hM7 ⟨rfl, A7, c7, rfl, hA7⟩
  rw [hfl, hbl, hl] at hA7
  rw [hfl, hbl, hl]
  refine ⟨⟨hm.trans hM7, Keeps.mem⟩, ?_⟩
  refine paS 14 rfl rfl <| zp 15 rfl rfl (y_assign rfl) <| zz <| .then_normal <| .sub (F' := [(4, _), (5, _)]) (cs2 rfl rfl) <| Jd6 _ _ _ _ ?_
  exact ⟨rfl, hm.trans hM7, A7, c7, hA7, iI, rfl⟩
 refine zr <| tFa rfl <| tLd rfl rfl <| zq <| x_condb rfl (fun hc2 => ?_) (fun hc2 => ?_)
 ·
  refine x_region <| as0 rfl <| zq <| .sub (F' := [(1, _), (2, _), (6, _)]) (cs3 rfl rfl rfl) <| Jj1 _ _ _ _ ?_
  exact ⟨rfl, rfl, rfl, by rw [hc2]; rfl⟩
 refine x_skip <| .then_normal <| .sub (F' := [(1, _), (2, _), (6, _)]) (cs3 rfl rfl rfl) <| Jj1 _ _ _ _ ?_
 exact ⟨rfl, rfl, rfl, by rw [hc2]; rfl⟩
end
section
variable {G : World} {M : Mem} {L R : Own}
abbrev bboxL (x0 : Nat) (A : Option Addr) (n c : Nat) (R : Own) : Own := (x0, .cells #[.slice A n c] 22 (0, 0)) :: R
theorem cRead1_spec {x0 : Nat} {A : Option Addr} {n c : Nat} {b : List UInt8} (h : Bytes M A n c b) (hn : 25 ≤ n) (i : Nat) (hi : i ≤ 2) :
  Con Tryz.prog 174 #[.int .i64 (i : Int), .pointer (some ⟨x0, 0, none⟩)] G M (bboxL x0 A n c R) (fun v M' L' => M = M' ∧ L' = bboxL x0 A n c R ∧ v = .int .u64 ((UInt64.ofNat (getB ((b.drop (8 * i)).take 8))).toNat : Int)) noPanic := by
 have hc := h.le
 have hs := h.size
 refine zfn Tryz.func174 rfl 18 rfl <| zr <| as0 rfl <| zq <| zr <| tLd rfl rfl <| mvI rfl <| tl_y rfl (y_mulI rfl rfl (by omega)) <| mvI rfl <| tl_y rfl (y_addI rfl rfl (by omega)) <| tl_y rfl (y_mulI rfl rfl (by omega)) <| tl_y rfl (y_sliceLH rfl rfl rfl (by omega) (by omega)) ?_
 rw [show ((i : Int) * 8).toNat = 8 * i by omega, show (((i : Int) + 1) * 8).toNat = 8 * i + 8 by omega]
 have hsub := Bytes.sub h (8 * i) (8 * i + 8) (by omega) (by omega)
 rw [show 8 * i + 8 - 8 * i = 8 by omega] at hsub ⊢
 refine zca rfl (Get8_spec (n := 8) hsub (by omega)) ?_
 rintro _ _ _ _ ⟨rfl, rfl, x, hx, rfl⟩
 refine mvU rfl <| zx rfl <| zx rfl <| asI rfl <| asB rfl <| zq <| .s1 4 rfl <| zr <| mvI rfl <| asI rfl <| zq <| x_ret (ret1 rfl rfl lR ⟨rfl, rfl, by rw [← hx]; simp⟩)
theorem Read_spec' {A : Option Addr} {n c : Nat} {b : List UInt8} (h : Bytes M A n c b) (hn : n ≤ 140737488355328) :
  Con Tryz.prog 130 #[.slice A n c] G M L (fun v M' L' => L' = L ∧ ∃ A' n' c', v = .tuple #[.agg (List.toArray (ccells (readC b).1.1)), .slice A' n' c', .int .i64 (readC b).2] ∧ Bytes M' A' n' c' (readC b).1.2) noPanic := by
 have hc := h.le
 have hs := h.size
 have hX : List.toArray (ccells (xOf b)) = #[u64v (UInt64.ofNat (getB (List.take 8 (List.drop (8 * 0) b)))), u64v (UInt64.ofNat (getB (List.take 8 (List.drop (8 * 1) b)))), u64v (UInt64.ofNat (getB (List.take 8 (List.drop (8 * 2) b)))), u64v (UInt64.ofNat (getB (List.take 8 (List.drop (8 * 2) b)))), .bool (decide (((b.getD 24 0).toNat : Int) = 1))] := by
  have e : (b.getD 24 0 == 1) = decide (((b.getD 24 0).toNat : Int) = 1) := by
   rw [Bool.eq_iff_iff, beq_iff_eq, decide_eq_true_eq, ← UInt8.toNat_inj]
   show _ = 1 ↔ _
   omega
  rw [← e]; rfl
 have hz : ccells zeroC = [.int .u64 0, .int .u64 0, .int .u64 0, .int .u64 0, .bool false] := rfl
 refine zfn Tryz.func130 rfl 41 rfl <| zr <| tl_e rfl <| e_box rfl <| fun b1 => tl_e rfl <| e_alloc <| fun b2 => as0 rfl <| as0 rfl <| zq <| zr2 <| tLd rfl rfl <| tLen rfl <| tl_y rfl (y_lss rfl rfl) <| zq <| .s3 1 2 9 rfl rfl rfl <| x_cond rfl (fun hc1 => ?_) (fun hc1 => ?_)
 ·
  refine zr <| tl_y rfl (y_build rfl) <| tl_e rfl <| e_sT rfl rfl <| as0 rfl <| as0 rfl <| zq <| x_ret (.then_ret (retRV (L' := L) (rv3 rfl (rc_cellAgg (by rfl) rfl (.own iI iI)) (rc_tmp rfl) (rc_tmp rfl)) iI lR (by
   rw [show readC b = ((zeroC, []), 2) by rw [readC, if_pos (by omega)]]
   exact ⟨rfl, none, 0, 0, rfl, Row.nil _ _⟩)))
 have hn25 : 25 ≤ n := by omega
 obtain ⟨g, o, hAe, hby⟩ := h.byte (by omega)
 have h24 := fun L => hby L 24 (by omega)
 have hbx := (b.getD 24 0).toNat_lt
 refine x_skip <| .then_normal <| zr <| tl_y rfl (y_makeFunc rfl rfl) <| asF rfl <| zq <| x_seq <| x_meet (I := fun F D M1 L1 => D = [] ∧ M = M1 ∧ ∃ x3, DropTo L1 ((x3, .cells (List.toArray (ccells (xOf b))) 157 (0, 0)) :: bboxL b1 A n c ((b2, .cells #[.int .u64 0, .int .u64 0, .int .u64 0, .int .u64 0, .bool false] 157 (0, 0)) :: L)) ∧ F = [(1, .pointer (some ⟨b1, 0, none⟩)), (2, .pointer (some ⟨b2, 0, none⟩)), (6, .pointer (some ⟨x3, 0, none⟩))]) ?_ (fun Jd4 => ?_)
 ·
  rintro _ _ M1 L1 ⟨rfl, rfl, x3, hdr, rfl⟩
  refine .dropTo _ hdr <| x_seq <| x_seq <| x_draw 11 hmix rfl <| pLd 0 rfl rfl rfl <| zp 1 rfl rfl (y_indexAddr (b := g) (o := o) (by rw [hAe]; rfl) rfl (by omega)) <| zy 2 rfl rfl (y_load rfl rfl (.at_ (h24 _) (by omega))) <| zp 3 rfl rfl (y_gtr rfl rfl) <| pmB 4 rfl rfl <| to_cases (s := 29) rfl (fun hk1 => ?_) (fun hk1 => ?_)
  ·
   refine zs 5 rfl rfl <| zs 6 rfl rfl <| zs 7 rfl rfl <| zs 8 rfl rfl <| zs 9 rfl rfl <| zp 10 rfl rfl (y_pickT rfl rfl) <| zz <| .then_normal <| .s4 1 2 6 35 rfl rfl rfl rfl <| x_true rfl rfl <| zr ?_
   refine tl_y rfl (y_build rfl) <| tl_e rfl <| e_sT rfl rfl <| as0 rfl <| as0 rfl <| zq <| .s3 2 3 4 rfl rfl rfl <| x_ret (.then_ret (retRV (L' := L) (rv3 rfl (rc_cellAgg (by rfl) rfl (.own iI iI)) (rc_tmp rfl) (rc_tmp rfl)) iI lR (by
    rw [show readC b = ((zeroC, []), 3) by rw [readC, if_neg (by omega), if_pos (Or.inl (by omega))]]
    exact ⟨rfl, none, 0, 0, rfl, Row.nil _ _⟩)))
  refine zy 5 rfl rfl (y_lg rfl rfl) <| pLd 6 rfl rfl rfl <| zp 7 rfl rfl (y_sliceL rfl rfl (by omega)) ?_
  refine ze 8 rfl rfl <| e_call' rfl (may_spec (xOf b)) ?_
  rintro _ _ _ _ ⟨rfl, rfl, rfl⟩
  refine kp ?_
  refine zp 9 rfl rfl (y_not rfl) <| zp 10 rfl rfl (y_pickF rfl rfl) <| zz <| .then_normal <| .s4 1 2 6 35 rfl rfl rfl rfl <| x_condb rfl (fun hc2 => ?_) (fun hc2 => ?_)
  ·
   refine zr <| tl_y rfl (y_build rfl) <| tl_e rfl <| e_sT rfl rfl <| as0 rfl <| as0 rfl <| zq <| .s3 2 3 4 rfl rfl rfl <| x_ret (.then_ret (retRV (L' := L) (rv3 rfl (rc_cellAgg (by rfl) rfl (.own iI iI)) (rc_tmp rfl) (rc_tmp rfl)) iI lR (by
    rw [show readC b = ((zeroC, []), 3) by rw [readC, if_neg (by omega), if_pos (Or.inr (by rw [hs]; simpa using hc2))]]
    exact ⟨rfl, none, 0, 0, rfl, Row.nil _ _⟩)))
  refine x_skip <| .then_normal <| x_seq <| x_draw 4 hmix rfl <| zy 0 rfl rfl (y_lg rfl rfl) <| zy1 1 rfl rfl (y_ld rfl rfl) <| zp 2 rfl rfl (y_sliceL rfl rfl (by omega)) ?_
  refine ze 3 rfl rfl <| e_call' rfl (bytesClone_spec (h.sub 25 n (by omega) (by omega)) (by omega)) ?_
  rintro _ M2 _ hM2 ⟨rfl, A2, c2, rfl, hA2⟩
  refine ⟨⟨hM2, Keeps.mem⟩, ?_⟩
  refine zt 4 rfl rfl <| e_sT rfl rfl <| paS 5 rfl rfl <| zp 6 rfl rfl (y_assign rfl) <| zz <| .then_normal <| .s3 2 3 4 rfl rfl rfl <| x_ret (retRV (L' := L) (rv3 rfl (rc_cellAgg (by rfl) rfl (.own iI iI)) (rc_tmp rfl) (rc_tmp rfl)) iI hM2 (by
   have : 25 < n + 1 := by omega
   rw [show readC b = ((xOf b, b.drop 25), 0) by rw [readC, if_neg (by omega), if_neg (by rw [hs]; simp at hc2 hk1; simp [hc2]; omega)]]
   rw [List.take_of_length_le (by simp; omega)] at hA2; exact ⟨rfl, A2, _, c2, rfl, hA2⟩))
 refine x_draw 14 hmix rfl <| pmF 0 rfl rfl <| pmF 2 rfl rfl <| pmF 4 rfl rfl <| pmF 6 rfl rfl <| pLd 8 rfl rfl rfl <| zp 9 rfl rfl (y_indexAddr (b := g) (o := o) (by rw [hAe]; rfl) rfl (by omega)) <| zy 10 rfl rfl (y_load rfl rfl (.at_ (h24 _) (by omega))) <| zp 11 rfl rfl (y_eql rfl rfl) <| to_two 1 13 (by kernel_rfl) ?_ ?_
 ·
  refine two_e 1 rfl rfl <| e_callv rfl rfl (Con.bring b1 iI (cRead1_spec h hn25 0 (by omega))) (fun _ _ _ _ h => h.elim) ?_
  rintro _ _ _ _ ⟨rfl, rfl, rfl⟩
  refine kp ?_
  refine to_two 3 13 (by kernel_rfl) ?_ ?_
  ·
   refine two_e 3 rfl rfl <| e_callv rfl rfl (Con.bring b1 iI (cRead1_spec h hn25 1 (by omega))) (fun _ _ _ _ h => h.elim) ?_
   rintro _ _ _ _ ⟨rfl, rfl, rfl⟩
   refine kp ?_
   refine to_two 5 13 (by kernel_rfl) ?_ ?_
   ·
    refine two_e 5 rfl rfl <| e_callv rfl rfl (Con.bring b1 iI (cRead1_spec h hn25 2 (by omega))) (fun _ _ _ _ h => h.elim) ?_
    rintro _ _ _ _ ⟨rfl, rfl, rfl⟩
    refine kp ?_
    refine to_two 7 13 (by kernel_rfl) ?_ ?_
    ·
     refine two_e 7 rfl rfl <| e_callv rfl rfl (Con.bring b1 iI (cRead1_spec h hn25 2 (by omega))) (fun _ _ _ _ h => h.elim) ?_
     rintro _ _ _ _ ⟨rfl, rfl, rfl⟩
     refine kp ?_
     refine zp 12 rfl rfl (y_build rfl) <| ze 13 rfl rfl <| e_alloc <| fun bA => kp ?_
     refine zt 14 rfl rfl <| e_sT rfl rfl <| zz <| .then_normal <| .sub (F' := [(1, _), (2, _), (6, _)]) (cs3 rfl rfl rfl) <| Jd4 _ _ _ _ ?_
     exact ⟨rfl, rfl, _, by rw [hX]; exact iI, rfl⟩
    refine two_e 13 rfl rfl <| e_alloc <| fun bA => kp ?_
    refine ze 7 rfl rfl <| e_callv rfl rfl (Con.bring b1 iI (cRead1_spec h hn25 2 (by omega))) (fun _ _ _ _ h => h.elim) ?_
    rintro _ _ _ _ ⟨rfl, rfl, rfl⟩
    refine kp ?_
    refine zp 12 rfl rfl (y_build rfl) <| zt 14 rfl rfl <| e_sT rfl rfl <| zz <| .then_normal <| .sub (F' := [(1, _), (2, _), (6, _)]) (cs3 rfl rfl rfl) <| Jd4 _ _ _ _ ?_
    exact ⟨rfl, rfl, _, by rw [hX]; exact iI, rfl⟩
   refine two_e 13 rfl rfl <| e_alloc <| fun bA => kp ?_
   refine ze 5 rfl rfl <| e_callv rfl rfl (Con.bring b1 iI (cRead1_spec h hn25 2 (by omega))) (fun _ _ _ _ h => h.elim) ?_
   rintro _ _ _ _ ⟨rfl, rfl, rfl⟩
   refine kp ?_
   refine ze 7 rfl rfl <| e_callv rfl rfl (Con.bring b1 iI (cRead1_spec h hn25 2 (by omega))) (fun _ _ _ _ h => h.elim) ?_
   rintro _ _ _ _ ⟨rfl, rfl, rfl⟩
   refine kp ?_
   refine zp 12 rfl rfl (y_build rfl) <| zt 14 rfl rfl <| e_sT rfl rfl <| zz <| .then_normal <| .sub (F' := [(1, _), (2, _), (6, _)]) (cs3 rfl rfl rfl) <| Jd4 _ _ _ _ ?_
   exact ⟨rfl, rfl, _, by rw [hX]; exact iI, rfl⟩
  refine two_e 13 rfl rfl <| e_alloc <| fun bA => kp ?_
  refine ze 3 rfl rfl <| e_callv rfl rfl (Con.bring b1 iI (cRead1_spec h hn25 1 (by omega))) (fun _ _ _ _ h => h.elim) ?_
  rintro _ _ _ _ ⟨rfl, rfl, rfl⟩
  refine kp ?_
  refine ze 5 rfl rfl <| e_callv rfl rfl (Con.bring b1 iI (cRead1_spec h hn25 2 (by omega))) (fun _ _ _ _ h => h.elim) ?_
  rintro _ _ _ _ ⟨rfl, rfl, rfl⟩
  refine kp ?_
  refine ze 7 rfl rfl <| e_callv rfl rfl (Con.bring b1 iI (cRead1_spec h hn25 2 (by omega))) (fun _ _ _ _ h => h.elim) ?_
  rintro _ _ _ _ ⟨rfl, rfl, rfl⟩
  refine kp ?_
  refine zp 12 rfl rfl (y_build rfl) <| zt 14 rfl rfl <| e_sT rfl rfl <| zz <| .then_normal <| .sub (F' := [(1, _), (2, _), (6, _)]) (cs3 rfl rfl rfl) <| Jd4 _ _ _ _ ?_
  exact ⟨rfl, rfl, _, by rw [hX]; exact iI, rfl⟩
 refine two_e 13 rfl rfl <| e_alloc <| fun bA => kp ?_
 refine ze 1 rfl rfl <| e_callv rfl rfl (Con.bring b1 iI (cRead1_spec h hn25 0 (by omega))) (fun _ _ _ _ h => h.elim) ?_
 rintro _ _ _ _ ⟨rfl, rfl, rfl⟩
 refine kp ?_
 refine ze 3 rfl rfl <| e_callv rfl rfl (Con.bring b1 iI (cRead1_spec h hn25 1 (by omega))) (fun _ _ _ _ h => h.elim) ?_
 rintro _ _ _ _ ⟨rfl, rfl, rfl⟩
 refine kp ?_
 refine ze 5 rfl rfl <| e_callv rfl rfl (Con.bring b1 iI (cRead1_spec h hn25 2 (by omega))) (fun _ _ _ _ h => h.elim) ?_
 rintro _ _ _ _ ⟨rfl, rfl, rfl⟩
 refine kp ?_
 refine ze 7 rfl rfl <| e_callv rfl rfl (Con.bring b1 iI (cRead1_spec h hn25 2 (by omega))) (fun _ _ _ _ h => h.elim) ?_
 rintro _ _ _ _ ⟨rfl, rfl, rfl⟩
 refine kp ?_
 refine zp 12 rfl rfl (y_build rfl) <| zt 14 rfl rfl <| e_sT rfl rfl <| zz <| .then_normal <| .sub (F' := [(1, _), (2, _), (6, _)]) (cs3 rfl rfl rfl) <| Jd4 _ _ _ _ ?_
 exact ⟨rfl, rfl, _, by rw [hX]; exact iI, rfl⟩
end
section
variable {G : World} {M : Mem} {L R : Own} {p d c : Nat} {S : DS} {s : SS} {r : DRep} {A0 HA : Option Addr} {l0 c0 hl hc : Nat}
abbrev cL (c : Nat) (x : Cn) (HA : Option Addr) (hl hc : Nat) (p : Nat) : Nat × Obj :=
 (c, .cells #[.int .u64 (x.total.toNat : Int), .int .u64 (x.batch.toNat : Int), .int .u64 (x.reserved.toNat : Int), .int .u64 (x.next.toNat : Int), .bool x.retired, .slice HA hl hc, .pointer (some ⟨p, 0, none⟩)] 163 (0, 0))
theorem Head_spec (x : Cn) {head : List UInt8} (h : Bytes M HA hl hc head) (hn : hl ≤ 140737488355328) :
  Con Tryz.prog 81 #[.pointer (some ⟨c, 0, none⟩)] G M (cL c x HA hl hc p :: R) (fun v M' L' => L' = cL c x HA hl hc p :: R ∧ ∃ A' c', v = .slice A' hl c' ∧ Bytes M' A' hl c' head) noPanic := by
 refine zfn Tryz.func81 rfl 8 rfl <| zr <| as0 rfl <| zq <| zr <| mvP rfl <| zc rfl <| tFa rfl <| tLd rfl rfl <| zca rfl (bytesClone_spec h hn) ?_
 rintro _ M1 _ hM1 ⟨rfl, A1, c1, rfl, hA1⟩
 refine asS rfl <| zq <| .s1 2 rfl <| x_ret (ret1 rfl rfl hM1 ⟨rfl, A1, c1, rfl, hA1⟩)
theorem State_spec (x : Cn) :
  Con Tryz.prog 82 #[.pointer (some ⟨c, 0, none⟩)] G M (cL c x HA hl hc p :: R) (fun v M' L' => L' = cL c x HA hl hc p :: R ∧ M' = M ∧ v = .agg (List.toArray (ccells x))) noPanic := by
 refine zfn Tryz.func82 rfl 7 rfl <| zr <| tl_e rfl <| e_alloc <| fun b1 => zq <| zr <| mvP rfl <| zc rfl <| tFa rfl <| tLg rfl rfl <| tl_e rfl <| e_sT rfl rfl <| zq <| .s1 2 rfl <| x_ret (retRV (L' := cL c x HA hl hc p :: R) (rv1 rfl (rc_cellAgg (by rfl) rfl (.own iI iI))) iI lR ⟨rfl, rfl, rfl⟩)
theorem Cn.eq_iff (x y : Cn) : ((x.total.toNat : Int) = y.total.toNat ∧ ((x.batch.toNat : Int) = y.batch.toNat ∧ ((x.reserved.toNat : Int) = y.reserved.toNat ∧ ((x.next.toNat : Int) = y.next.toNat ∧ (x.retired = y.retired ∧ True))))) ↔ x = y := by
 obtain ⟨a, b, c, d, e⟩ := x
 obtain ⟨a', b', c', d', e'⟩ := y
 have h : ∀ u v : UInt64, (u.toNat : Int) = v.toNat ↔ u = v := fun u v => by rw [← UInt64.toNat_inj]; omega
 simp only [h, Cn.mk.injEq, and_true]
theorem csave_spec (hg : ShaG M) (h : IsDisk M r S) (ok : OkS S s) {B : Nat} (hw : S.within B) (hB : B ≤ 1000000) (hb : Bytes M A0 l0 c0 s.b) {head : List UInt8} (hh : Bytes M HA hl hc head) (x x' : Cn) :
  Con Tryz.prog 86 #[.pointer (some ⟨c, 0, none⟩), .agg (List.toArray (ccells x'))] G M (dL d r S (sL p d s A0 l0 c0 :: cL c x HA hl hc p :: R))
   (fun v M' L' => SK p d (saveC S s x x' head).1.1.1 (saveC S s x x' head).1.1.2 (cL c (saveC S s x x' head).1.2 HA hl hc p :: R) M' L' ∧ v = .int .i64 (saveC S s x x' head).2) noPanic := by
 have hl' := hh.size
 refine zfn Tryz.func86 rfl 39 rfl <| zr <| tl_e rfl <| e_box rfl <| fun b1 => as0 rfl <| zq <| x_seq <| x_seq <| x_draw 6 hmix rfl <| zy 0 rfl rfl (y_lg rfl rfl) <| pmP 1 rfl rfl <| zp 2 rfl rfl (y_nilCheck rfl) ?_
 refine pFa 3 rfl rfl <| zy 4 rfl rfl (y_lg rfl rfl) <| zp 5 rfl rfl (y_eqlS rfl rfl eqs157) <| zz <| .then_normal <| .s3 0 3 13 rfl rfl rfl ?_
 rw [show (decide _ : Bool) = decide (x' = x) from decide_eq_decide.mpr (Cn.eq_iff x' x)]
 refine x_condb rfl (fun hc1 => ?_) (fun hc1 => ?_)
 ·
  refine zr <| as0 rfl <| zq <| x_ret (.then_ret (.dropTo _ iI (ret1 rfl rfl lR (by
   rw [show saveC S s x x' head = (((S, s), x), 0) by rw [saveC, if_pos (by simpa using hc1)]]
   exact ⟨⟨r, A0, l0, c0, h, hb, rfl⟩, rfl⟩))))
 refine x_skip <| .then_normal <| x_seq <| x_draw 11 hmix rfl <| zy 0 rfl rfl (y_lg rfl rfl) <| pmP 1 rfl rfl <| zp 2 rfl rfl (y_nilCheck rfl) <| pFa 3 rfl rfl <| pLd 4 rfl rfl rfl <| ze 5 rfl rfl <| e_call' rfl (Bytes_spec x' hh) ?_
 rintro v M2 _ hM2 ⟨rfl, hv⟩
 obtain ⟨A', n', c', e, rfl, hcase⟩ : ∃ A' n' c' e, v = .tuple #[.slice A' n' c', .int .i64 e] ∧ ((mayB x' hl = true ∧ e = 0 ∧ Bytes M2 A' n' c' (bytesC x' head)) ∨ (mayB x' hl = false ∧ e = 1)) := by
  split at hv
  ·
   obtain ⟨A', c', rfl, h⟩ := hv; exact ⟨A', _, c', 0, rfl, .inl ⟨by assumption, rfl, h⟩⟩
  exact ⟨none, 0, 0, 1, hv, .inr ⟨by simpa using (by assumption : ¬ mayB x' hl = true), rfl⟩⟩
 refine ⟨⟨hM2, Keeps.mem⟩, ?_⟩
 refine pmU 6 rfl rfl <| zp 7 rfl rfl (y_extract rfl) <| zp 8 rfl rfl (y_extract rfl) <| paS 9 rfl rfl <| paI 10 rfl rfl <| zz <| .then_normal <| .s4 0 3 5 6 rfl rfl rfl rfl <| zr2 <| mvI rfl <| tl_y rfl (y_neq rfl rfl) ?_
 refine zq <| x_condb rfl (fun hc2 => ?_) (fun hc2 => ?_)
 ·
  refine zr <| mvI rfl <| asI rfl <| zq <| .s1 4 rfl <| x_ret (.then_ret (.dropTo _ iI (ret1 rfl rfl hM2 (by
   obtain ⟨hm, rfl⟩ : mayB x' hl = false ∧ e = 1 := by rcases hcase with ⟨_, rfl, _⟩ | h; exact absurd hc2 (by simp); exact h
   rw [show saveC S s x x' head = (((S, s), x), 1) by rw [saveC, if_neg (by simpa using hc1), if_pos (by rw [hl']; exact hm)]]
   exact ⟨⟨r, A0, l0, c0, h.mono hM2, hb.mono hM2, rfl⟩, rfl⟩))))
 obtain ⟨hm, rfl, hbb⟩ : mayB x' hl = true ∧ e = 0 ∧ Bytes M2 A' n' c' (bytesC x' head) := by rcases hcase with h | ⟨_, rfl⟩; exact h; exact absurd hc2 (by simp)
 refine x_skip <| .then_normal <| zr2 <| mvP rfl <| zc rfl <| tFa rfl <| tLd rfl rfl <| mvS rfl <| .to (dL d r S (sL p d s A0 l0 c0 :: (b1, .cells (List.toArray (ccells x')) 157 (0, 0)) :: cL c x HA hl hc p :: R)) iI <| zca rfl (Save_spec (hg.mono hM2) (h.mono hM2) ok hw hB (hb.mono hM2) hbb) ?_
 rintro _ M3 _ hM3 ⟨⟨r', A3, l3, c3, h3, hb3, rfl⟩, rfl⟩
 refine asI rfl <| zq <| .s3 0 3 7 rfl rfl rfl <| zr <| mvI rfl <| tl_y rfl (y_neq rfl rfl) <| zq <| x_condb rfl (fun hc3 => ?_) (fun hc3 => ?_)
 ·
  refine zr <| mvI rfl <| asI rfl <| zq <| .s1 4 rfl <| x_ret (.then_ret (.dropTo _ iI (ret1 rfl rfl (hM2.trans hM3) (by
   have hne : (saveRes S s (bytesC x' head)).2 ≠ 0 := by simpa using hc3
   rw [show saveC S s x x' head = (((saveRes S s (bytesC x' head)).1, x), (saveRes S s (bytesC x' head)).2) by rw [saveC, if_neg (by simpa using hc1), if_neg (by rw [hl', hm]; simp), if_pos hne]]
   exact ⟨⟨r', A3, l3, c3, h3, hb3, rfl⟩, rfl⟩))))
 refine x_skip <| .then_normal <| zr <| mvP rfl <| tLg rfl rfl <| zc rfl <| tFa rfl <| tl_e rfl <| e_sT rfl rfl <| zq <| .s0 <| zr <| as0 rfl <| zq <| x_ret (.dropTo (dL d r' (saveRes S s (bytesC x' head)).1.1 (sL p d (saveRes S s (bytesC x' head)).1.2 A3 l3 c3 :: cL c x' HA hl hc p :: R)) iI (ret1 rfl rfl (hM2.trans hM3) (by
  have hne : (saveRes S s (bytesC x' head)).2 = 0 := by simpa using hc3
  rw [show saveC S s x x' head = (((saveRes S s (bytesC x' head)).1, x'), 0) by rw [saveC, if_neg (by simpa using hc1), if_neg (by rw [hl', hm]; simp), if_neg (by simp [hne])]]
  exact ⟨⟨r', A3, l3, c3, h3, hb3, rfl⟩, rfl⟩)))
end
section
variable {G : World} {M : Mem} {L R : Own} {p d c : Nat} {S : DS} {s : SS} {r : DRep} {A0 HA : Option Addr} {l0 c0 hl hc : Nat}
theorem cTake_spec (hg : ShaG M) (h : IsDisk M r S) (ok : OkS S s) {B : Nat} (hw : S.within B) (hB : B ≤ 1000000) (hb : Bytes M A0 l0 c0 s.b) {head : List UInt8} (hh : Bytes M HA hl hc head) (x : Cn) :
  Con Tryz.prog 45 #[.pointer (some ⟨c, 0, none⟩)] G M (dL d r S (sL p d s A0 l0 c0 :: cL c x HA hl hc p :: R))
   (fun v M' L' => SK p d (takeC S s x head).1.1.1 (takeC S s x head).1.1.2 (cL c (takeC S s x head).1.2 HA hl hc p :: R) M' L' ∧ v = .tuple #[.int .u64 ((takeC S s x head).2.1.toNat : Int), .int .i64 (takeC S s x head).2.2]) noPanic := by
 have ht : ∀ u v : UInt64, (u.toNat : Int) = v.toNat ↔ u = v := fun u v => by rw [← UInt64.toNat_inj]; omega
 refine zfn Tryz.func45 rfl 69 rfl <| zr <| as0 rfl <| as0 rfl <| zq <| x_seq <| x_block <| zr <| mvP rfl <| zc rfl <| tFa rfl <| tFa rfl <| tLd rfl rfl <| asB rfl <| zq <| .s2 0 6 rfl rfl <| x_condb rfl (fun hc1 => ?_) (fun hc1 => ?_)
 ·
  refine zr <| as0 rfl <| as0 rfl <| zq <| x_ret (.block_ret (.then_ret (ret2 rfl rfl rfl lR (by
   rw [show takeC S s x head = (((S, s), x), (0, 13)) by rw [takeC, if_pos hc1]]
   exact ⟨⟨r, A0, l0, c0, h, hb, rfl⟩, rfl⟩))))
 refine x_seq <| x_draw 12 hmix rfl <| pmP 0 rfl rfl <| zp 1 rfl rfl (y_nilCheck rfl) <| pFa 2 rfl rfl <| pFa 3 rfl rfl <| pLd 4 rfl rfl rfl <| pmP 5 rfl rfl <| zp 6 rfl rfl (y_nilCheck rfl) <| pFa 7 rfl rfl ?_
 refine pFa 8 rfl rfl <| pLd 9 rfl rfl rfl <| zp 10 rfl rfl (y_eql rfl rfl) <| paB 11 rfl rfl <| zz <| .then_normal <| .s2 0 12 rfl rfl <| x_cond rfl (fun hc2 => ?_) (fun hc2 => ?_)
 ·
  refine zr <| as0 rfl <| as0 rfl <| zq <| x_ret (.block_ret (.then_ret (ret2 rfl rfl rfl lR (by
   rw [show takeC S s x head = (((S, s), x), (0, 9)) by rw [takeC, if_neg (by simp [hc1]), if_pos ((ht _ _).1 hc2)]]
   exact ⟨⟨r, A0, l0, c0, h, hb, rfl⟩, rfl⟩))))
 refine x_skip <| .block_normal <| .then_normal <| x_seq <| x_seq <| x_draw 11 hmix rfl <| pmP 0 rfl rfl <| zp 1 rfl rfl (y_nilCheck rfl) <| pFa 2 rfl rfl <| pFa 3 rfl rfl <| pLd 4 rfl rfl rfl <| pmP 5 rfl rfl <| zp 6 rfl rfl (y_nilCheck rfl) ?_
 refine pFa 7 rfl rfl <| pFa 8 rfl rfl <| pLd 9 rfl rfl rfl <| zp 10 rfl rfl (y_eql rfl rfl) <| zz <| .then_normal <| .s2 0 34 rfl rfl <| x_cond rfl (fun hc3 => ?_) (fun hc3 => ?_)
 ·
  refine zr <| mvP rfl <| zc rfl <| tFa rfl <| tLg rfl rfl <| tl_e rfl <| e_alloc <| fun b1 => tl_e rfl <| e_sT rfl rfl <| zq <| .s2 0 4 rfl rfl <| zr <| tFa rfl <| tLd rfl rfl <| tFa rfl <| tLd rfl rfl <| tl_y rfl (y_add64 rfl rfl) <| tFa rfl <| tLd rfl rfl <| tl_y rfl (y_min rfl rfl) ?_
  rw [show (if (x.total.toNat : Int) < ((x.reserved + x.batch).toNat : Int) then (x.total.toNat : Int) else ((x.reserved + x.batch).toNat : Int)) = ((moreC x).reserved.toNat : Int) by rw [moreC]; show _ = ((if _ then _ else _ : UInt64).toNat : Int); split <;> split <;> first | rfl | omega]
  refine tFa rfl <| tl_e rfl <| e_sT rfl rfl <| zq <| .s2 0 4 rfl rfl <| zr <| mvP rfl <| tLg rfl rfl <| .to (dL d r S (sL p d s A0 l0 c0 :: cL c x HA hl hc p :: (b1, .cells #[.int .u64 (x.total.toNat : Int), .int .u64 (x.batch.toNat : Int), u64v (moreC x).reserved, .int .u64 (x.next.toNat : Int), .bool x.retired] 157 (0, 0)) :: R)) iI <| zca rfl (csave_spec hg h ok hw hB hb hh x (moreC x)) ?_
  rintro _ M3 _ hM3 ⟨⟨r', A3, l3, c3, h3, hb3, rfl⟩, rfl⟩
  refine asI rfl <| zq <| .s2 0 5 rfl rfl <| zr <| mvI rfl <| tl_y rfl (y_neq rfl rfl) <| zq <| x_condb rfl (fun hc4 => ?_) (fun hc4 => ?_)
  ·
   refine zr <| mvI rfl <| as0 rfl <| asI rfl <| zq <| .s2 2 3 rfl rfl <| x_ret (.then_ret (.dropTo (dL d r' (saveC S s x (moreC x) head).1.1.1 (sL p d (saveC S s x (moreC x) head).1.1.2 A3 l3 c3 :: cL c (saveC S s x (moreC x) head).1.2 HA hl hc p :: R)) iI (ret2 rfl rfl rfl hM3 (by
    rw [show takeC S s x head = ((saveC S s x (moreC x) head).1, (0, (saveC S s x (moreC x) head).2)) by rw [takeC, if_neg (by simp [hc1]), if_neg (fun e => hc2 ((ht _ _).2 e)), if_pos ((ht _ _).1 hc3), if_pos (by simpa using hc4)]]
    exact ⟨⟨r', A3, l3, c3, h3, hb3, rfl⟩, rfl⟩))))
  refine x_skip <| .then_normal <| zr <| mvP rfl <| zc rfl <| tFa rfl <| tFa rfl <| tLd rfl rfl <| tl_y rfl (y_add64 (b := 1) rfl rfl) <| zc rfl <| tFa rfl <| tFa rfl <| tl_e rfl <| e_sT rfl rfl <| zq <| .s1 0 rfl <| zr <| mvP rfl <| zc rfl <| tFa rfl <| tFa rfl <| tLd rfl rfl <| tl_y rfl (y_sub64 (b := 1) rfl rfl) <| asI rfl <| as0 rfl <| zq <| .s2 2 3 rfl rfl <| x_ret (.dropTo (dL d r' (saveC S s x (moreC x) head).1.1.1 (sL p d (saveC S s x (moreC x) head).1.1.2 A3 l3 c3 :: (c, .cells #[.int .u64 ((saveC S s x (moreC x) head).1.2.total.toNat : Int), .int .u64 ((saveC S s x (moreC x) head).1.2.batch.toNat : Int), .int .u64 ((saveC S s x (moreC x) head).1.2.reserved.toNat : Int), u64v ((saveC S s x (moreC x) head).1.2.next + 1), .bool (saveC S s x (moreC x) head).1.2.retired, .slice HA hl hc, .pointer (some ⟨p, 0, none⟩)] 163 (0, 0)) :: R)) iI (ret2 rfl rfl rfl hM3 (by
   rw [show takeC S s x head = (((saveC S s x (moreC x) head).1.1, nextC' (saveC S s x (moreC x) head).1.2), ((nextC' (saveC S s x (moreC x) head).1.2).next - 1, 0)) by rw [takeC, if_neg (by simp [hc1]), if_neg (fun e => hc2 ((ht _ _).2 e)), if_pos ((ht _ _).1 hc3), if_neg (by simpa using hc4)]]
   exact ⟨⟨r', A3, l3, c3, h3, hb3, rfl⟩, rfl⟩)))
 refine x_skip <| .then_normal <| zr <| mvP rfl <| zc rfl <| tFa rfl <| tFa rfl <| tLd rfl rfl <| tl_y rfl (y_add64 (b := 1) rfl rfl) <| zc rfl <| tFa rfl <| tFa rfl <| tl_e rfl <| e_sT rfl rfl <| zq <| .s1 0 rfl <| zr <| mvP rfl <| zc rfl <| tFa rfl <| tFa rfl <| tLd rfl rfl <| tl_y rfl (y_sub64 (b := 1) rfl rfl) <| asI rfl <| as0 rfl <| zq <| .s2 2 3 rfl rfl <| x_ret (.to (dL d r S (sL p d s A0 l0 c0 :: (c, .cells #[.int .u64 (x.total.toNat : Int), .int .u64 (x.batch.toNat : Int), .int .u64 (x.reserved.toNat : Int), u64v (x.next + 1), .bool x.retired, .slice HA hl hc, .pointer (some ⟨p, 0, none⟩)] 163 (0, 0)) :: R)) iI (ret2 rfl rfl rfl lR (by
  rw [show takeC S s x head = (((S, s), nextC' x), ((nextC' x).next - 1, 0)) by rw [takeC, if_neg (by simp [hc1]), if_neg (fun e => hc2 ((ht _ _).2 e)), if_neg (fun e => hc3 ((ht _ _).2 e))]]
  exact ⟨⟨r, A0, l0, c0, h, hb, rfl⟩, rfl⟩)))
end
section
variable {G : World} {M : Mem} {L R : Own} {p d : Nat} {S : DS} {s : SS} {r : DRep} {A0 HA : Option Addr} {l0 c0 hl hc : Nat}
theorem saveC_fresh (S : DS) (s : SS) (total batch : UInt64) (head : List UInt8) (hm : mayB (newX total batch) head.length = true) :
  saveC S s zeroC (newX total batch) head = if (saveRes S s (bytesC (newX total batch) head)).2 ≠ 0 then (((saveRes S s (bytesC (newX total batch) head)).1, zeroC), (saveRes S s (bytesC (newX total batch) head)).2) else (((saveRes S s (bytesC (newX total batch) head)).1, newX total batch), 0) := by
 have hne : newX total batch ≠ zeroC := fun e => by
  have h1 : (newX total batch).total = 0 := by rw [e]; rfl
  rw [mayB, decide_eq_true_eq, h1] at hm
  exact absurd hm.1 (by decide)
 rw [saveC, if_neg hne, if_neg (by simp [hm])]
theorem cNew_spec (hg : ShaG M) (h : IsDisk M r S) (ok : OkS S s) {B : Nat} (hw : S.within B) (hB : B ≤ 1000000) (hb : Bytes M A0 l0 c0 s.b) {head : List UInt8} (hh : Bytes M HA hl hc head) (total batch : UInt64) :
  Con Tryz.prog 34 #[.pointer (some ⟨p, 0, none⟩), .slice HA hl hc, .int .u64 (total.toNat : Int), .int .u64 (batch.toNat : Int)] G M (dL d r S (sL p d s A0 l0 c0 :: R))
   (fun v M' L' => if (newC S s head total batch).2 = 0 then ∃ c A' c', v = .tuple #[.pointer (some ⟨c, 0, none⟩), .int .i64 0] ∧ Bytes M' A' hl c' head ∧ SK p d (newC S s head total batch).1.1 (newC S s head total batch).1.2 (cL c (newX total batch) A' hl c' p :: R) M' L'
    else v = .tuple #[.pointer none, .int .i64 (newC S s head total batch).2] ∧ SK p d (newC S s head total batch).1.1 (newC S s head total batch).1.2 R M' L') noPanic := by
 have hl' := hh.size
 have hok := loadRes_ok ok
 refine zfn Tryz.func34 rfl 47 rfl <| zr <| as0 rfl <| as0 rfl <| zq <| zr <| mvI rfl <| mvI rfl <| tl_y rfl (y_build rfl) <| tl_e rfl <| e_alloc <| fun b1 => tl_e rfl <| e_sT rfl rfl <| zq <| .s3 0 1 10 rfl rfl rfl <| zr2 <| tLg rfl rfl <| mvS rfl <| zca rfl (may_spec (newX total batch)) ?_
 rintro _ _ _ _ ⟨rfl, rfl, rfl⟩
 refine tl_y rfl (y_not rfl) <| zq <| x_condb rfl (fun hc1 => ?_) (fun hc1 => ?_)
 ·
  refine zr <| as0 rfl <| as0 rfl <| zq <| .s2 8 9 rfl rfl <| x_ret (.then_ret (.dropTo _ iI (ret2 rfl rfl rfl lR (by
   have hm : mayB (newX total batch) head.length = false := by rw [hl']; simpa using hc1
   rw [show newC S s head total batch = ((S, s), 1) by rw [newC, if_pos hm]]
   rw [if_neg (by simp)]
   exact ⟨rfl, r, A0, l0, c0, h, hb, rfl⟩))))
 have hm : mayB (newX total batch) hl = true := by simpa using hc1
 have hm' : mayB (newX total batch) head.length = true := by rw [hl']; exact hm
 have hn200 : hl ≤ 200 := by rw [mayB, decide_eq_true_eq] at hm; omega
 refine x_skip <| .then_normal <| .s3 0 1 10 rfl rfl rfl <| zr2 <| mvP rfl <| .to (dL d r S (sL p d s A0 l0 c0 :: (b1, .cells #[u64v total, u64v batch, .int .u64 0, .int .u64 0, .bool false] 157 (0, 0)) :: R)) iI <| zca rfl (Load_spec hg h ok hb) ?_
 rintro _ M1 _ hM1 ⟨⟨r1, A1, l1, c1, h1, hb1, rfl⟩, TA, tn, tc, rfl, hT⟩
 refine mvU rfl <| zx rfl <| zx rfl <| zx rfl <| asS rfl <| asI rfl <| asI rfl <| zq <| .s4 0 1 10 13 rfl rfl rfl rfl <| zr <| mvI rfl <| zq <| x_block <| zr <| tl_y rfl (y_eql rfl rfl) <| asB rfl <| zq <| x_cond rfl (fun hc2 => ?_) (fun hc2 => ?_)
 ·
  refine zr <| as0 rfl <| as0 rfl <| zq <| .s5 0 1 8 9 10 rfl rfl rfl rfl rfl <| x_ret (.block_ret (.then_ret (.dropTo (dL d r1 S (sL p d (loadRes S s).1 A1 l1 c1 :: R)) iI (ret2 rfl rfl rfl hM1 (by
   rw [show newC S s head total batch = ((S, (loadRes S s).1), 10) by rw [newC, if_neg (by simp [hm']), if_pos (by simpa using hc2)]]
   rw [if_neg (by simp)]
   exact ⟨rfl, r1, A1, l1, c1, h1, hb1, rfl⟩)))))
 refine zr <| tl_y rfl (y_eql rfl rfl) <| asB rfl <| zq <| .s5 0 1 10 13 33 rfl rfl rfl rfl rfl <| x_cond rfl (fun hc3 => ?_) (fun hc3 => ?_)
 ·
  refine x_skip <| .block_normal <| .then_normal <| zr <| mvS rfl <| zca rfl (bytesClone_spec (hh.mono hM1) (by omega)) ?_
  rintro _ M2 _ hM2 ⟨rfl, A2, c2, rfl, hA2⟩
  refine mvP rfl <| tl_y rfl (y_build rfl) <| tl_e rfl <| e_box rfl <| fun b2 => asP rfl <| zq <| .s2 10 14 rfl rfl <| zr2 <| mvP rfl <| tLg rfl rfl <| .to (dL d r1 S (sL p d (loadRes S s).1 A1 l1 c1 :: (b2, .cells #[.int .u64 0, .int .u64 0, .int .u64 0, .int .u64 0, .bool false, .slice A2 hl c2, .pointer (some ⟨p, 0, none⟩)] 163 (0, 0)) :: (b1, .cells #[u64v total, u64v batch, .int .u64 0, .int .u64 0, .bool false] 157 (0, 0)) :: R)) iI <| zca rfl (csave_spec (hg.mono (hM1.trans hM2)) (h1.mono hM2) hok hw hB (hb1.mono hM2) hA2 zeroC (newX total batch)) ?_
  rintro _ M3 _ hM3 ⟨⟨r3, A3, l3, c3, h3, hb3, rfl⟩, rfl⟩
  have hN : newC S s head total batch = saveRes S (loadRes S s).1 (bytesC (newX total batch) head) := by
   rw [newC, if_neg (by simp [hm']), if_neg (by simpa using hc2), if_pos (by simpa using hc3)]
  have hF := saveC_fresh S (loadRes S s).1 total batch head hm'
  have hLe : Le M M3 := hM1.trans (hM2.trans hM3)
  refine asI rfl <| zq <| .s2 14 15 rfl rfl <| zr <| mvI rfl <| tl_y rfl (y_neq rfl rfl) <| zq <| x_condb rfl (fun hc4 => ?_) (fun hc4 => ?_)
  ·
   refine zr <| mvI rfl <| as0 rfl <| asI rfl <| zq <| .s2 8 9 rfl rfl <| x_ret (.then_ret (.dropTo (dL d r3 (saveC S (loadRes S s).1 zeroC (newX total batch) head).1.1.1 (sL p d (saveC S (loadRes S s).1 zeroC (newX total batch) head).1.1.2 A3 l3 c3 :: R)) iI (ret2 rfl rfl rfl hLe (by
    have h0 : (saveRes S (loadRes S s).1 (bytesC (newX total batch) head)).2 ≠ 0 := by
     rw [hF] at hc4; split at hc4
     ·
      assumption
     exact absurd hc4 (by simp)
    rw [if_pos h0] at hF
    rw [hF] at h3 hb3 ⊢
    rw [hN, if_neg h0]
    exact ⟨rfl, r3, A3, l3, c3, h3, hb3, rfl⟩))))
  refine x_skip <| .then_normal <| zr <| mvP rfl <| asP rfl <| as0 rfl <| zq <| .s2 8 9 rfl rfl <| x_ret (.dropTo (dL d r3 (saveC S (loadRes S s).1 zeroC (newX total batch) head).1.1.1 (sL p d (saveC S (loadRes S s).1 zeroC (newX total batch) head).1.1.2 A3 l3 c3 :: cL b2 (saveC S (loadRes S s).1 zeroC (newX total batch) head).1.2 A2 hl c2 p :: R)) iI (ret2 rfl rfl rfl hLe (by
   have h0 : ¬ (saveRes S (loadRes S s).1 (bytesC (newX total batch) head)).2 ≠ 0 := fun h0 => by
    rw [hF, if_pos h0] at hc4; simp at hc4; exact h0 hc4
   rw [if_neg h0] at hF
   rw [hF] at h3 hb3 ⊢
   rw [hN, if_pos (by simpa using h0)]
   exact ⟨b2, A2, c2, rfl, hA2.mono hM3, r3, A3, l3, c3, h3, hb3, rfl⟩)))
 refine zr <| mvI rfl <| as0 rfl <| asI rfl <| zq <| x_ret (.block_ret (.then_ret (.dropTo (dL d r1 S (sL p d (loadRes S s).1 A1 l1 c1 :: R)) iI (ret2 rfl rfl rfl hM1 (by
  have h0 : (loadRes S s).2 ≠ 0 := by simpa using hc2
  rw [show newC S s head total batch = ((S, (loadRes S s).1), (loadRes S s).2) by rw [newC, if_neg (by simp [hm']), if_neg h0, if_neg (by simpa using hc3)]]
  rw [if_neg h0]
  exact ⟨rfl, r1, A1, l1, c1, h1, hb1, rfl⟩)))))
theorem cOpen_spec (hg : ShaG M) (h : IsDisk M r S) (ok : OkS S s) (hb : Bytes M A0 l0 c0 s.b) :
  Con Tryz.prog 79 #[.pointer (some ⟨p, 0, none⟩)] G M (dL d r S (sL p d s A0 l0 c0 :: R))
   (fun v M' L' => if (openC S s).2 = 0 then ∃ c A' n' c', v = .tuple #[.pointer (some ⟨c, 0, none⟩), .int .i64 0] ∧ Bytes M' A' n' c' (openC S s).1.2 ∧ SK p d S (loadRes S s).1 (cL c (openC S s).1.1 A' n' c' p :: R) M' L'
    else v = .tuple #[.pointer none, .int .i64 (openC S s).2] ∧ SK p d S (loadRes S s).1 R M' L') noPanic := by
 refine zfn Tryz.func79 rfl 32 rfl <| zr <| as0 rfl <| as0 rfl <| zq <| zr <| mvP rfl <| zca rfl (Load_spec hg h ok hb) ?_
 rintro _ M1 _ hM1 ⟨⟨r1, A1, l1, c1, h1, hb1, rfl⟩, TA, tn, tc, rfl, hT⟩
 refine mvU rfl <| zx rfl <| zx rfl <| zx rfl <| asS rfl <| asI rfl <| asI rfl <| zq <| .s3 0 4 6 rfl rfl rfl <| zr2 <| mvI rfl <| tl_y rfl (y_neq rfl rfl) <| zq <| x_condb rfl (fun hc1 => ?_) (fun hc1 => ?_)
 ·
  refine zr <| mvI rfl <| as0 rfl <| asI rfl <| zq <| .s2 2 3 rfl rfl <| x_ret (.then_ret (ret2 rfl rfl rfl hM1 (by
   have h0 : (loadRes S s).2 ≠ 0 := by simpa using hc1
   rw [show openC S s = ((zeroC, []), (loadRes S s).2) by rw [openC, if_pos h0], if_neg h0]
   exact ⟨rfl, r1, A1, l1, c1, h1, hb1, rfl⟩)))
 have h0 : (loadRes S s).2 = 0 := by simpa using hc1
 have hO : openC S s = readC (loadRes S s).1.b := by rw [openC, if_neg (by simp [h0])]
 have hT' : Bytes M1 TA tn tc (loadRes S s).1.b := by rw [loadTold, if_pos h0] at hT; exact hT
 have hTn : tn ≤ 140737488355328 := by have := hT'.size; have h1 := (loadRes_ok ok).b; have h2 := (loadRes_ok ok).n; omega
 refine x_skip <| .then_normal <| zr <| mvS rfl <| zca rfl (Read_spec' hT' hTn) ?_
 rintro _ M2 _ hM2 ⟨rfl, A2, n2, c2, rfl, hA2⟩
 have hLe : Le M M2 := hM1.trans hM2
 refine mvU rfl <| zx rfl <| zx rfl <| zx rfl <| tl_e rfl <| e_alloc <| fun b1 => tl_e rfl <| e_sT rfl rfl <| asS rfl <| asI rfl <| zq <| .s4 0 6 7 8 rfl rfl rfl rfl <| zr2 <| mvI rfl <| tl_y rfl (y_neq rfl rfl) <| zq <| x_condb rfl (fun hc2 => ?_) (fun hc2 => ?_)
 ·
  refine zr <| mvI rfl <| as0 rfl <| asI rfl <| zq <| .s2 2 3 rfl rfl <| x_ret (.then_ret (.dropTo (dL d r1 S (sL p d (loadRes S s).1 A1 l1 c1 :: R)) iI (ret2 rfl rfl rfl hLe (by
   have h2 : (readC (loadRes S s).1.b).2 ≠ 0 := by simpa using hc2
   rw [hO, if_neg h2]
   exact ⟨rfl, r1, A1, l1, c1, h1.mono hM2, hb1.mono hM2, rfl⟩))))
 refine x_skip <| .then_normal <| zr <| tLg rfl rfl <| mvS rfl <| mvP rfl <| tl_y rfl (y_build rfl) <| tl_e rfl <| e_box rfl <| fun b2 => asP rfl <| as0 rfl <| zq <| .s2 2 3 rfl rfl <| x_ret (.dropTo (dL d r1 S (sL p d (loadRes S s).1 A1 l1 c1 :: cL b2 (readC (loadRes S s).1.b).1.1 A2 n2 c2 p :: R)) iI (ret2 rfl rfl rfl hLe (by
  have h2 : (readC (loadRes S s).1.b).2 = 0 := by simpa using hc2
  rw [hO, if_pos h2]
  exact ⟨b2, A2, n2, c2, rfl, hA2, r1, A1, l1, c1, h1.mono hM2, hb1.mono hM2, rfl⟩)))
end
end Go.Proofs.YtplkoemjffplcaaGreatDoor
