/-
Contracts of functions, each proved by a walk through its code.
-/
import Derived.Test.YtplkoemjffplcaaGreatDoorChainEtc
import Derived.Test.YtplkoemjffplcaaGreatDoorShaEtc
import Derived.Test.YtplkoemjffplcaaGreatDoorShakeEtc
set_option linter.all false
namespace Go.Proofs.YtplkoemjffplcaaGreatDoor
open Go Go.Eng
theorem and_one : ∀ x : Fin 256, IntKind.i64.wrap (((BitVec.ofInt IntKind.i64.bits (x.val : Int) &&& BitVec.ofInt IntKind.i64.bits 1).toNat : Nat) : Int) = ((x.val % 2 : Nat) : Int) := by decide +kernel
theorem and_three : ∀ x : Fin 256, IntKind.i64.wrap (((BitVec.ofInt IntKind.i64.bits (x.val : Int) &&& BitVec.ofInt IntKind.i64.bits 3).toNat : Nat) : Int) = ((x.val % 4 : Nat) : Int) := by decide +kernel
theorem and_15 : ∀ x : Fin 256, IntKind.i64.wrap (((BitVec.ofInt IntKind.i64.bits (x.val : Int) &&& BitVec.ofInt IntKind.i64.bits 15).toNat : Nat) : Int) = ((x.val % 16 : Nat) : Int) := by decide +kernel
theorem and_255 : ∀ x : Fin 256, IntKind.i64.wrap (((BitVec.ofInt IntKind.i64.bits (x.val : Int) &&& BitVec.ofInt IntKind.i64.bits 255).toNat : Nat) : Int) = ((x.val % 256 : Nat) : Int) := by decide +kernel
theorem and_w {w x : Nat} (h : isW w) (hx : x < 256) : IntKind.i64.wrap (((BitVec.ofInt IntKind.i64.bits (x : Int) &&& BitVec.ofInt IntKind.i64.bits (((2 ^ w : Nat) : Int) - 1)).toNat : Nat) : Int) = ((x % 2 ^ w : Nat) : Int) := by
 rcases h with rfl | rfl | rfl | rfl
 ·
  exact and_one ⟨x, hx⟩
 ·
  exact and_three ⟨x, hx⟩
 ·
  exact and_15 ⟨x, hx⟩
 exact and_255 ⟨x, hx⟩
section
variable {G : World} {M : Mem} {L : Own}
theorem each_spec {A : Option Addr} {n c : Nat} (w : Int) :
  Con Tryz.prog 276 #[.slice A n c, .int .i64 w] G M L (fun v M' L' => M = M' ∧ ∃ x0 x1, L' = (x0, .cells #[.slice A n c] 22 (0, 0)) :: (x1, .cells #[.int .i64 w] 3 (0, 0)) :: L ∧ v = .func (.func 281) #[] #[.pointer (some ⟨x0, 0, none⟩), .pointer (some ⟨x1, 0, none⟩)]) noPanic := by
 refine en Tryz.func276 rfl 6 rfl <| zr <| tl_e rfl <| e_box rfl <| fun b1 => tl_e rfl <| e_box rfl <| fun b2 => as0 rfl rfl <| zq <| zr <| tl_y rfl (y_makeFunc rfl rfl) <| asF rfl rfl <| zq <| .s1 4 rfl <| x_ret (.to ((b1, .cells #[.slice A n c] 22 (0, 0)) :: (b2, .cells #[.int .i64 w] 3 (0, 0)) :: L) ii (ret1 rfl rfl (Le.refl _) ⟨rfl, b1, b2, rfl, rfl⟩))
theorem each1_spec {l x0 x1 : Nat} {A : Option Addr} {n c w : Nat} (hw : isW w) {bs : List UInt8} {X0 : Own} (hb : Bytes M A n c bs) (hn : n ≤ 1000000000000) {Inv : Nat → Mem → Own → Prop} {Dn : Mem → Own → Prop}
  (hy : ∀ m M1 X1, m < n * dpb w → Le M M1 → Inv m M1 X1 → YCon Tryz.prog l [.int .i64 ((digAt w bs m : Nat) : Int)] G M1 X1 (Inv (m + 1)) Dn) (h0 : Inv 0 M X0) :
  Con Tryz.prog 281 #[.func (.yield l) #[] #[], .pointer (some ⟨x0, 0, none⟩), .pointer (some ⟨x1, 0, none⟩)] G M ((x0, .cells #[.slice A n c] 22 (0, 0)) :: (x1, .cells #[.int .i64 (w : Int)] 3 (0, 0)) :: X0)
   (fun v M' L' => ∃ X', L' = (x0, .cells #[.slice A n c] 22 (0, 0)) :: (x1, .cells #[.int .i64 (w : Int)] 3 (0, 0)) :: X' ∧ (Inv (n * dpb w) M' X' ∨ Dn M' X')) noPanic := by
 have hmx := hb.max
 have hle := hb.le
 have hbl := hb.size
 obtain ⟨hd1, hd8⟩ := dpb_pos hw
 have hw8 : 1 ≤ w ∧ w ≤ 8 := by rcases hw with rfl | rfl | rfl | rfl <;> omega
 have hsh := shl1_w hw
 have h2w : 2 ≤ 2 ^ w ∧ 2 ^ w ≤ 256 := pw2_w hw
 refine en Tryz.func281 rfl 32 rfl <| zr <| tLd rfl rfl rfl <| tLen rfl rfl <| mv0 rfl rfl <| zq <| x_block ?_
 refine x_loop (I := fun m' F D M1 L1 => ∃ (i : Nat) (X1 : Own), m' = n - i ∧ i ≤ n ∧ Le M M1 ∧ Inv (i * dpb w) M1 X1 ∧ D = [] ∧ L1 = (x0, .cells #[.slice A n c] 22 (0, 0)) :: (x1, .cells #[.int .i64 (w : Int)] 3 (0, 0)) :: X1 ∧ F = [(0, .func (.yield l) #[] #[]), (2, .pointer (some ⟨x1, 0, none⟩)), (7, .slice A n c), (8, .int .i64 (n : Int)), (9, .int .i64 (i : Int))]) (n) (F0 := [(0, _), (2, _), (7, _), (8, _), (9, _)]) ?_ (cs5 rfl rfl rfl rfl rfl) ?_
 ·
  exact ⟨0, X0, rfl, by omega, Le.refl _, by rw [Nat.zero_mul]; exact h0, rfl, rfl, rfl⟩
 rintro m _ _ M1 L1 ⟨i, X1, rfl, hi, hM1, hI, rfl, rfl, rfl⟩
 refine zr <| tl_y rfl (y_lss rfl rfl) <| zq <| x_seq <| x_cond rfl (fun hc1 => ?_) (fun hc1 => ?_)
 ·
  have hin : i < n := by omega
  obtain ⟨g, o, rfl, hcell⟩ := (hb.mono hM1).byte (by omega)
  obtain ⟨cc, hcc⟩ : ∃ cc, cc = bs.getD i 0 := ⟨_, rfl⟩
  have hc8 := cc.toNat_lt
  refine x_skip <| .then_normal <| x_seq <| x_block <| zr <| tl_y rfl (y_indexAddrK i rfl rfl (by omega)) <| tl_y rfl (y_load rfl rfl (.at_ (hcell _ i (by omega)) (by omega))) ?_
  rw [← hcc]
  refine asI rfl rfl <| zq <| zr <| tLd rfl rfl rfl <| tl_y rfl (y_subI rfl rfl (by omega)) <| asI rfl rfl <| zq <| .s7 0 2 5 6 7 8 9 rfl rfl rfl rfl rfl rfl rfl <| x_block ?_
  refine x_loop (I := fun m' F D M2 L2 => ∃ (k : Nat) (X2 : Own), m' = dpb w - k ∧ k ≤ dpb w ∧ Le M M2 ∧ Inv (i * dpb w + k) M2 X2 ∧ D = [] ∧ L2 = (x0, .cells #[.slice (some ⟨g, o, none⟩) n c] 22 (0, 0)) :: (x1, .cells #[.int .i64 (w : Int)] 3 (0, 0)) :: X2 ∧ F = [(0, .func (.yield l) #[] #[]), (2, .pointer (some ⟨x1, 0, none⟩)), (5, .int .u8 (cc.toNat : Int)), (6, .int .i64 (8 - ((w * (k + 1) : Nat) : Int))), (7, .slice (some ⟨g, o, none⟩) n c), (8, .int .i64 (n : Int)), (9, .int .i64 (i : Int))]) (dpb w) (F0 := [(0, _), (2, _), (5, _), (6, _), (7, _), (8, _), (9, _)]) ?_ (cs7 rfl rfl rfl rfl rfl rfl rfl) ?_
  ·
   exact ⟨0, X1, rfl, by omega, hM1, hI, rfl, rfl, by rw [Nat.zero_add, Nat.mul_one]⟩
  rintro m _ _ M2 L2 ⟨k, X2, rfl, hk, hM2, hI2, rfl, rfl, rfl⟩
  have hwk : w * (k + 1) = w * k + w := Nat.mul_succ w k
  have hwk2 : w * (k + 1 + 1) = w * (k + 1) + w := Nat.mul_succ w (k + 1)
  refine zr2 <| mvI rfl rfl <| tl_y rfl (y_geq rfl rfl) <| zq <| x_cond rfl (fun hc2 => ?_) (fun hc2 => ?_)
  ·
   have hkd : k < dpb w := by
    rcases Nat.lt_or_ge k (dpb w) with h | h
    ·
     exact h
    have := Nat.mul_le_mul_left w h
    omega
   have hwk8 : w * (k + 1) ≤ 8 := by
    have := Nat.mul_le_mul_left w (show k + 1 ≤ dpb w from hkd)
    omega
   have hm : i * dpb w + k < n * dpb w := by
    have := Nat.mul_le_mul_right (dpb w) (show i + 1 ≤ n from hin)
    rw [Nat.succ_mul] at this
    omega
   have hdg : digAt w bs (i * dpb w + k) = cc.toNat / 2 ^ (8 - w * (k + 1)) % 2 ^ w := by
    rw [digAt, dig, hcc, Nat.mul_comm i, Nat.mul_add_div (by omega), Nat.div_eq_of_lt hkd, Nat.add_zero, Nat.mul_add_mod, Nat.mod_eq_of_lt hkd]
   have hq : cc.toNat / 2 ^ (8 - w * (k + 1)) < 256 := Nat.lt_of_le_of_lt (Nat.div_le_self _ _) hc8
   have hfd : Int.fdiv (cc.toNat : Int) (2 ^ (min (8 - ((w * (k + 1) : Nat) : Int)).toNat IntKind.i64.bits)) = ((cc.toNat / 2 ^ (8 - w * (k + 1)) : Nat) : Int) := by
    rw [show (8 - ((w * (k + 1) : Nat) : Int)).toNat = 8 - w * (k + 1) by omega, Nat.min_eq_left (by show _ ≤ 64; omega), Int.fdiv_eq_ediv_of_nonneg _ (by exact Int.pow_nonneg (by decide))]
    rw [Int.natCast_ediv, Int.natCast_pow]; first | rfl | done
   refine x_skip <| .then_normal <| x_seq <| x_block <| x_seq <| x_draw0 11 ([(x1, .cells #[.int .i64 (w : Int)] 3 (0, 0))]) Keeps.mem hmix rfl <| zp 0 rfl rfl (y_move (v := .func _ _ _) rfl) <| zp 1 rfl rfl (y_move (v := .int _ _) rfl) <| zp 2 rfl rfl (y_convI rfl (by omega)) <| zp 3 rfl rfl (y_move (v := .int _ _) rfl) <| zp 4 rfl rfl (y_shr rfl rfl (by omega)) ?_
   rw [hfd]
   refine zy 5 rfl rfl (y_ld rfl rfl) <| zp 6 rfl rfl (y_shl rfl rfl (by omega)) ?_
   rw [hsh]
   refine zp 7 rfl rfl (y_subI rfl rfl (by omega)) <| zp 8 rfl rfl (y_and rfl rfl) ?_
   rw [and_w hw hq, ← hdg]
   refine ze 9 rfl rfl <| e_yieldB (R := [(x0, .cells #[.slice (some ⟨g, o, none⟩) n c] 22 (0, 0)), (x1, .cells #[.int .i64 (w : Int)] 3 (0, 0))]) (X := X2) rfl rfl (hy (i * dpb w + k) M2 X2 hm hM2 hI2) <| fun b M3 X3 hM3 hbb => ?_
   simp only [List.cons_append, List.nil_append]
   refine ⟨⟨(by first | exact Le.refl _ | assumption), Keeps.mem⟩, ?_⟩
   refine zp 10 rfl rfl (y_not rfl) <| zz <| .then_normal <| .s8 0 2 5 6 7 8 9 30 rfl rfl rfl rfl rfl rfl rfl rfl <| x_condb rfl (fun hc3 => ?_) (fun hc3 => ?_)
   ·
    refine x_ret (.block_ret (.then_ret (.loop_ret (.block_ret (.block_ret (.then_ret (.loop_ret (.block_ret (ret0 rfl (hM2.trans hM3) ⟨X3, rfl, by
     rcases hbb with ⟨rfl, _⟩ | ⟨_, hbb⟩
     ·
      simp at hc3
     exact .inr hbb⟩)))))))))
   refine x_skip <| .block_normal <| .then_normal <| x_region <| mvI rfl rfl <| tLd rfl rfl rfl <| tl_y rfl (y_subI rfl rfl (by omega)) ?_
   rw [show (8 - ((w * (k + 1) : Nat) : Int)) - (w : Int) = 8 - ((w * (k + 1 + 1) : Nat) : Int) by omega]
   refine asI rfl rfl <| tl_nil <| .loop_next (m' := dpb w - (k + 1)) (by omega) (F' := [(0, _), (2, _), (5, _), (6, _), (7, _), (8, _), (9, _)]) (cs7 rfl rfl rfl rfl rfl rfl rfl) ?_
   exact ⟨k + 1, X3, rfl, by omega, hM2.trans hM3, by
    rcases hbb with ⟨_, hbb⟩ | ⟨rfl, hbb⟩
    ·
     exact hbb
    simp at hc3, rfl, rfl, rfl⟩
  have hke : k = dpb w := by
   rcases Nat.lt_or_ge k (dpb w) with h | h
   ·
    have := Nat.mul_le_mul_left w (show k + 1 ≤ dpb w from h)
    omega
   omega
  refine x_exit <| .then_exit <| .loop_exit <| .block_exit <| .block_normal <| .then_normal <| .s5 0 2 7 8 9 rfl rfl rfl rfl rfl <| x_region <| tl_y rfl (y_addI rfl rfl (by omega)) <| mvI rfl rfl <| tl_nil <| .loop_next (m' := n - (i + 1)) (by omega) (F' := [(0, _), (2, _), (7, _), (8, _), (9, _)]) (cs5 rfl rfl rfl rfl rfl) ?_
  exact ⟨i + 1, X2, rfl, by omega, hM2, by rw [Nat.succ_mul, ← hke]; rw [← hke] at hI2; exact hI2, rfl, rfl, rfl⟩
 refine x_exit (.then_exit (.loop_exit (.block_exit (end0 rfl hM1 ⟨X1, rfl, .inl (by
  obtain rfl : i = n := by omega
  exact hI)⟩))))
end
def intsL (xs : List Nat) : List Value := xs.map fun (x : Nat) => Value.int .i64 (x : Int)
theorem intsL_one (xs : List Nat) : (intsL xs).all one = true := by simp [intsL, one, Value.oneCell']
theorem intsL_one' (xs : List Nat) (i j : Nat) : (((intsL xs).drop i).take j).all one = true := by
 rw [List.all_eq_true]
 intro v hv
 exact List.all_eq_true.1 (intsL_one xs) v (List.mem_of_mem_drop (List.mem_of_mem_take hv))
theorem allD_vals (n w v : Nat) (bs : List UInt8) (h : v = shV n w) : intsL (digs w bs (n * dpb w)) ++ ((intsL (digs w (two (lackX n w bs)) (2 * dpb w))).drop (0 * 1)).take ((v - 0) * 1) = intsL (allD n w bs) := by
 rw [allD, Nat.zero_mul, List.drop_zero, Nat.sub_zero, Nat.mul_one, h, intsL, intsL, intsL, List.map_append, List.map_take]
theorem dpb_le {w : Nat} (h : isW w) (n : Nat) (hn : n ≤ 1000000000) : n * dpb w ≤ 8000000000 := by
 have h1 : dpb w ≤ 8 := by rcases h with rfl | rfl | rfl | rfl <;> decide
 exact Nat.le_trans (Nat.mul_le_mul hn h1) (by decide)
theorem two_putB {x : Nat} (h : x < 65536) : putB x 2 = two x := by
 have h1 : putB x 2 = [UInt8.ofNat (x / 256 % 256), UInt8.ofNat (x % 256)] := rfl
 rw [h1, two, Nat.mod_eq_of_lt (show x / 256 < 256 by omega)]
section
variable {G : World} {M : Mem} {L : Own}
theorem Of_spec {A : Option Addr} {n c w : Nat} (hw : isW w) {bs : List UInt8} (hb : Bytes M A n c bs) (hn : n ≤ 1000000000) :
  Con Tryz.prog 269 #[.slice A n c, .int .i64 (w : Int)] G M L (fun v M' L' => ∃ A' c' E, v = .slice A' (n * dpb w) c' ∧ OwnRow 3 1 A' (n * dpb w) c' (intsL (digs w bs (n * dpb w))) E ∧ L' = E ++ L) noPanic := by
 obtain ⟨hd1, hd8⟩ := dpb_pos hw
 have hnd := dpb_le hw n hn
 refine enterM (args := [_, _]) (fn := Tryz.f269) ⟨Tryz.func269, rfl, by kernel_rfl, by kernel_rfl⟩ 19 rfl <| zr <| as0 rfl rfl <| zq <| zr2 <| mvI rfl rfl <| ec rfl rfl (dMay_spec _) ?_
 rintro _ M1 _ hM1 ⟨rfl, rfl⟩
 rw [isW_mem hw]
 refine tl_y rfl (y_not rfl) <| zq <| x_false rfl (rfl) <| x_skip <| .then_normal <| .s2 0 1 rfl rfl <| zr <| tl_e rfl <| e_alloc <| fun b1 => zq <| zr2 <| mvS rfl rfl <| mvI rfl rfl <| ec rfl rfl (each_spec _) ?_
 rintro _ _ _ _ ⟨rfl, x0, x1, rfl, rfl⟩
 refine zq <| .s2 5 12 rfl rfl <| x_block <| x_rangeN rfl rfl <| fun l r0 fn tm lps las lbd hps has hbd htm => ?_
 obtain ⟨xs, hxs⟩ : ∃ xs : LoopState → Option Code → Option Addr → Nat → Nat → Own → Own, ∀ st pd A k c E, xs st pd A k c E = lrec l st pd fn tm lps las lbd r0 :: (r0, .deferred (some [])) :: (b1, .cells #[.slice A k c] 68 (0, 0)) :: (E ++ L) := ⟨_, fun _ _ _ _ _ _ => rfl⟩
 refine Con.postD (Con.to ((x0, .cells #[.slice A n c] 22 (0, 0)) :: (x1, .cells #[.int .i64 (w : Int)] 3 (0, 0)) :: xs .ready none none 0 0 []) (by rw [hxs, List.nil_append]; infer_instance) (each1_spec hw (hb.mono hM1) (by omega) (Inv := fun k M2 X2 => ∃ (A6 : Option Addr) (c6 : Nat) (E6 : Own), Le M1 M2 ∧ OwnRow 3 1 A6 k c6 (intsL (digs w bs k)) E6 ∧ X2 = xs .ready none A6 k c6 E6) (Dn := fun _ _ => False) ?_ ⟨none, 0, [], Le.refl _, .nil, rfl⟩)) ?_
 ·
  rintro k M2 X2 hk2 hM2 ⟨A6, c6, E6, hM12, hE6, rfl⟩
  rw [hxs]
  subst hps
  subst has
  subst hbd
  refine ycon_body htm rfl (by kernel_rfl) <| fun R1 => ?_
  simp only [List.cons_append, List.append_assoc]
  refine x_region <| asI rfl rfl <| tl_nil <| .asg (by kernel_rfl) <| x_block <| x_region <| tLd rfl rfl rfl <| mvI rfl rfl <| tl_e rfl <| e_buildSlice rfl (by decide) <| fun b7 => .pub b7 ii <| fun M5 hM5 hb7 => .bringE E6 ii <| tl_e rfl <| e_append (by decide) rfl rfl hE6 (.row (Row.whole (s := 1) hb7 rfl (by omega))) rfl (by omega) (by omega) <| fun A9 c9 E9 hE9 => ?_
  rw [show intsL (digs w bs k) ++ [Value.int .i64 ((digAt w bs k : Nat) : Int)] = intsL (digs w bs (k + 1)) by rw [digs_succ, intsL, intsL, List.map_append]; rfl] at hE9
  refine tl_e rfl <| e_st rfl rfl (by rfl) (by rfl) <| tl_nil (.block_normal (.on ((r0, .deferred (some [])) :: (b1, .cells #[.slice A9 (k + 1) c9] 68 (0, 0)) :: (E9 ++ (L ++ R1))) ii ii (X := (r0, .deferred (some [])) :: (b1, .cells #[.slice A9 (k + 1) c9] 68 (0, 0)) :: (E9 ++ L)) (by simp) hM5 ⟨A9, c9, E9, hM12.trans hM5, hE9, (hxs _ _ _ _ _ _).symm⟩))
 rintro v M3 L3 hM3 ⟨X', rfl, hX⟩
 rcases hX with ⟨A6, c6, E6, hM13, hE6, rfl⟩ | hX
 ·
  refine ⟨lrec l .ready none fn tm lps las lbd r0 :: (r0, .deferred (some [])) :: (b1, .cells #[.slice A6 (n * dpb w) c6] 68 (0, 0)) :: (E6 ++ L), by rw [hxs]; infer_instance, .ready, none, _, by simp, rfl, ?_⟩
  refine .block_normal <| .then_normal <| .s1 5 rfl <| zr <| tLd rfl rfl rfl <| asS rfl rfl <| zq <| x_ret (.retM1 (r := r0) (L1 := E6 ++ L) ii (rv1 rfl (rc_tmp (by rfl))) ii (hM1.trans hM13) ⟨A6, c6, E6, rfl, hE6, rfl⟩)
 exact hX.elim
theorem Lack_spec {A : Option Addr} {n c w : Nat} (hw : isW w) {bs : List UInt8} (hb : Bytes M A n c bs) (hn : n ≤ 1000000000) :
  Con Tryz.prog 270 #[.slice A n c, .int .i64 (w : Int)] G M L (fun v M' L' => L = L' ∧ v = .int .i64 ((lackN w bs (n * dpb w) : Nat) : Int)) noPanic := by
 obtain ⟨hd1, hd8⟩ := dpb_pos hw
 have hnd := dpb_le hw n hn
 have hsh := shl1_w hw
 have h2w : 2 ≤ 2 ^ w ∧ 2 ^ w ≤ 256 := pw2_w hw
 refine enterM (args := [_, _]) (fn := Tryz.f270) ⟨Tryz.func270, rfl, by kernel_rfl, by kernel_rfl⟩ 22 rfl <| zr <| tl_e rfl <| e_box rfl <| fun b1 => as0 rfl rfl <| zq <| zr2 <| tLd rfl rfl rfl <| ec rfl rfl (dMay_spec _) ?_
 rintro _ M1 _ hM1 ⟨rfl, rfl⟩
 rw [isW_mem hw]
 refine tl_y rfl (y_not rfl) <| zq <| .s3 0 3 9 rfl rfl rfl <| x_false rfl (rfl) <| x_skip <| .then_normal <| zr <| tl_e rfl <| e_alloc <| fun b2 => tl_e rfl <| e_st rfl rfl (by rfl) (by rfl) <| zq <| zr2 <| mvS rfl rfl <| tLd rfl rfl rfl <| ec rfl rfl (each_spec _) ?_
 rintro _ _ _ _ ⟨rfl, x0, x1, rfl, rfl⟩
 refine zq <| .s3 3 5 12 rfl rfl rfl <| x_block <| x_rangeN rfl rfl <| fun l r0 fn tm lps las lbd hps has hbd htm => ?_
 obtain ⟨xs, hxs⟩ : ∃ xs : LoopState → Option Code → Nat → Own, ∀ st pd k, xs st pd k = lrec l st pd fn tm lps las lbd r0 :: (r0, .deferred (some [])) :: (b2, .cells #[.int .i64 ((lackN w bs k : Nat) : Int)] 3 (0, 0)) :: (b1, .cells #[.int .i64 (w : Int)] 3 (0, 0)) :: L := ⟨_, fun _ _ _ => rfl⟩
 refine Con.postD (Con.to ((x0, .cells #[.slice A n c] 22 (0, 0)) :: (x1, .cells #[.int .i64 (w : Int)] 3 (0, 0)) :: xs .ready none 0) (by rw [hxs, show ((lackN w bs 0 : Nat) : Int) = 0 by simp [lackN, digs]]; infer_instance) (each1_spec hw (hb.mono hM1) (by omega) (Inv := fun k M2 X2 => M1 = M2 ∧ xs .ready none k = X2) (Dn := fun _ _ => False) ?_ ⟨rfl, rfl⟩)) ?_
 ·
  rintro k _ _ hk2 hM2 ⟨rfl, rfl⟩
  rw [hxs]
  have hlk := lackN_le w bs k
  have hlk2 : k * (2 ^ w - 1) ≤ 8000000000 * 255 := Nat.mul_le_mul (by omega) (by omega)
  have hdl := digAt_lt w bs k
  have hls := lackN_succ w bs k
  subst hps
  subst has
  subst hbd
  refine ycon_body htm rfl (by kernel_rfl) <| fun R1 => ?_
  simp only [List.cons_append, List.append_assoc]
  refine x_region <| asI rfl rfl <| .bring l ii <| tl_nil <| .asg (by kernel_rfl) <| x_block <| x_draw 7 hmix rfl <| zy 0 rfl rfl (y_ld rfl rfl) <| zy 1 rfl rfl (y_ld rfl rfl) <| zp 2 rfl rfl (y_shl rfl rfl (by omega)) ?_
  rw [hsh]
  refine zp 3 rfl rfl (y_subI rfl rfl (by omega)) <| zp 4 rfl rfl (y_move (v := .int _ _) rfl) <| zp 5 rfl rfl (y_subI rfl rfl (by omega)) <| zp 6 rfl rfl (y_addI rfl rfl (by omega)) ?_
  rw [show ((lackN w bs k : Nat) : Int) + (((2 ^ w : Nat) : Int) - 1 - ((digAt w bs k : Nat) : Int)) = ((lackN w bs (k + 1) : Nat) : Int) by omega]
  refine zt 7 rfl rfl <| e_st rfl rfl (by rfl) (by rfl) <| zz (.block_normal (.on ((r0, .deferred (some [])) :: (b2, .cells #[.int .i64 ((lackN w bs (k + 1) : Nat) : Int)] 3 (0, 0)) :: (b1, .cells #[.int .i64 (w : Int)] 3 (0, 0)) :: (L ++ R1)) ii ii (X := (r0, .deferred (some [])) :: (b2, .cells #[.int .i64 ((lackN w bs (k + 1) : Nat) : Int)] 3 (0, 0)) :: (b1, .cells #[.int .i64 (w : Int)] 3 (0, 0)) :: L) (by simp) (Le.refl _) ⟨rfl, hxs _ _ _⟩))
 rintro v M3 L3 hM3 ⟨X', rfl, hX⟩
 rcases hX with ⟨rfl, rfl⟩ | hX
 ·
  refine ⟨lrec l .ready none fn tm lps las lbd r0 :: (r0, .deferred (some [])) :: (b2, .cells #[.int .i64 ((lackN w bs (n * dpb w) : Nat) : Int)] 3 (0, 0)) :: (b1, .cells #[.int .i64 (w : Int)] 3 (0, 0)) :: L, by rw [hxs]; infer_instance, .ready, none, _, by simp, rfl, ?_⟩
  refine .block_normal <| .then_normal <| .s1 5 rfl <| zr <| tLd rfl rfl rfl <| asI rfl rfl <| zq <| x_ret (.retM1 (r := r0) (L1 := L) ii (rv1 rfl (rc_tmp (by rfl))) ii hM1 ⟨rfl, rfl⟩)
 exact hX.elim
theorem All7_spec {A : Option Addr} {n c w : Nat} (hN : isN n) (hw : isW w) {bs : List UInt8} (hb : Bytes M A n c bs) :
  Con Tryz.prog 244 #[.slice A n c, .int .i64 (w : Int)] G M L (fun v M' L' => L = L' ∧ ∃ A' c', v = .slice A' (shU n w + shV n w) c' ∧ Row M' 1 A' (shU n w + shV n w) c' (intsL (allD n w bs))) noPanic := by
 obtain ⟨h1, h2, h3, h4, h5, h6, h7, h8, h9, h10⟩ := shape_fact hN hw
 obtain ⟨k1, k2, k3, k4⟩ := lack_fits hN hw
 have hnb : n ≤ 32 := by rcases hN with rfl | rfl <;> omega
 have hlx := lackX_lt hN hw bs
 have hll := lackN_le w bs (n * dpb w)
 refine en Tryz.func244 rfl 36 rfl <| zr <| as0 rfl rfl <| zq <| zr <| mvS rfl rfl <| tLen rfl rfl <| mvI rfl rfl <| ec rfl rfl (Shape_spec hN hw) ?_
 rintro _ M1 _ hM1 ⟨rfl, rfl⟩
 refine mvU rfl rfl <| zx rfl rfl <| zx rfl rfl <| zx rfl rfl <| asI rfl rfl <| asI rfl rfl <| asI rfl rfl <| zq <| .s5 0 1 5 6 7 rfl rfl rfl rfl rfl <| zr2 <| mvI rfl rfl <| tl_y rfl (y_eql rfl rfl) <| zq <| x_false rfl (decide_eq_false (by omega)) <| x_skip <| .then_normal <| zr <| mvS rfl rfl <| mvI rfl rfl <| ec rfl rfl (Lack_spec hw (hb.mono hM1) (by omega)) ?_
 rintro _ M2 _ hM2 ⟨rfl, rfl⟩
 obtain ⟨y, hy⟩ : ∃ y : UInt64, y.toNat = lackN w bs (n * dpb w) := ⟨UInt64.ofNat (lackN w bs (n * dpb w)), by
  rw [UInt64.toNat_ofNat', Nat.mod_eq_of_lt]
  rw [← k2] at hll; omega⟩
 have hyx : (shl64 y (shS n w)).toNat = lackX n w bs := by
  rw [shl64, UInt64.toNat_ofNat', hy, ← lackX, Nat.mod_eq_of_lt (by omega)]
 refine tl_y rfl (y_convE (b := ((y.toNat : Nat) : Int)) rfl (by rw [hy, wrapU64, ← k2] at *; omega)) <| mvI rfl rfl <| tl_y rfl (y_shl64 rfl rfl) <| ec rfl rfl (Put_spec (shl64 y (shS n w)) 2) ?_
 rintro _ M3 _ hM3 ⟨rfl, hp⟩
 rw [if_pos (by omega)] at hp
 obtain ⟨A3, c3, rfl, hA3⟩ := hp
 rw [show (2 : Int).toNat = 2 from rfl, hyx, two_putB hlx] at hA3
 refine mvI rfl rfl <| ec rfl rfl (Of_spec hw (n := 2) hA3 (by omega)) ?_
 rintro _ M4 _ hM4 ⟨A4, c4, E4, rfl, hE4, rfl⟩
 refine .pubRow hE4 <| fun M5 hM5 hr5 => ?_
 have hd := hM1.trans (hM2.trans (hM3.trans (hM4.trans hM5)))
 have hc4 := hr5.le
 refine asS rfl rfl <| zq <| .s4 0 1 6 8 rfl rfl rfl rfl <| x_seq ?_
 have he : Le M5 M5 := Le.refl _
 refine x_draw 7 hmix rfl <| zp 0 rfl rfl (y_move (v := .slice _ _ _) rfl) <| zp 1 rfl rfl (y_move (v := .int _ _) rfl) <| zp 3 rfl rfl (y_move (v := .slice _ _ _) rfl) <| zp 4 rfl rfl (y_move (v := .int _ _) rfl) <| zp 5 rfl rfl (y_move (v := .int _ _) rfl) <| zp 6 rfl rfl (y_slice3 rfl rfl rfl (by omega) (by omega)) <| ze 2 rfl rfl <| e_call' rfl (Of_spec hw (hb.mono hd) (by omega)) ?_
 rintro _ M6 _ hM6 ⟨A6, c6, E6, rfl, hE6, rfl⟩
 refine ⟨⟨(by first | exact Le.refl _ | assumption), Keeps.mem⟩, ?_⟩
 refine zt 7 rfl rfl <| e_append (by decide) rfl rfl hE6 (.row (Row.slice (l := 0) (h := shV n w) (m := shV n w) (hr5.mono hM6) (by omega) (by omega) (by omega) (by omega))) (intsL_one' _ _ _) (by omega) (by omega) <| fun A9 c9 E9 hE9 => ?_
 rw [allD_vals n w _ bs rfl] at hE9
 refine .pubRow hE9 <| fun M7 hM7 hr7 => zp 8 rfl rfl (y_assign (v := .slice _ _ _) rfl) <| zz <| .then_normal <| .s1 4 rfl <| x_ret (ret1 rfl rfl (hd.trans (hM6.trans hM7)) ⟨rfl, A9, c9, by rw [k4]; rfl, by rw [k4]; exact hr7⟩)
end
def okO (o : OtsV) : Prop := otsE o.code = 0 ∧ otsV o.code = o
instance {o : OtsV} : Decidable (okO o) := inferInstanceAs (Decidable (_ ∧ _))
def okY (o : OtsV) (nl sl : Nat) : Prop := okO o ∧ nl = 16 ∧ (sl : Int) = o.n
instance {o : OtsV} {nl sl : Nat} : Decidable (okY o nl sl) := inferInstanceAs (Decidable (_ ∧ _))
structure OF (o : OtsV) (n w p : Nat) : Prop where
 ok : okO o
 c : okC o.kind o.n
 hn : o.n = (n : Int)
 hw : o.w = (w : Int)
 hp : o.p = (p : Int)
 isn : isN n
 isw : isW w
 up : p = shU n w + shV n w
 p1 : 26 ≤ p
 p2 : p ≤ 265
theorem okO_facts {o : OtsV} (h : okO o) : ∃ n w p, OF o n w p := by
 obtain ⟨k, hk, e1, e2, _⟩ := otsE_some h.1
 have h2 := h.2
 rw [e2] at h2
 obtain ⟨h3, h4, h5, w, hw, hw2⟩ := otsT_facts hk
 rw [h2] at h3 h4 h5
 refine ⟨szN (k / 4), 2 ^ (k % 4), shU (szN (k / 4)) (2 ^ (k % 4)) + shV (szN (k / 4)) (2 ^ (k % 4)), h, h3, by rw [← h2]; rfl, by rw [← h2]; rfl, by rw [← h2]; rfl, szN_is _, w_is _, rfl, ?_, ?_⟩
 ·
  have : o.p = ((shU (szN (k / 4)) (2 ^ (k % 4)) + shV (szN (k / 4)) (2 ^ (k % 4)) : Nat) : Int) := by rw [← h2]; rfl
  omega
 have : o.p = ((shU (szN (k / 4)) (2 ^ (k % 4)) + shV (szN (k / 4)) (2 ^ (k % 4)) : Nat) : Int) := by rw [← h2]; rfl
 omega
theorem OF.n32 {o : OtsV} {n w p : Nat} (h : OF o n w p) : 24 ≤ n ∧ n ≤ 32 := by rcases h.isn with rfl | rfl <;> omega
theorem OF.w2 {o : OtsV} {n w p : Nat} (h : OF o n w p) : 2 ≤ pw2 w ∧ pw2 w ≤ 256 := pw2_w h.isw
def hidB (o : OtsV) (name sec : List UInt8) (q d : Nat) : List UInt8 := cSum o.kind o.n (name ++ (putB q 4 ++ (putB d 2 ++ (255 :: sec))))
def topN (o : OtsV) : Int := ((pw2 o.w.toNat : Nat) : Int) - 1
def catR (rows : Nat → List UInt8) (k : Nat) : List UInt8 := ((List.range k).map rows).flatten
theorem catR_zero (rows : Nat → List UInt8) : catR rows 0 = [] := rfl
theorem catR_succ (rows : Nat → List UInt8) (k : Nat) : catR rows (k + 1) = catR rows k ++ rows k := by
 rw [catR, List.range_succ, List.map_append, List.flatten_append]; simp [catR]
theorem catR_le {rows : Nat → List UInt8} (h : ∀ i, (rows i).length ≤ 32) : ∀ k, (catR rows k).length ≤ k * 32
 | 0 => by rw [catR_zero]; exact Nat.zero_le _
 | k + 1 => by
  rw [catR_succ, List.length_append]
  have := catR_le h k
  have := h k
  omega
theorem catR_len {rows : Nat → List UInt8} {n : Nat} (k : Nat) (h : ∀ i, i < k → (rows i).length = n) : (catR rows k).length = k * n := by
 induction k with
 | zero => rw [catR_zero]; simp
 | succ k ih =>
  rw [catR_succ, List.length_append, ih (fun i hi => h i (by omega)), h k (by omega), Nat.succ_mul]
theorem catR_congr {r1 r2 : Nat → List UInt8} (k : Nat) (h : ∀ i, i < k → r1 i = r2 i) : catR r1 k = catR r2 k := by
 induction k with
 | zero => rfl
 | succ k ih => rw [catR_succ, catR_succ, ih (fun i hi => h i (by omega)), h k (by omega)]
theorem catR_row {rows : Nat → List UInt8} {n k : Nat} (h : ∀ i, i < k → (rows i).length = n) {i : Nat} (hi : i < k) : ((catR rows k).drop (i * n)).take n = rows i := by
 induction k with
 | zero => omega
 | succ k ih =>
  have hl := catR_len (rows := rows) (n := n) k (fun j hj => h j (by omega))
  rw [catR_succ]
  by_cases hik : i = k
  ·
   subst hik
   rw [← hl, List.drop_left, List.take_of_length_le (by rw [h i (by omega)]; exact Nat.le_refl _)]
  have hlt : i < k := by omega
  have h1 : i * n + n ≤ k * n := by
   have := Nat.mul_le_mul_right n (show i + 1 ≤ k from hlt)
   rwa [Nat.succ_mul] at this
  rw [List.drop_append_of_le_length (by omega), List.take_append_of_le_length (by rw [List.length_drop]; omega)]
  exact ih (fun j hj => h j (by omega)) hlt
theorem csumC_le (kind n : Int) (h : okC kind n) (text : List UInt8) : (csum kind n text).length ≤ 32 := by
 rw [csum_length h _ (sha_length _)]
 rcases h.2 with h | h <;> rw [h] <;> decide
theorem hidB_le (o : OtsV) (name sec : List UInt8) (q d : Nat) : (hidB o name sec q d).length ≤ 32 := by
 unfold hidB cSum
 split
 ·
  rename_i h; exact csumC_le _ _ h _
 simp
theorem hidB_len {o : OtsV} {n w p : Nat} (h : OF o n w p) (name sec : List UInt8) (q d : Nat) : (hidB o name sec q d).length = n := by
 rw [hidB, cSum, if_pos h.c, csum_length h.c _ (sha_length _), h.hn, Int.toNat_natCast]
theorem cPartO_le (kind n : Int) (name : List UInt8) (q d : Nat) (text : List UInt8) : (cPart kind n name q d text).length ≤ 32 := by
 unfold cPart
 split
 ·
  unfold cSum
  split
  ·
   rename_i h; exact csumC_le _ _ h _
  simp
 simp
theorem cPartO_len {o : OtsV} {n w p : Nat} (h : OF o n w p) {name : List UInt8} (hn : name.length = 16) (q d : Nat) (text : List UInt8) : (cPart o.kind o.n name q d text).length = n := by
 rw [cPart, if_pos hn, cSum, if_pos h.c, csum_length h.c _ (sha_length _), h.hn, Int.toNat_natCast]
theorem cUp_le (o : OtsV) (name : List UInt8) (q : Nat) (i f t : Int) (x : List UInt8) (hx : x.length ≤ 32) : (cUp o name q i f t x).length ≤ 32 := by
 unfold cUp
 split
 ·
  rename_i h
  have hc := (okR_facts h.1).1
  have := upC_length hc sha_length name q i.toNat f.toNat (x := x) (h.1.2.2.2.2.2) (t - f).toNat
  have hx2 := h.1.2.2.2.2.2
  omega
 simp
def keyR (o : OtsV) (name sec : List UInt8) (q i : Nat) : List UInt8 := cUp o name q (i : Int) 0 (topN o) (hidB o name sec q i)
def keyB (o : OtsV) (name sec : List UInt8) (q : Nat) : List UInt8 := cPart o.kind o.n name q 32896 (catR (keyR o name sec q) o.p.toNat)
def digO (o : OtsV) (name : List UInt8) (q : Nat) (salt text : List UInt8) : List Nat := allD o.n.toNat o.w.toNat (cPart o.kind o.n name q 33153 (salt ++ text))
def saltB (o : OtsV) (name sec : List UInt8) (q : Nat) : List UInt8 := hidB o name sec q 65533
def sigR (o : OtsV) (name sec : List UInt8) (q : Nat) (d : List Nat) (i : Nat) : List UInt8 := cUp o name q (i : Int) 0 ((d.getD i 0 : Nat) : Int) (hidB o name sec q i)
def sigB (o : OtsV) (name sec : List UInt8) (q : Nat) (text : List UInt8) : List UInt8 := putB o.code.toNat 4 ++ (saltB o name sec q ++ catR (sigR o name sec q (digO o name q (saltB o name sec q) text)) o.p.toNat)
def staR (o : OtsV) (name : List UInt8) (q : Nat) (d : List Nat) (y : List UInt8) (i : Nat) : List UInt8 := cUp o name q (i : Int) ((d.getD i 0 : Nat) : Int) (topN o) ((y.drop (i * o.n.toNat)).take o.n.toNat)
def staB (o : OtsV) (name : List UInt8) (q : Nat) (text sig : List UInt8) : List UInt8 :=
 cPart o.kind o.n name q 32896 (catR (staR o name q (digO o name q ((sig.drop 4).take o.n.toNat) text) (sig.drop (4 + o.n.toNat))) o.p.toNat)
def sizeN (o : OtsV) : Nat := 4 + o.n.toNat * (o.p.toNat + 1)
theorem keyR_le (o : OtsV) (name sec : List UInt8) (q i : Nat) : (keyR o name sec q i).length ≤ 32 := cUp_le _ _ _ _ _ _ _ (hidB_le _ _ _ _ _)
theorem sigR_le (o : OtsV) (name sec : List UInt8) (q : Nat) (d : List Nat) (i : Nat) : (sigR o name sec q d i).length ≤ 32 := cUp_le _ _ _ _ _ _ _ (hidB_le _ _ _ _ _)
theorem staR_le {o : OtsV} {n w p : Nat} (h : OF o n w p) (name : List UInt8) (q : Nat) (d : List Nat) (y : List UInt8) (i : Nat) : (staR o name q d y i).length ≤ 32 := by
 refine cUp_le _ _ _ _ _ _ _ ?_
 have := h.n32
 rw [List.length_take, h.hn, Int.toNat_natCast]; omega
structure ChG (M : Mem) : Prop where
 sha : ShaG M
 kec : KecG M
 set : SetG M
theorem ChG.mono {M M' : Mem} (h : ChG M) (hle : Le M M') : ChG M' := ⟨h.sha.mono hle, h.kec.mono hle, h.set.mono hle⟩
section
variable {G : World} {M : Mem} {L : Own}
end
abbrev seedC (NA : Option Addr) (nl nc : Nat) (SA : Option Addr) (sl sc : Nat) : List Value := [.slice NA nl nc, .slice SA sl sc]
section
variable {G : World} {M : Mem} {L : Own} {NA SA : Option Addr} {nl nc sl sc : Nat} {name sec : List UInt8}
theorem oMay_spec (hs : SetG M) (o : OtsV) :
  Con Tryz.prog 100 #[.agg (List.toArray o.cells), .agg (List.toArray (seedC NA nl nc SA sl sc))] G M L (fun v M' L' => L = L' ∧ v = .bool (decide (okY o nl sl))) noPanic := by
 refine en Tryz.func100 rfl 34 rfl <| zr <| tl_e rfl <| e_box rfl <| fun b1 => tl_e rfl <| e_box rfl <| fun b2 => as0 rfl rfl <| zq <| zr <| tFa rfl rfl <| tLd rfl rfl rfl <| ec rfl rfl (Ots_spec hs o.code) ?_
 rintro _ M1 _ hM1 ⟨rfl, rfl⟩
 refine mvU rfl rfl <| zx rfl rfl <| zx rfl rfl <| tl_e rfl <| e_alloc <| fun b3 => tl_e rfl <| e_st rfl rfl (by rfl) (by rfl) <| asI rfl rfl <| zq <| .s4 2 3 5 6 rfl rfl rfl rfl <| x_join (I := fun F D M2 L2 => ∃ b : Bool, (b = true ↔ okY o nl sl) ∧ D = [] ∧ M1 = M2 ∧ DropTo L2 L ∧ F = [(4, .bool b)]) ?_ (fun Jq2 => ?_)
 ·
  rintro _ _ _ L2 ⟨b, hb, rfl, rfl, hdr, rfl⟩
  refine x_ret (.dropTo L hdr (ret1 rfl rfl hM1 ⟨rfl, by rw [bool_iff hb]⟩))
 refine x_region <| mvI rfl rfl <| tl_y rfl (y_eql rfl rfl) <| mvB rfl rfl <| tl_cases (s := 15) rfl (fun hk1 => ?_) (fun hk1 => ?_)
 ·
  refine tLg rfl rfl rfl <| tLg rfl rfl rfl <| tl_y rfl (y_eqlS rfl rfl eqs103) <| tPt rfl rfl rfl <| mvB rfl rfl <| tl_cases (s := 20) rfl (fun hk2 => ?_) (fun hk2 => ?_)
  ·
   refine tFa rfl rfl <| tLd rfl rfl rfl <| tLen rfl rfl <| tl_y rfl (y_eql rfl rfl) <| tPt rfl rfl rfl <| mvB rfl rfl <| tl_cases (s := 26) rfl (fun hk3 => ?_) (fun hk3 => ?_)
   ·
    refine tFa rfl rfl <| tLd rfl rfl rfl <| tLen rfl rfl <| tFa rfl rfl <| tLd rfl rfl rfl <| tl_y rfl (y_eql rfl rfl) <| tPt rfl rfl rfl <| asB rfl rfl <| zq <| .sub (F' := [(4, _)]) (.cons rfl .nil) <| Jq2 _ _ _ _ ?_
    exact ⟨_, by
     constructor
     ·
      intro ht
      first | (cases ht; done) | (simp at ht; exact ⟨⟨hk1, ots_eq hk2⟩, by omega, by omega⟩)
     rintro ⟨⟨a1, a2⟩, a3, a4⟩
     first | exact absurd a1 hk1 | exact absurd (eq_ots a2) hk2 | (simp; omega) | omega, rfl, rfl, ii, rfl⟩
   refine tl_skip rfl <| tl_skip rfl <| tl_skip rfl <| tl_skip rfl <| tl_skip rfl <| tl_skip rfl <| tPf rfl rfl rfl <| asB rfl rfl <| zq <| .sub (F' := [(4, _)]) (.cons rfl .nil) <| Jq2 _ _ _ _ ?_
   exact ⟨_, by
    constructor
    ·
     intro ht
     first | (cases ht; done) | (simp at ht; exact ⟨⟨hk1, ots_eq hk2⟩, by omega, by omega⟩)
    rintro ⟨⟨a1, a2⟩, a3, a4⟩
    first | exact absurd a1 hk1 | exact absurd (eq_ots a2) hk2 | (simp; omega) | omega, rfl, rfl, ii, rfl⟩
  refine tl_skip rfl <| tl_skip rfl <| tl_skip rfl <| tl_skip rfl <| tPf rfl rfl rfl <| mvB rfl rfl <| tl_skip rfl <| tl_skip rfl <| tl_skip rfl <| tl_skip rfl <| tl_skip rfl <| tl_skip rfl <| tPf rfl rfl rfl <| asB rfl rfl <| zq <| .sub (F' := [(4, _)]) (.cons rfl .nil) <| Jq2 _ _ _ _ ?_
  exact ⟨_, by
   constructor
   ·
    intro ht
    first | (cases ht; done) | (simp at ht; exact ⟨⟨hk1, ots_eq hk2⟩, by omega, by omega⟩)
   rintro ⟨⟨a1, a2⟩, a3, a4⟩
   first | exact absurd a1 hk1 | exact absurd (eq_ots a2) hk2 | (simp; omega) | omega, rfl, rfl, ii, rfl⟩
 refine tl_skip rfl <| tl_skip rfl <| tl_skip rfl <| tPf rfl rfl rfl <| mvB rfl rfl <| tl_skip rfl <| tl_skip rfl <| tl_skip rfl <| tl_skip rfl <| tPf rfl rfl rfl <| mvB rfl rfl <| tl_skip rfl <| tl_skip rfl <| tl_skip rfl <| tl_skip rfl <| tl_skip rfl <| tl_skip rfl <| tPf rfl rfl rfl <| asB rfl rfl <| zq <| .sub (F' := [(4, _)]) (.cons rfl .nil) <| Jq2 _ _ _ _ ?_
 exact ⟨_, by
  constructor
  ·
   intro ht
   first | (cases ht; done) | (simp at ht; exact ⟨⟨hk1, ots_eq hk2⟩, by omega, by omega⟩)
  rintro ⟨⟨a1, a2⟩, a3, a4⟩
  first | exact absurd a1 hk1 | exact absurd (eq_ots a2) hk2 | (simp; omega) | omega, rfl, rfl, ii, rfl⟩
theorem otop_spec (o : OtsV) {n w p : Nat} (ho : OF o n w p) :
  Con Tryz.prog 222 #[.agg (List.toArray o.cells)] G M L (fun v M' L' => M = M' ∧ L = L' ∧ v = .int .i64 (topN o)) noPanic := by
 have hsh := shl1_w ho.isw
 have hw2 := ho.w2
 have ht : topN o = ((2 ^ w : Nat) : Int) - 1 := by rw [topN, ho.hw, Int.toNat_natCast, pw2]
 rw [pw2] at hw2
 refine en Tryz.func222 rfl 7 rfl <| zr <| tl_e rfl <| e_box rfl <| fun b1 => as0 rfl rfl <| zq <| zr <| tFa rfl rfl <| tl_y rfl (y_load (v := .int .i64 (w : Int)) rfl rfl (by rw [← ho.hw]; exact .own ii ii)) <| tl_y rfl (y_shl rfl rfl (by omega)) ?_
 rw [hsh]
 refine tl_y rfl (y_subI rfl rfl (by omega)) <| asI rfl rfl <| zq <| .s1 2 rfl <| x_ret (.dropTo L ii (ret1 rfl rfl (Le.refl _) ⟨rfl, rfl, by rw [ht]⟩))
theorem ohid_spec (hg : ChG M) (o : OtsV) (hname : Bytes M NA nl nc name) (hsec : Bytes M SA sl sc sec) (hnl : nl ≤ 1000000) (hsl : sl ≤ 1000000) (q : UInt32) (d : Nat) (hd : d ≤ 65535) :
  Con Tryz.prog 192 #[.agg (List.toArray o.cells), .agg (List.toArray (seedC NA nl nc SA sl sc)), .int .u32 (q.toNat : Int), .int .u16 (d : Int)] G M L (fun v M' L' => L = L' ∧ ∃ A m c, v = .slice A m c ∧ Bytes M' A m c (hidB o name sec q.toNat d)) noPanic := by
 have hn1 := hname.size
 have hn2 := hsec.size
 have hq := q.toNat_lt
 refine en Tryz.func192 rfl 26 rfl <| zr <| tl_e rfl <| e_box rfl <| fun b1 => tl_e rfl <| e_box rfl <| fun b2 => as0 rfl rfl <| zq <| x_seq ?_
 have he : Le M M := Le.refl _
 refine x_draw 18 hmix rfl <| zp 0 rfl rfl (y_fieldAddr rfl) <| zy 1 rfl rfl (y_ld rfl rfl) <| zp 2 rfl rfl (y_fieldAddr rfl) <| zy 3 rfl rfl (y_ld rfl rfl) <| zp 4 rfl rfl (y_fieldAddr rfl) <| zy 5 rfl rfl (y_ld rfl rfl) <| zp 6 rfl rfl (y_move (v := .int _ _) rfl) <| zp 7 rfl rfl (y_convN64 rfl (by omega)) <| zp 9 rfl rfl (y_move (v := .int _ _) rfl) ?_
 refine zp 10 rfl rfl (y_convN64 rfl (by omega)) <| zp 13 rfl rfl (y_fieldAddr rfl) <| zy 14 rfl rfl (y_ld rfl rfl) <| to_two 8 12 (by kernel_rfl) ?_ ?_
 ·
  refine two_e 8 rfl rfl <| e_call' rfl (PutV_spec q.toNat 4 (by omega) (by omega)) ?_
  rintro _ M2 _ hM2 ⟨rfl, A2, c2, rfl, hA2⟩
  replace he := he.trans hM2
  refine ⟨⟨(by first | exact Le.refl _ | assumption), Keeps.mem⟩, ?_⟩
  refine to_two 11 12 (by kernel_rfl) ?_ ?_
  ·
   refine two_e 11 rfl rfl <| e_call' rfl (PutV_spec d 2 (by omega) (by omega)) ?_
   rintro _ M3 _ hM3 ⟨rfl, A3, c3, rfl, hA3⟩
   replace he := he.trans hM3
   refine ⟨⟨(by first | exact Le.refl _ | assumption), Keeps.mem⟩, ?_⟩
   refine ze 12 rfl rfl <| e_buildSlice rfl (by decide) <| fun b7 => ⟨⟨he, Keeps.mem⟩, ?_⟩
   refine .pub b7 ii <| fun M4 hM4 hb7 => ?_
   replace he := he.trans hM4
   refine ze 15 rfl rfl <| e_buildSlice rfl (by decide) <| fun b8 => ⟨⟨he, Keeps.mem⟩, ?_⟩
   refine .pub b8 ii <| fun M5 hM5 hb8 => ?_
   replace he := he.trans hM5
   have hA4 : Bytes M4 (some ⟨b7, 0, none⟩) 1 1 [255] := Row.whole hb7 rfl (by omega)
   have hA2' : Bytes M5 A2 4 c2 (putB q.toNat 4) := hA2.mono (by first | exact hM3.trans (hM4.trans hM5) | exact hM4.trans (hM3.trans hM5) | exact hM3.trans hM5)
   have hA3' : Bytes M5 A3 2 c3 (putB d 2) := hA3.mono (by first | exact hM4.trans hM5 | exact hM5 | exact hM2.trans (hM4.trans hM5) | exact hM2.trans hM5)
   have hA4' : Bytes M5 (some ⟨b7, 0, none⟩) 1 1 [255] := hA4.mono (by first | exact hM5 | exact hM3.trans hM5 | exact hM2.trans (hM3.trans hM5))
   have hfl : [name, putB q.toNat 4, putB d 2, [255], sec].flatten = name ++ (putB q.toNat 4 ++ (putB d 2 ++ (255 :: sec))) := by simp
   have hfll : (name ++ (putB q.toNat 4 ++ (putB d 2 ++ (255 :: sec)))).length = nl + 7 + sl := by rw [List.length_append, List.length_append, List.length_append, putB_length, putB_length, List.length_cons]; omega
   refine ze 16 rfl rfl <| e_call' rfl (Sum_spec (hg.sha.mono he) (hg.kec.mono he) o.kind o.n (Row.whole hb8 rfl (by omega)) (.cons (hname.mono he) (.cons hA2' (.cons hA3' (.cons hA4' (.cons (hsec.mono he) .nil))))) (by rw [hfl, hfll]; omega)) ?_
   rintro _ M6 _ hM6 ⟨rfl, A6, m6, c6, rfl, hA6⟩
   rw [hfl] at hA6
   replace he := he.trans hM6
   refine ⟨⟨he, Keeps.mem⟩, ?_⟩
   refine zp 17 rfl rfl (y_assign (v := .slice _ _ _) rfl) <| zz <| .then_normal <| .s1 8 rfl <| x_ret (.dropTo L ii (ret1 rfl rfl he ⟨rfl, _, _, _, rfl, hA6⟩))
  refine two_e 12 rfl rfl <| e_buildSlice rfl (by decide) <| fun b7 => ⟨⟨he, Keeps.mem⟩, ?_⟩
  refine .pub b7 ii <| fun M4 hM4 hb7 => ?_
  replace he := he.trans hM4
  refine ze 11 rfl rfl <| e_call' rfl (PutV_spec d 2 (by omega) (by omega)) ?_
  rintro _ M3 _ hM3 ⟨rfl, A3, c3, rfl, hA3⟩
  replace he := he.trans hM3
  refine ⟨⟨(by first | exact Le.refl _ | assumption), Keeps.mem⟩, ?_⟩
  refine ze 15 rfl rfl <| e_buildSlice rfl (by decide) <| fun b8 => ⟨⟨he, Keeps.mem⟩, ?_⟩
  refine .pub b8 ii <| fun M5 hM5 hb8 => ?_
  replace he := he.trans hM5
  have hA4 : Bytes M4 (some ⟨b7, 0, none⟩) 1 1 [255] := Row.whole hb7 rfl (by omega)
  have hA2' : Bytes M5 A2 4 c2 (putB q.toNat 4) := hA2.mono (by first | exact hM3.trans (hM4.trans hM5) | exact hM4.trans (hM3.trans hM5) | exact hM3.trans hM5)
  have hA3' : Bytes M5 A3 2 c3 (putB d 2) := hA3.mono (by first | exact hM4.trans hM5 | exact hM5 | exact hM2.trans (hM4.trans hM5) | exact hM2.trans hM5)
  have hA4' : Bytes M5 (some ⟨b7, 0, none⟩) 1 1 [255] := hA4.mono (by first | exact hM5 | exact hM3.trans hM5 | exact hM2.trans (hM3.trans hM5))
  have hfl : [name, putB q.toNat 4, putB d 2, [255], sec].flatten = name ++ (putB q.toNat 4 ++ (putB d 2 ++ (255 :: sec))) := by simp
  have hfll : (name ++ (putB q.toNat 4 ++ (putB d 2 ++ (255 :: sec)))).length = nl + 7 + sl := by rw [List.length_append, List.length_append, List.length_append, putB_length, putB_length, List.length_cons]; omega
  refine ze 16 rfl rfl <| e_call' rfl (Sum_spec (hg.sha.mono he) (hg.kec.mono he) o.kind o.n (Row.whole hb8 rfl (by omega)) (.cons (hname.mono he) (.cons hA2' (.cons hA3' (.cons hA4' (.cons (hsec.mono he) .nil))))) (by rw [hfl, hfll]; omega)) ?_
  rintro _ M6 _ hM6 ⟨rfl, A6, m6, c6, rfl, hA6⟩
  rw [hfl] at hA6
  replace he := he.trans hM6
  refine ⟨⟨he, Keeps.mem⟩, ?_⟩
  refine zp 17 rfl rfl (y_assign (v := .slice _ _ _) rfl) <| zz <| .then_normal <| .s1 8 rfl <| x_ret (.dropTo L ii (ret1 rfl rfl he ⟨rfl, _, _, _, rfl, hA6⟩))
 refine two_e 12 rfl rfl <| e_buildSlice rfl (by decide) <| fun b7 => ⟨⟨he, Keeps.mem⟩, ?_⟩
 refine .pub b7 ii <| fun M4 hM4 hb7 => ?_
 replace he := he.trans hM4
 refine ze 8 rfl rfl <| e_call' rfl (PutV_spec q.toNat 4 (by omega) (by omega)) ?_
 rintro _ M2 _ hM2 ⟨rfl, A2, c2, rfl, hA2⟩
 replace he := he.trans hM2
 refine ⟨⟨(by first | exact Le.refl _ | assumption), Keeps.mem⟩, ?_⟩
 refine ze 11 rfl rfl <| e_call' rfl (PutV_spec d 2 (by omega) (by omega)) ?_
 rintro _ M3 _ hM3 ⟨rfl, A3, c3, rfl, hA3⟩
 replace he := he.trans hM3
 refine ⟨⟨(by first | exact Le.refl _ | assumption), Keeps.mem⟩, ?_⟩
 refine ze 15 rfl rfl <| e_buildSlice rfl (by decide) <| fun b8 => ⟨⟨he, Keeps.mem⟩, ?_⟩
 refine .pub b8 ii <| fun M5 hM5 hb8 => ?_
 replace he := he.trans hM5
 have hA4 : Bytes M4 (some ⟨b7, 0, none⟩) 1 1 [255] := Row.whole hb7 rfl (by omega)
 have hA2' : Bytes M5 A2 4 c2 (putB q.toNat 4) := hA2.mono (by first | exact hM3.trans (hM4.trans hM5) | exact hM4.trans (hM3.trans hM5) | exact hM3.trans hM5)
 have hA3' : Bytes M5 A3 2 c3 (putB d 2) := hA3.mono (by first | exact hM4.trans hM5 | exact hM5 | exact hM2.trans (hM4.trans hM5) | exact hM2.trans hM5)
 have hA4' : Bytes M5 (some ⟨b7, 0, none⟩) 1 1 [255] := hA4.mono (by first | exact hM5 | exact hM3.trans hM5 | exact hM2.trans (hM3.trans hM5))
 have hfl : [name, putB q.toNat 4, putB d 2, [255], sec].flatten = name ++ (putB q.toNat 4 ++ (putB d 2 ++ (255 :: sec))) := by simp
 have hfll : (name ++ (putB q.toNat 4 ++ (putB d 2 ++ (255 :: sec)))).length = nl + 7 + sl := by rw [List.length_append, List.length_append, List.length_append, putB_length, putB_length, List.length_cons]; omega
 refine ze 16 rfl rfl <| e_call' rfl (Sum_spec (hg.sha.mono he) (hg.kec.mono he) o.kind o.n (Row.whole hb8 rfl (by omega)) (.cons (hname.mono he) (.cons hA2' (.cons hA3' (.cons hA4' (.cons (hsec.mono he) .nil))))) (by rw [hfl, hfll]; omega)) ?_
 rintro _ M6 _ hM6 ⟨rfl, A6, m6, c6, rfl, hA6⟩
 rw [hfl] at hA6
 replace he := he.trans hM6
 refine ⟨⟨he, Keeps.mem⟩, ?_⟩
 refine zp 17 rfl rfl (y_assign (v := .slice _ _ _) rfl) <| zz <| .then_normal <| .s1 8 rfl <| x_ret (.dropTo L ii (ret1 rfl rfl he ⟨rfl, _, _, _, rfl, hA6⟩))
end
section
variable {G : World} {M : Mem} {L : Own} {NA SA : Option Addr} {nl nc sl sc : Nat} {name sec : List UInt8}
theorem oSecret_spec (hg : ChG M) (o : OtsV) (hname : Bytes M NA nl nc name) (hsec : Bytes M SA sl sc sec) (q : UInt32) (d : Nat) (hd : d ≤ 65535) :
  Con Tryz.prog 147 #[.agg (List.toArray o.cells), .agg (List.toArray (seedC NA nl nc SA sl sc)), .int .u32 (q.toNat : Int), .int .u16 (d : Int)] G M L (fun v M' L' => L = L' ∧ ∃ A m c, v = .slice A m c ∧ Bytes M' A m c (if okY o nl sl then hidB o name sec q.toNat d else [])) noPanic := by
 refine en Tryz.func147 rfl 18 rfl <| zr <| tl_e rfl <| e_box rfl <| fun b1 => tl_e rfl <| e_box rfl <| fun b2 => as0 rfl rfl <| zq <| zr2 <| tLg rfl rfl rfl <| tLg rfl rfl rfl <| ec rfl rfl (oMay_spec hg.set o) ?_
 rintro _ M1 _ hM1 ⟨rfl, rfl⟩
 refine tl_y rfl (y_notd rfl) <| zq <| .s5 2 3 4 5 12 rfl rfl rfl rfl rfl <| x_cond rfl (fun hc1 => ?_) (fun hc1 => ?_)
 ·
  refine zr <| as0 rfl rfl <| zq <| .s1 8 rfl <| x_ret (.then_ret (.dropTo L ii (ret1 rfl rfl hM1 ⟨rfl, _, _, _, rfl, by rw [if_neg hc1]; exact Row.nil _ _⟩)))
 have hok : okY o nl sl := Classical.not_not.1 hc1
 obtain ⟨n, w, p, ho⟩ := okO_facts hok.1
 have hn32 := ho.n32
 have hn := ho.hn
 have hsl := hok.2.2
 have hnl := hok.2.1
 refine x_skip <| .then_normal <| zr <| tLg rfl rfl rfl <| tLg rfl rfl rfl <| mvI rfl rfl <| mvI rfl rfl <| ec rfl rfl (ohid_spec (hg.mono hM1) o (hname.mono hM1) (hsec.mono hM1) (by omega) (by omega) q d hd) ?_
 rintro _ M2 _ hM2 ⟨rfl, A2, m2, c2, rfl, hA2⟩
 refine asS rfl rfl <| zq <| .s1 8 rfl <| x_ret (.dropTo L ii (ret1 rfl rfl (hM1.trans hM2) ⟨rfl, _, _, _, rfl, by rw [if_pos hok]; exact hA2⟩))
theorem oall_spec (o : OtsV) {p : Nat} (hp : o.p = (p : Int)) (hp5 : p ≤ 1000) {fid : FuncId} {cap : List Value} {rows : Nat → List UInt8} (hl : ∀ i, (rows i).length ≤ 32)
  (hdo : ∀ (i : Nat) (M1 : Mem) (X : Own), i < p → Le M M1 → (∀ e ∈ L, e ∈ X) → Con Tryz.prog fid (([] : List Value) ++ [Value.int .i64 (i : Int)] ++ cap).toArray G M1 X (fun v M' L' => X = L' ∧ ∃ A m c, v = .slice A m c ∧ Bytes M' A m c (rows i)) noPanic) :
  Con Tryz.prog 199 #[.agg (List.toArray o.cells), .func (.func fid) #[] cap.toArray] G M L (fun v M' L' => L = L' ∧ ∃ A m c, v = .slice A m c ∧ Bytes M' A m c (catR rows p)) noPanic := by
 refine en Tryz.func199 rfl 19 rfl <| zr <| tl_e rfl <| e_box rfl <| fun b1 => as0 rfl rfl <| zq <| zr <| as0 rfl rfl <| zq <| zr2 <| tFa rfl rfl <| tl_y rfl (y_load (v := .int .i64 (p : Int)) rfl rfl (by rw [← hp]; exact .own ii ii)) <| mv0 rfl rfl <| zq <| .s4 1 5 8 9 rfl rfl rfl rfl <| x_block ?_
 refine x_loop (I := fun m' F D M1 L1 => ∃ (i : Nat) (A : Option Addr) (m c : Nat) (E : Own), m' = p - i ∧ i ≤ p ∧ Le M M1 ∧ m = (catR rows i).length ∧ OwnRow 5 1 A m c ((catR rows i).map bv) E ∧ D = [] ∧ L1 = E ++ ((b1, .cells (List.toArray o.cells) 103 (0, 0)) :: L) ∧ F = [(1, .func (.func fid) #[] cap.toArray), (5, .slice A m c), (8, .int .i64 (p : Int)), (9, .int .i64 (i : Int))]) (p) (F0 := [(1, _), (5, _), (8, _), (9, _)]) ?_ (cs4 rfl rfl rfl rfl) ?_
 ·
  exact ⟨0, none, 0, 0, [], rfl, by omega, Le.refl _, rfl, .nil, rfl, rfl, rfl⟩
 rintro m _ _ M1 _ ⟨i, A, m, c, E, rfl, hi, hM1, hm, hE, rfl, rfl, rfl⟩
 refine zr <| tl_y rfl (y_lss rfl rfl) <| zq <| x_seq <| x_cond rfl (fun hc1 => ?_) (fun hc1 => ?_)
 ·
  have hip : i < p := by omega
  have hle := catR_le hl i
  have hli := hl i
  refine x_skip <| .then_normal <| x_seq <| x_block <| zr <| mvI rfl rfl <| asI rfl rfl <| zq <| x_region <| mvS rfl rfl <| mvF rfl rfl <| mvI rfl rfl <| tl_e rfl <| e_callv rfl rfl (hdo i M1 _ hip hM1 Keeps.mem) (fun _ _ _ _ h => h.elim) ?_
  rintro _ M2 _ hM2 ⟨rfl, A2, m2, c2, rfl, hA2⟩
  have hm2 := hA2.size
  refine tl_e rfl <| e_append (by decide) rfl rfl hE (.row hA2) (all_one_bv _) (by omega) (by omega) <| fun A7 c7 E7 hE7 => ?_
  rw [← List.map_append, ← catR_succ] at hE7
  refine asS rfl rfl <| tl_nil <| .block_normal <| .then_normal <| .s4 1 5 8 9 rfl rfl rfl rfl <| x_region <| tl_y rfl (y_addI rfl rfl (by omega)) <| mvI rfl rfl <| tl_nil <| .loop_next (m' := p - (i + 1)) (by omega) (F' := [(1, _), (5, _), (8, _), (9, _)]) (cs4 rfl rfl rfl rfl) ?_
  exact ⟨i + 1, A7, m + m2, c7, E7, rfl, by omega, hM1.trans hM2, by rw [catR_succ, List.length_append]; omega, hE7, rfl, rfl, rfl⟩
 obtain rfl : i = p := by omega
 refine .pubRow hE <| fun M4 hM4 hrow => x_exit <| .then_exit <| .loop_exit <| .block_exit <| .then_normal <| .s1 5 rfl <| zr <| mvS rfl rfl <| asS rfl rfl <| zq <| x_ret (.dropTo L ii (ret1 rfl rfl (hM1.trans hM4) ⟨rfl, _, _, _, rfl, hrow⟩))
theorem oKey1_spec (hg : ChG M) (o : OtsV) {n w p : Nat} (ho : OF o n w p) (hname : Bytes M NA nl nc name) (hsec : Bytes M SA sl sc sec) (hnl : nl ≤ 1000000) (hsl : sl ≤ 1000000) (q : UInt32) (i : Nat) (hi : i ≤ 65535) {bo bs bq : Nat}
  [i1 : Has L bo (.cells (List.toArray o.cells) 103 (0, 0))] [i2 : Has L bs (.cells (List.toArray (seedC NA nl nc SA sl sc)) 33 (0, 0))] [i3 : Has L bq (.cells #[.int .u32 (q.toNat : Int)] 61 (0, 0))] :
  Con Tryz.prog 243 #[.int .i64 (i : Int), .pointer (some ⟨bo, 0, none⟩), .pointer (some ⟨bs, 0, none⟩), .pointer (some ⟨bq, 0, none⟩)] G M L (fun v M' L' => L = L' ∧ ∃ A m c, v = .slice A m c ∧ Bytes M' A m c (keyR o name sec q.toNat i)) noPanic := by
 refine en Tryz.func243 rfl 20 rfl <| zr <| as0 rfl rfl <| zq <| x_seq ?_
 have he : Le M M := Le.refl _
 refine x_draw 15 hmix rfl <| zy 0 rfl rfl (y_lg rfl rfl) <| zp 1 rfl rfl (y_fieldAddr rfl) <| zy 2 rfl rfl (y_ld rfl rfl) <| zy 3 rfl rfl (y_ld rfl rfl) <| zp 4 rfl rfl (y_move (v := .int _ _) rfl) <| zy 5 rfl rfl (y_lg rfl rfl) <| zy 7 rfl rfl (y_lg rfl rfl) <| zy 8 rfl rfl (y_lg rfl rfl) <| zy 9 rfl rfl (y_ld rfl rfl) ?_
 refine zp 10 rfl rfl (y_move (v := .int _ _) rfl) <| zp 11 rfl rfl (y_convE (b := (i : Int)) rfl (by rw [wrapU16]; omega)) <| ze 6 rfl rfl <| e_call' rfl (otop_spec o ho) ?_
 rintro _ _ _ _ ⟨rfl, rfl, rfl⟩
 refine ⟨⟨(by first | exact Le.refl _ | assumption), Keeps.mem⟩, ?_⟩
 refine ze 12 rfl rfl <| e_call' rfl (ohid_spec hg o hname hsec hnl hsl q i hi) ?_
 rintro _ M2 _ hM2 ⟨rfl, A2, m2, c2, rfl, hA2⟩
 replace he := he.trans hM2
 refine ⟨⟨(by first | exact Le.refl _ | assumption), Keeps.mem⟩, ?_⟩
 refine ze 13 rfl rfl <| e_call' rfl (Up_spec' (hg.mono he).sha (hg.mono he).kec (hg.mono he).set o (hname.mono he) hA2 q i 0 (topN o)) ?_
 rintro _ M3 _ hM3 ⟨rfl, A3, m3, c3, rfl, hA3⟩
 replace he := he.trans hM3
 refine ⟨⟨(by first | exact Le.refl _ | assumption), Keeps.mem⟩, ?_⟩
 refine zp 14 rfl rfl (y_assign (v := .slice _ _ _) rfl) <| zz <| .then_normal <| .s1 5 rfl <| x_ret (ret1 rfl rfl he ⟨rfl, _, _, _, rfl, hA3⟩)
theorem oKey_spec (hg : ChG M) (o : OtsV) (hname : Bytes M NA nl nc name) (hsec : Bytes M SA sl sc sec) (q : UInt32) :
  Con Tryz.prog 197 #[.agg (List.toArray o.cells), .agg (List.toArray (seedC NA nl nc SA sl sc)), .int .u32 (q.toNat : Int)] G M L (fun v M' L' => L = L' ∧ ∃ A m c, v = .slice A m c ∧ Bytes M' A m c (if okY o nl sl then keyB o name sec q.toNat else [])) noPanic := by
 refine en Tryz.func197 rfl 25 rfl <| zr <| tl_e rfl <| e_box rfl <| fun b1 => tl_e rfl <| e_box rfl <| fun b2 => tl_e rfl <| e_box rfl <| fun b3 => as0 rfl rfl <| zq <| .s3 3 4 5 rfl rfl rfl <| zr2 <| tLg rfl rfl rfl <| tLg rfl rfl rfl <| ec rfl rfl (oMay_spec hg.set o) ?_
 rintro _ M1 _ hM1 ⟨rfl, rfl⟩
 refine tl_y rfl (y_notd rfl) <| zq <| x_cond rfl (fun hc1 => ?_) (fun hc1 => ?_)
 ·
  refine zr <| as0 rfl rfl <| zq <| .s1 6 rfl <| x_ret (.then_ret (.dropTo L ii (ret1 rfl rfl hM1 ⟨rfl, _, _, _, rfl, by rw [if_neg hc1]; exact Row.nil _ _⟩)))
 have hok : okY o nl sl := Classical.not_not.1 hc1
 obtain ⟨n, w, p, ho⟩ := okO_facts hok.1
 have hn32 := ho.n32
 have hn := ho.hn
 have hsl := hok.2.2
 have hnl := hok.2.1
 have hp2 := ho.p2
 refine x_skip <| .then_normal <| .s3 3 4 5 rfl rfl rfl <| zr <| tLg rfl rfl rfl <| tl_y rfl (y_makeFunc rfl rfl) <| tl_e rfl (e_call' rfl (oall_spec o ho.hp (by omega) (rows := keyR o name sec q.toNat) (keyR_le o name sec q.toNat) (fun i M2 X hi hM2 hX => by
  haveI i1 : Has X b1 (.cells (List.toArray o.cells) 103 (0, 0)) := ⟨hX _ (Has.mem)⟩
  haveI i2 : Has X b2 (.cells (List.toArray (seedC NA nl nc SA sl sc)) 33 (0, 0)) := ⟨hX _ (Has.mem)⟩
  haveI i3 : Has X b3 (.cells #[.int .u32 (q.toNat : Int)] 61 (0, 0)) := ⟨hX _ (Has.mem)⟩
  exact oKey1_spec ((hg.mono hM1).mono hM2) o ho ((hname.mono hM1).mono hM2) ((hsec.mono hM1).mono hM2) (by omega) (by omega) q i (by omega))) ?_)
 rintro _ M2 _ hM2 ⟨rfl, A2, m2, c2, rfl, hA2⟩
 have hd := hM1.trans hM2
 have hm2 := hA2.size
 have hle := catR_le (keyR_le o name sec q.toNat) p
 refine asS rfl rfl <| zq <| zr <| tFa rfl rfl <| tLd rfl rfl rfl <| tFa rfl rfl <| tLd rfl rfl rfl <| tFa rfl rfl <| tLd rfl rfl rfl <| tLd rfl rfl rfl <| mvS rfl rfl <| tl_e rfl <| e_buildSlice rfl (by decide) <| fun b7 => .pub b7 ii <| fun M3 hM3 hb7 => ?_
 replace hd := hd.trans hM3
 refine ec rfl rfl (Part_spec (hg.mono hd).sha (hg.mono hd).kec o.kind o.n (hname.mono hd) q 32896 (by omega) (Row.whole hb7 rfl (by omega)) (.cons (hA2.mono hM3) .nil) (by simp only [List.flatten_cons, List.flatten_nil, List.length_append, List.length_nil]; omega)) ?_
 rintro _ M4 _ hM4 ⟨rfl, A4, m4, c4, rfl, hA4⟩
 rw [show [catR (keyR o name sec q.toNat) p].flatten = catR (keyR o name sec q.toNat) p by simp] at hA4
 refine asS rfl rfl <| zq <| .s1 6 rfl <| x_ret (.dropTo L ii (ret1 rfl rfl (hd.trans hM4) ⟨rfl, _, _, _, rfl, by rw [if_pos hok, keyB, ho.hp, Int.toNat_natCast]; exact hA4⟩))
end
theorem digO_get {o : OtsV} {n w p : Nat} (ho : OF o n w p) (name : List UInt8) (q : Nat) (salt text : List UInt8) : (digO o name q salt text).length = p ∧ ∀ d ∈ digO o name q salt text, d < pw2 w := by
 rw [digO, ho.hn, ho.hw, Int.toNat_natCast, Int.toNat_natCast]
 exact ⟨by rw [allD_len ho.isn ho.isw, ho.up], allD_lt _⟩
theorem intsL_at {xs : List Nat} {i : Nat} (h : i < xs.length) : (intsL xs)[i]? = some (.int .i64 ((xs.getD i 0 : Nat) : Int)) := by
 rw [intsL, List.getElem?_map, List.getD_eq_getElem?_getD, List.getElem?_eq_getElem h]; rfl
section
variable {G : World} {M : Mem} {L : Own} {NA SA TA YA : Option Addr} {nl nc sl sc tl tc yl yc : Nat} {name sec text y : List UInt8}
theorem osum_spec (hg : ChG M) (o : OtsV) {n w p : Nat} (ho : OF o n w p) (hname : Bytes M NA nl nc name) (hn16 : nl = 16) (q : UInt32) (hsalt : Bytes M SA sl sc sec) (htext : Bytes M TA tl tc text) (hsl : sl ≤ 1000000000) (htl : tl ≤ 1000000000) :
  Con Tryz.prog 198 #[.agg (List.toArray o.cells), .slice NA nl nc, .int .u32 (q.toNat : Int), .slice SA sl sc, .slice TA tl tc] G M L (fun v M' L' => L = L' ∧ ∃ A c, v = .slice A p c ∧ Row M' 1 A p c (intsL (digO o name q.toNat sec text))) noPanic := by
 have h1 := hname.size
 have h2 := hsalt.size
 have h3 := htext.size
 refine en Tryz.func198 rfl 24 rfl <| zr <| tl_e rfl <| e_box rfl <| fun b1 => as0 rfl rfl <| zq <| x_seq ?_
 have he : Le M M := Le.refl _
 refine x_draw 14 hmix rfl <| zp 0 rfl rfl (y_fieldAddr rfl) <| zy 1 rfl rfl (y_ld rfl rfl) <| zp 2 rfl rfl (y_fieldAddr rfl) <| zy 3 rfl rfl (y_ld rfl rfl) <| zp 4 rfl rfl (y_move (v := .slice _ _ _) rfl) <| zp 5 rfl rfl (y_move (v := .int _ _) rfl) <| zp 6 rfl rfl (y_move (v := .slice _ _ _) rfl) <| zp 7 rfl rfl (y_move (v := .slice _ _ _) rfl) <| zp 10 rfl rfl (y_fieldAddr rfl) ?_
 refine zy 11 rfl rfl (y_load (v := .int .i64 (w : Int)) rfl rfl (by rw [← ho.hw]; exact .own ii ii)) <| ze 8 rfl rfl <| e_buildSlice rfl (by decide) <| fun b7 => ⟨⟨he, Keeps.mem⟩, ?_⟩
 refine .pub b7 ii <| fun M3 hM3 hb7 => ?_
 replace he := he.trans hM3
 refine ze 9 rfl rfl <| e_call' rfl (Part_spec (hg.mono he).sha (hg.mono he).kec o.kind o.n (hname.mono he) q 33153 (by omega) (Row.whole hb7 rfl (by omega)) (.cons (hsalt.mono he) (.cons (htext.mono he) .nil)) (by simp only [List.flatten_cons, List.flatten_nil, List.length_append, List.length_nil]; omega)) ?_
 rintro _ M4 _ hM4 ⟨rfl, A4, m4, c4, rfl, hA4⟩
 rw [show [sec, text].flatten = sec ++ text by simp] at hA4
 replace he := he.trans hM4
 have hm4 := hA4.size
 rw [cPartO_len ho (by omega)] at hm4
 subst hm4
 refine ⟨⟨(by first | exact Le.refl _ | assumption), Keeps.mem⟩, ?_⟩
 refine ze 12 rfl rfl <| e_call' rfl (All7_spec ho.isn ho.isw hA4) ?_
 rintro _ M5 _ hM5 ⟨rfl, A5, c5, rfl, hr5⟩
 replace he := he.trans hM5
 have hr5' : Row M5 1 A5 p c5 (intsL (digO o name q.toNat sec text)) := by
  rw [digO, ho.hn, ho.hw, Int.toNat_natCast, Int.toNat_natCast, ho.up]
  rw [ho.hn] at hr5
  exact hr5
 rw [← ho.up]
 refine ⟨⟨(by first | exact Le.refl _ | assumption), Keeps.mem⟩, ?_⟩
 refine zp 13 rfl rfl (y_assign (v := .slice _ _ _) rfl) <| zz <| .then_normal <| .s1 10 rfl <| x_ret (.dropTo L ii (ret1 rfl rfl he ⟨rfl, A5, c5, rfl, hr5'⟩))
theorem oSign1_spec (hg : ChG M) (o : OtsV) {n w p : Nat} (ho : OF o n w p) (hname : Bytes M NA nl nc name) (hsec : Bytes M SA sl sc sec) (hnl : nl ≤ 1000000) (hsl : sl ≤ 1000000) (q : UInt32) {DA : Option Addr} {dc : Nat} {d : List Nat} (hd : Row M 1 DA p dc (intsL d)) (i : Nat) (hi : i < p) {bo bs bq bd : Nat}
  [i1 : Has L bo (.cells (List.toArray o.cells) 103 (0, 0))] [i2 : Has L bs (.cells (List.toArray (seedC NA nl nc SA sl sc)) 33 (0, 0))] [i3 : Has L bq (.cells #[.int .u32 (q.toNat : Int)] 61 (0, 0))] [i4 : Has L bd (.cells #[.slice DA p dc] 68 (0, 0))] :
  Con Tryz.prog 200 #[.int .i64 (i : Int), .pointer (some ⟨bo, 0, none⟩), .pointer (some ⟨bs, 0, none⟩), .pointer (some ⟨bq, 0, none⟩), .pointer (some ⟨bd, 0, none⟩)] G M L (fun v M' L' => L = L' ∧ ∃ A m c, v = .slice A m c ∧ Bytes M' A m c (sigR o name sec q.toNat d i)) noPanic := by
 have hp2 := ho.p2
 have hdl : d.length = p := by have := hd.len; simpa [intsL] using this
 obtain ⟨g, oo, rfl, hcell⟩ := hd.addr (by omega)
 refine en Tryz.func200 rfl 23 rfl <| zr <| as0 rfl rfl <| zq <| x_seq ?_
 have he : Le M M := Le.refl _
 refine x_draw 17 hmix rfl <| zy 0 rfl rfl (y_lg rfl rfl) <| zp 1 rfl rfl (y_fieldAddr rfl) <| zy 2 rfl rfl (y_ld rfl rfl) <| zy 3 rfl rfl (y_ld rfl rfl) <| zp 4 rfl rfl (y_move (v := .int _ _) rfl) <| zy 5 rfl rfl (y_ld rfl rfl) <| zp 6 rfl rfl (y_move (v := .int _ _) rfl) <| zp 7 rfl rfl (y_indexAddrK i rfl rfl (by omega)) <| zy 8 rfl rfl (y_load rfl rfl (.at_ (hcell _ i _ (intsL_at (by omega))) (by omega))) ?_
 refine zy 9 rfl rfl (y_lg rfl rfl) <| zy 10 rfl rfl (y_lg rfl rfl) <| zy 11 rfl rfl (y_ld rfl rfl) <| zp 12 rfl rfl (y_move (v := .int _ _) rfl) <| zp 13 rfl rfl (y_convE (b := (i : Int)) rfl (by rw [wrapU16]; omega)) <| ze 14 rfl rfl <| e_call' rfl (ohid_spec hg o hname hsec hnl hsl q i (by omega)) ?_
 rintro _ M2 _ hM2 ⟨rfl, A2, m2, c2, rfl, hA2⟩
 replace he := he.trans hM2
 refine ⟨⟨(by first | exact Le.refl _ | assumption), Keeps.mem⟩, ?_⟩
 refine ze 15 rfl rfl <| e_call' rfl (Up_spec' (hg.mono he).sha (hg.mono he).kec (hg.mono he).set o (hname.mono he) hA2 q i 0 ((d.getD i 0 : Nat) : Int)) ?_
 rintro _ M3 _ hM3 ⟨rfl, A3, m3, c3, rfl, hA3⟩
 replace he := he.trans hM3
 refine ⟨⟨(by first | exact Le.refl _ | assumption), Keeps.mem⟩, ?_⟩
 refine zp 16 rfl rfl (y_assign (v := .slice _ _ _) rfl) <| zz <| .then_normal <| .s1 6 rfl <| x_ret (ret1 rfl rfl he ⟨rfl, _, _, _, rfl, hA3⟩)
theorem oSign_spec (hg : ChG M) (o : OtsV) (hname : Bytes M NA nl nc name) (hsec : Bytes M SA sl sc sec) (q : UInt32) (htext : Bytes M TA tl tc text) :
  Con Tryz.prog 157 #[.agg (List.toArray o.cells), .agg (List.toArray (seedC NA nl nc SA sl sc)), .int .u32 (q.toNat : Int), .slice TA tl tc] G M L (fun v M' L' => L = L' ∧ ∃ A m c, v = .slice A m c ∧ Bytes M' A m c (if okY o nl sl ∧ tl ≤ 65536 then sigB o name sec q.toNat text else [])) noPanic := by
 refine en Tryz.func157 rfl 43 rfl <| zr <| tl_e rfl <| e_box rfl <| fun b1 => tl_e rfl <| e_box rfl <| fun b2 => tl_e rfl <| e_box rfl <| fun b3 => as0 rfl rfl <| zq <| .s4 3 4 5 6 rfl rfl rfl rfl <| zr2 <| tLg rfl rfl rfl <| tLg rfl rfl rfl <| ec rfl rfl (oMay_spec hg.set o) ?_
 rintro _ M1 _ hM1 ⟨rfl, rfl⟩
 refine tl_y rfl (y_notd rfl) <| mvB rfl rfl <| tl_cases (s := 16) rfl (fun hk1 => ?_) (fun hk1 => ?_)
 ·
  refine tl_skip rfl <| tl_skip rfl <| tl_skip rfl <| tPt rfl rfl rfl <| zq <| .s5 3 4 5 6 20 rfl rfl rfl rfl rfl <| x_true rfl rfl <| zr <| as0 rfl rfl <| zq <| .s1 8 rfl <| x_ret (.then_ret (.dropTo L ii (ret1 rfl rfl hM1 ⟨rfl, _, _, _, rfl, by rw [if_neg (fun h => hk1 h.1)]; exact Row.nil _ _⟩)))
 refine mvS rfl rfl <| tLen rfl rfl <| tl_y rfl (y_gtr rfl rfl) <| tPf rfl rfl rfl <| zq <| .s5 3 4 5 6 20 rfl rfl rfl rfl rfl <| x_cond rfl (fun hc1 => ?_) (fun hc1 => ?_)
 ·
  refine zr <| as0 rfl rfl <| zq <| .s1 8 rfl <| x_ret (.then_ret (.dropTo L ii (ret1 rfl rfl hM1 ⟨rfl, _, _, _, rfl, by rw [if_neg (fun h => by have := h.2; omega)]; exact Row.nil _ _⟩)))
 have hok : okY o nl sl := Classical.not_not.1 hk1
 obtain ⟨n, w, p, ho⟩ := okO_facts hok.1
 have hn32 := ho.n32
 have hn := ho.hn
 have hsl := hok.2.2
 have hnl := hok.2.1
 have hp2 := ho.p2
 have hcl := o.code.toNat_lt
 have htl := htext.size
 refine x_skip <| .then_normal <| zr <| tLg rfl rfl rfl <| tLg rfl rfl rfl <| tLd rfl rfl rfl <| ec rfl rfl (ohid_spec (hg.mono hM1) o (hname.mono hM1) (hsec.mono hM1) (by omega) (by omega) q 65533 (by omega)) ?_
 rintro _ M2 _ hM2 ⟨rfl, A2, m2, c2, rfl, hA2⟩
 have hd := hM1.trans hM2
 have hm2 := hA2.size
 rw [hidB_len ho] at hm2
 subst hm2
 refine asS rfl rfl <| zq <| .s5 3 4 5 6 9 rfl rfl rfl rfl rfl <| zr <| tLg rfl rfl rfl <| tFa rfl rfl <| tLd rfl rfl rfl <| tLd rfl rfl rfl <| mvS rfl rfl <| mvS rfl rfl <| ec rfl rfl (osum_spec (hg.mono hd) o ho (hname.mono hd) hnl q hA2 (htext.mono hd) (by omega) (by omega)) ?_
 rintro _ M3 _ hM3 ⟨rfl, A3, c3, rfl, hr3⟩
 replace hd := hd.trans hM3
 obtain ⟨ds, hds⟩ : ∃ ds, ds = digO o name q.toNat (hidB o name sec q.toNat 65533) text := ⟨_, rfl⟩
 rw [← hds] at hr3
 refine tl_e rfl <| e_alloc <| fun b4 => tl_e rfl <| e_st rfl rfl (by rfl) (by rfl) <| zq <| .s5 4 5 6 9 10 rfl rfl rfl rfl rfl <| zr <| tLg rfl rfl rfl <| tl_y rfl (y_makeFunc rfl rfl) <| tl_e rfl (e_call' rfl (oall_spec o ho.hp (by omega) (rows := sigR o name sec q.toNat ds) (sigR_le o name sec q.toNat ds) (fun i M2 X hi hM2 hX => by
  haveI i1 : Has X b1 (.cells (List.toArray o.cells) 103 (0, 0)) := ⟨hX _ (Has.mem)⟩
  haveI i2 : Has X b2 (.cells (List.toArray (seedC NA nl nc SA sl sc)) 33 (0, 0)) := ⟨hX _ (Has.mem)⟩
  haveI i3 : Has X b3 (.cells #[.int .u32 (q.toNat : Int)] 61 (0, 0)) := ⟨hX _ (Has.mem)⟩
  haveI i4 : Has X b4 (.cells #[.slice A3 p c3] 68 (0, 0)) := ⟨hX _ (Has.mem)⟩
  exact oSign1_spec ((hg.mono hd).mono hM2) o ho ((hname.mono hd).mono hM2) ((hsec.mono hd).mono hM2) (by omega) (by omega) q (hr3.mono hM2) i hi)) ?_)
 rintro _ M4 _ hM4 ⟨rfl, A4, m4, c4, rfl, hA4⟩
 replace hd := hd.trans hM4
 have hm4 := hA4.size
 have hle := catR_le (sigR_le o name sec q.toNat ds) p
 refine asS rfl rfl <| zq <| .s3 4 9 11 rfl rfl rfl <| zr <| tFa rfl rfl <| tLd rfl rfl rfl <| tl_y rfl (y_convN64 rfl (by omega)) <| ec rfl rfl (PutV_spec o.code.toNat 4 (by omega) (by omega)) ?_
 rintro _ M5 _ hM5 ⟨rfl, A5, c5, rfl, hA5⟩
 replace hd := hd.trans hM5
 refine mvS rfl rfl <| mvS rfl rfl <| tl_e rfl <| e_buildSlice rfl (by decide) <| fun b7 => .pub b7 ii <| fun M6 hM6 hb7 => ?_
 replace hd := hd.trans hM6
 have hfl : [putB o.code.toNat 4, hidB o name sec q.toNat 65533, catR (sigR o name sec q.toNat ds) p].flatten = sigB o name sec q.toNat text := by
  rw [sigB, ho.hp, Int.toNat_natCast, saltB, ← hds]; simp
 have hfll : (sigB o name sec q.toNat text).length ≤ 10000 := by
  rw [← hfl]
  simp only [List.flatten_cons, List.flatten_nil, List.length_append, List.length_nil, putB_length]
  rw [hidB_len ho]
  omega
 refine ec rfl rfl (Cat_spec (Row.whole hb7 rfl (by omega)) (.cons (hA5.mono hM6) (.cons (hA2.mono (hM3.trans (hM4.trans (hM5.trans hM6)))) (.cons (hA4.mono (hM5.trans hM6)) .nil))) (by rw [hfl]; omega)) ?_
 rintro _ M7 _ hM7 ⟨rfl, A7, c7, rfl, hA7⟩
 rw [hfl] at hA7
 rw [hfl]
 refine asS rfl rfl <| zq <| .s1 8 rfl <| x_ret (.dropTo L ii (ret1 rfl rfl (hd.trans hM7) ⟨rfl, _, _, _, rfl, by rw [if_pos ⟨hok, by omega⟩]; exact hA7⟩))
end
end Go.Proofs.YtplkoemjffplcaaGreatDoor
