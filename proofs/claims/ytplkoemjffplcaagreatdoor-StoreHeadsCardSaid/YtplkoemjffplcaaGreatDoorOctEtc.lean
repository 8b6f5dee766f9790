/-
Contracts of functions, each proved by a walk through its code.
-/
import Derived.Test.YtplkoemjffplcaaGreatDoorBaseEtc
import Derived.Test.YtplkoemjffplcaaGreatDoorEngIEtc
import Derived.Test.YtplkoemjffplcaaGreatDoorEngWEtc
set_option linter.all false
namespace Go.Proofs.YtplkoemjffplcaaGreatDoor
open Go Go.Eng
section
variable {G : World} {M : Mem} {L : Own}
theorem shr_byte (v : UInt64) (k : Nat) : (shr64 v (8 * k)).toUInt8 = UInt8.ofNat (v.toNat / 256 ^ k % 256) := by
 have hv := v.toNat_lt
 apply UInt8.toNat_inj.1
 rw [UInt64.toNat_toUInt8, shr64, UInt64.toNat_ofNat', UInt8.toNat_ofNat', Nat.pow_mul]
 have : v.toNat / (2 ^ 8) ^ k ≤ v.toNat := Nat.div_le_self _ _
 rw [show (2 : Nat) ^ 8 = 256 by rfl] at this ⊢
 omega
theorem Put_spec (v : UInt64) (n : Int) :
  Con Tryz.prog 52 #[.int .u64 (v.toNat : Int), .int .i64 n] G M L (fun r M' L' => L = L' ∧ if 0 ≤ n ∧ n ≤ 8 then ∃ A c, r = .slice A n.toNat c ∧ Bytes M' A n.toNat c (putB v.toNat n.toNat) else r = .slice none 0 0) noPanic := by
 refine zfn Tryz.func52 rfl 32 rfl <| zr <| as0 rfl <| zq <| zr2 <| mvI rfl <| tl_y rfl (y_lss rfl rfl) <| mvB rfl <| tl_cases (s := 9) rfl (fun hk1 => ?_) (fun hk1 => ?_)
 ·
  refine sk2 rfl rfl <| tPt rfl rfl <| zq <| .s3 0 1 12 rfl rfl rfl <| x_true rfl rfl <| zr <| as0 rfl <| zq <| x_ret (.then_ret (ret1 rfl rfl lR ⟨rfl, by rw [if_neg (by omega)]⟩))
 refine mvI rfl <| tl_y rfl (y_gtr rfl rfl) <| tPf rfl rfl <| zq <| .s3 0 1 12 rfl rfl rfl <| x_cond rfl (fun hc1 => ?_) (fun hc1 => ?_)
 ·
  refine zr <| as0 rfl <| zq <| x_ret (.then_ret (ret1 rfl rfl lR ⟨rfl, by rw [if_neg (by omega)]⟩))
 obtain ⟨n, rfl⟩ : ∃ k : Nat, n = k := ⟨n.toNat, by omega⟩
 refine x_skip <| .then_normal <| zr <| mvI rfl <| tl_e rfl <| e_make1 rfl rfl (by omega) (by omega) (by omega) (by omega) <| fun b1 => ?_
 simp only [Int.toNat_natCast]
 refine asS rfl <| zq <| zr2 <| mvI rfl <| mv0 rfl <| zq <| x_block ?_
 refine x_loop (I := fun m' F D M1 L1 => ∃ k : Nat, m' = n - k ∧ k ≤ n ∧ D = [] ∧ M = M1 ∧ L1 = (b1, .cells ((List.replicate (n - k) (0 : UInt8) ++ (putB v.toNat n).drop (n - k)).map bv).toArray 5 (0, 0)) :: L ∧ F = [(0, .int .u64 (v.toNat : Int)), (1, .int .i64 n), (5, .slice (some ⟨b1, 0, none⟩) n n), (15, .int .i64 n), (16, .int .i64 k)]) (n) (F0 := [(0, _), (1, _), (5, _), (15, _), (16, _)]) ?_ (cs5 rfl rfl rfl rfl rfl) ?_
 ·
  exact ⟨0, rfl, by omega, rfl, rfl, by rw [Nat.sub_zero, List.drop_of_length_le (by rw [putB_length]; omega), List.append_nil, List.map_replicate]; rfl, rfl⟩
 rintro m _ _ M1 L1 ⟨k, rfl, hk, rfl, rfl, rfl, rfl⟩
 refine zr <| tl_y rfl (y_lss rfl rfl) <| zq <| x_seq <| x_cond rfl (fun hc2 => ?_) (fun hc2 => ?_)
 ·
  refine x_skip <| .then_normal <| x_seq <| x_block <| zr <| mvI rfl <| asI rfl <| zq <| x_region <| mvS rfl <| mvI rfl <| tl_y rfl (y_subI rfl rfl (by omega)) <| mvI rfl <| tl_y rfl (y_subI rfl rfl (by omega)) <| mvI rfl <| mvI rfl <| tl_y rfl (y_mulI rfl rfl (by omega)) <| tl_y rfl (y_shr64 (s := 8 * k) rfl rfl) <| tl_y rfl (y_u64u8 rfl) ?_
  rw [shr_byte]
  refine tl_y rfl (y_indexAddr rfl rfl (by omega)) <| tl_e rfl <| e_storeAt (c := (List.replicate (n - k) (0 : UInt8) ++ (putB v.toNat n).drop (n - k)).map bv) (v := bv _) (o := n - 1 - k) (by show some (Value.pointer (some ⟨b1, _, none⟩)) = _; congr 4; omega) rfl rfl iI (by simp [putB_length]; omega) iI ?_
  rw [← List.map_set, put_step v.toNat n k (by omega)]
  refine tl_nil <| .block_normal <| .then_normal <| .s5 0 1 5 15 16 rfl rfl rfl rfl rfl <| x_region <| tl_y rfl (y_addI rfl rfl (by omega)) <| mvI rfl <| tl_nil <| .loop_next (m' := n - (k + 1)) (by omega) (F' := [(0, _), (1, _), (5, _), (15, _), (16, _)]) (cs5 rfl rfl rfl rfl rfl) ?_
  exact ⟨k + 1, rfl, by omega, rfl, rfl, rfl, rfl⟩
 refine x_exit <| .then_exit <| .loop_exit <| .block_exit <| .then_normal <| .s1 5 rfl <| zr <| mvS rfl <| asS rfl <| zq ?_
 obtain rfl : k = n := by omega
 refine x_ret (.pub b1 iI fun M' hle hm => ret1 rfl rfl hle ⟨rfl, ?_⟩)
 rw [if_pos (by omega)]
 rw [Nat.sub_self, List.replicate_zero, List.nil_append, List.drop_zero] at hm
 exact ⟨_, _, rfl, Row.whole hm (by simp [putB_length]) (by omega)⟩
theorem PutN_spec (v : UInt64) (n : Nat) (hn : n ≤ 8) :
  Con Tryz.prog 52 #[.int .u64 (v.toNat : Int), .int .i64 (n : Int)] G M L (fun r M' L' => L = L' ∧ ∃ A c, r = .slice A n c ∧ Bytes M' A n c (putB v.toNat n)) noPanic := by
 refine (Put_spec v n).post fun r M' L' hM hr => ?_
 rw [if_pos (by omega)] at hr
 simpa using hr
theorem Get_spec {A : Option Addr} {n c : Nat} {bs : List UInt8} (h : Bytes M A n c bs) :
  Con Tryz.prog 139 #[.slice A n c] G M L (fun r M' L' => M = M' ∧ L = L' ∧ r = if n ≤ 8 then .tuple #[.int .u64 (getB bs : Int), .bool true] else .tuple #[.int .u64 0, .bool false]) noPanic := by
 have hs := h.size
 refine zfn Tryz.func139 rfl 23 rfl <| zr <| as0 rfl <| as0 rfl <| zq <| zr2 <| mvS rfl <| tLen rfl <| tl_y rfl (y_gtr rfl rfl) <| zq <| .s2 0 9 rfl rfl <| x_cond rfl (fun hc1 => ?_) (fun hc1 => ?_)
 ·
  refine zr <| as0 rfl <| as0 rfl <| zq <| x_ret (.then_ret (ret2 rfl rfl rfl lR ⟨rfl, rfl, by rw [if_neg (by omega)]⟩))
 refine x_skip <| .then_normal <| zr <| as0 rfl <| zq <| zr2 <| mvS rfl <| tLen rfl <| mv0 rfl <| zq <| x_block ?_
 refine x_loop (I := fun m' F D M1 L1 => ∃ (k : Nat) (x : UInt64), m' = n - k ∧ k ≤ n ∧ x.toNat = getB (bs.take k) ∧ D = [] ∧ M = M1 ∧ L = L1 ∧ F = [(4, .int .u64 (x.toNat : Int)), (10, .slice A n c), (11, .int .i64 n), (12, .int .i64 k)]) (n) (F0 := [(4, _), (10, _), (11, _), (12, _)]) ?_ (cs4 rfl rfl rfl rfl) ?_
 ·
  exact ⟨0, 0, rfl, by omega, rfl, rfl, rfl, rfl, rfl⟩
 rintro m _ _ M1 L1 ⟨k, x, rfl, hk, hx, rfl, rfl, rfl, rfl⟩
 refine zr <| tl_y rfl (y_lss rfl rfl) <| zq <| x_seq <| x_cond rfl (fun hc2 => ?_) (fun hc2 => ?_)
 ·
  have hkn : k < n := by omega
  obtain ⟨g, o, rfl, hca⟩ := h.byte (by omega)
  have hlt : x.toNat < 72057594037927936 := by
   have h1 := getB_lt (bs.take k)
   have h2 : (bs.take k).length = k := by rw [List.length_take]; omega
   have h3 : 256 ^ k ≤ 256 ^ 7 := Nat.pow_le_pow_right (by omega) (by omega)
   rw [h2] at h1
   omega
  refine x_skip <| .then_normal <| x_seq <| x_block <| zr <| tl_y rfl (y_indexAddr rfl rfl (by omega)) <| tl_y rfl (y_load rfl rfl (.at_ (hca _ k hkn) (by omega))) <| asI rfl <| zq <| x_region <| mvI rfl <| tl_y rfl (y_shl64 (s := 8) rfl rfl) <| mvI rfl <| tl_y rfl (y_u8u64 rfl) <| tl_y rfl (y_or64 rfl rfl) <| asI rfl <| tl_nil <| .block_normal <| .then_normal <| .s4 4 10 11 12 rfl rfl rfl rfl <| x_region <| tl_y rfl (y_addI rfl rfl (by omega)) <| mvI rfl <| tl_nil <| .loop_next (m' := n - (k + 1)) (by omega) (F' := [(4, _), (10, _), (11, _), (12, _)]) (cs4 rfl rfl rfl rfl) ?_
  exact ⟨k + 1, _, rfl, by omega, by rw [get_step _ _ hlt, hx, take_snoc bs k 0 (by omega), getB_snoc], rfl, rfl, rfl, rfl⟩
 refine x_exit <| .then_exit <| .loop_exit <| .block_exit <| .then_normal <| .s1 4 rfl <| zr <| mvI rfl <| asI rfl <| as0 rfl <| zq <| x_ret (ret2 rfl rfl rfl lR ⟨rfl, rfl, by rw [if_pos (by omega), hx, List.take_of_length_le (by omega)]⟩)
theorem Get8_spec {A : Option Addr} {n c : Nat} {bs : List UInt8} (h : Bytes M A n c bs) (hn : n ≤ 8) :
  Con Tryz.prog 139 #[.slice A n c] G M L (fun r M' L' => M = M' ∧ L = L' ∧ ∃ x : UInt64, x.toNat = getB bs ∧ r = .tuple #[.int .u64 (x.toNat : Int), .bool true]) noPanic := by
 refine (Get_spec h).post fun r M' L' hM ⟨h1, h2, hr⟩ => ⟨h1, h2, UInt64.ofNat (getB bs), ?_, ?_⟩
 ·
  have h3 := getB_lt bs
  have h4 : 256 ^ bs.length ≤ 256 ^ 8 := Nat.pow_le_pow_right (by omega) (by have := h.size; omega)
  rw [UInt64.toNat_ofNat']
  omega
 have h3 := getB_lt bs
 have h4 : 256 ^ bs.length ≤ 256 ^ 8 := Nat.pow_le_pow_right (by omega) (by have := h.size; omega)
 rw [if_pos hn] at hr
 rw [hr, UInt64.toNat_ofNat', Nat.mod_eq_of_lt (by omega)]
theorem bytesEqual_spec {A B : Option Addr} {n c m d : Nat} {a b : List UInt8} (ha : Bytes M A n c a) (hb : Bytes M B m d b) :
  Con Tryz.prog 140 #[.slice A n c, .slice B m d] G M L (fun r M' L' => M = M' ∧ L = L' ∧ r = .bool (decide (a = b))) noPanic := by
 refine zfn Tryz.func140 rfl 10 rfl <| zr <| as0 rfl <| zq <| zr <| mvS rfl <| tl_y rfl (y_toStr rfl (.row ha)) <| mvS rfl <| tl_y rfl (y_toStr rfl (.row hb)) <| tl_y rfl (y_eqlStr rfl rfl) <| asB rfl <| zq <| .s1 4 rfl <| x_ret (ret1 rfl rfl lR ⟨rfl, rfl, by congr 1; rw [decide_eq_decide]; exact sB_inj⟩)
theorem Same_spec {A B : Option Addr} {n c m d : Nat} {a b : List UInt8} (ha : Bytes M A n c a) (hb : Bytes M B m d b) :
  Con Tryz.prog 94 #[.slice A n c, .slice B m d] G M L (fun r M' L' => M = M' ∧ L = L' ∧ r = .bool (decide (a = b))) noPanic := by
 refine zfn Tryz.func94 rfl 8 rfl <| zr <| as0 rfl <| zq <| zr <| mvS rfl <| mvS rfl <| zca rfl (bytesEqual_spec ha hb) ?_
 rintro _ M1 L1 hM1 ⟨rfl, rfl, rfl⟩
 refine asB rfl <| zq <| .s1 4 rfl <| x_ret (ret1 rfl rfl lR ⟨rfl, rfl, rfl⟩)
theorem bytesJoin_spec {A : Option Addr} {n c : Nat} {vs : List Value} {bss : List (List UInt8)} (h : Row M 1 A n c vs) (hb : BRows M vs bss) (hn : bss.flatten.length ≤ 1099511627776) :
    Con Tryz.prog 112 #[.slice A n c, .slice none 0 0] G M L (fun v M' L' => L = L' ∧ ∃ A' c', v = .slice A' bss.flatten.length c' ∧ Bytes M' A' bss.flatten.length c' bss.flatten) noPanic := by
  have hvl := hb.len
  have hnl : vs.length = n := by have := h.len; omega
  have hmx := h.max
  have hle := h.le
  refine zfn Tryz.func112 rfl 92 rfl <| zr <| as0 rfl <| zq <| zr2 <| mvS rfl <| tLen rfl <| tl_y rfl (y_eql rfl rfl) <| zq <| x_cond rfl (fun hc1 => ?_) (fun hc1 => ?_)
  ·
    obtain rfl : bss = [] := List.eq_nil_of_length_eq_zero (by omega)
    refine zr <| tl_e rfl <| e_buildSlice0 <| fun b1 => asS rfl <| zq <| .s1 4 rfl <| x_ret (.pub b1 iI fun M' hle hm => (.then_ret (ret1 rfl rfl hle ⟨rfl, _, _, rfl, Row.whole hm rfl (by simp)⟩)))
  refine x_skip <| .then_normal <| .s2 0 1 rfl rfl <| zr2 <| mvS rfl <| tLen rfl <| tl_y rfl (y_eql rfl rfl) <| zq <| x_cond rfl (fun hc2 => ?_) (fun hc2 => ?_)
  ·
    obtain ⟨g, o, rfl, hcell⟩ := h.addr (by omega)
    obtain ⟨A1, n1, c1, hv1, hb1⟩ := hb.get 0 (by omega)
    have hn1 := hb1.size
    have hone : bss = [bss.getD 0 []] := by
      match bss, hvl with
      | [x], _ => rfl
      | [], hvl => rw [List.length_nil] at hvl; omega
      | _ :: _ :: _, hvl => rw [List.length_cons, List.length_cons] at hvl; omega
    have hfl : bss.flatten = bss.getD 0 [] := by conv => lhs; rw [hone]
                                                 simp
    have hn1' : n1 = bss.flatten.length := by rw [hfl]; omega
    refine zr <| mvS rfl <| tl_y rfl (y_indexAddrK 0 rfl rfl (by omega)) <| tl_y rfl (y_load rfl rfl (.at_ (hcell _ 0 _ hv1) (by omega))) <| tl_e rfl <| e_append (E := []) (by decide) rfl rfl OwnRow.nil (.row hb1) (all_one_bv _) (by omega) (by omega) <| fun A2 cap2 E2 hE2 => ?_
    rw [Nat.zero_add, List.nil_append] at hE2
    rw [Nat.zero_add]
    refine asS rfl <| zq <| .s1 4 rfl <| x_ret (.then_ret (.pubRow hE2 fun M' hle hr => ret1 rfl rfl hle ⟨rfl, ?_⟩))
    rw [hfl] at hn1' ⊢
    rw [← hn1']
    exact ⟨_, _, rfl, hr⟩
  refine x_skip <| .then_normal <| zr <| as0 rfl <| zq <| zr2 <| mvS rfl <| tLen rfl <| tl_y rfl (y_gtr rfl rfl) <| zq <| .s4 0 1 5 25 rfl rfl rfl rfl <| x_false rfl (by simp) <| x_skip <| .then_normal <| zr2 <| mvS rfl <| tLen rfl <| mv0 rfl <| zq <| x_block ?_
  refine x_loop (I := fun m' F D M1 L1 => ∃ k : Nat, m' = n - k ∧ k ≤ n ∧ M = M1 ∧ D = [] ∧ L = L1 ∧ F = [(0, .slice A n c), (1, .slice none 0 0), (5, .int .i64 ((bss.take k).flatten.length : Nat)), (42, .slice A n c), (43, .int .i64 n), (44, .int .i64 k)]) (n) (F0 := [(0, _), (1, _), (5, _), (42, _), (43, _), (44, _)]) ?_ (cs6 rfl rfl rfl rfl rfl rfl) ?_
  ·
    exact ⟨0, rfl, by omega, rfl, rfl, rfl, rfl⟩
  rintro m _ _ M1 L1 ⟨k, rfl, hk, rfl, rfl, rfl, rfl⟩
  refine zr <| tl_y rfl (y_lss rfl rfl) <| zq <| x_seq <| x_cond rfl (fun hc4 => ?_) (fun hc4 => ?_)
  ·
    have hkn : k < n := by omega
    obtain ⟨g, o, rfl, hcell⟩ := h.addr (by omega)
    obtain ⟨A1, n1, c1, hv1, hb1⟩ := hb.get k (by omega)
    have hn1 := hb1.size
    have hf1 := flatten_take_le bss (k + 1)
    have hf2 : (bss.take (k + 1)).flatten.length = (bss.take k).flatten.length + n1 := by
      rw [take_snoc bss k [] (by omega), List.flatten_append, List.length_append, List.flatten_singleton, hn1]
    refine x_skip <| .then_normal <| x_seq <| x_block <| zr <| tl_y rfl (y_indexAddr rfl rfl (by omega)) <| tl_y rfl (y_load rfl rfl (.at_ (hcell L k _ hv1) (by omega))) <| asS rfl <| zq <| zr2 <| mvS rfl <| tLen rfl <| mvI rfl <| tl_y rfl (y_subI rfl rfl (by omega)) <| tl_y rfl (y_gtr rfl rfl) <| zq <| .s8 0 1 5 7 42 43 44 52 rfl rfl rfl rfl rfl rfl rfl rfl <| x_cond rfl (fun hc5 => ?_) (fun hc5 => ?_)
    ·
      omega
    refine x_skip <| .then_normal <| x_region <| mvI rfl <| mvS rfl <| tLen rfl <| tl_y rfl (y_addI rfl rfl (by omega)) <| asI rfl <| tl_nil <| .block_normal <| .then_normal <| .s6 0 1 5 42 43 44 rfl rfl rfl rfl rfl rfl <| x_region <| tl_y rfl (y_addI rfl rfl (by omega)) <| mvI rfl <| tl_nil <| .loop_next (m' := n - (k + 1)) (by omega) (F' := [(0, _), (1, _), (5, _), (42, _), (43, _), (44, _)]) (cs6 rfl rfl rfl rfl rfl rfl) ?_
    exact ⟨k + 1, rfl, by omega, rfl, rfl, rfl, by rw [hf2]; rfl⟩
  obtain rfl : k = bss.length := by omega
  rw [List.take_length]
  generalize hN : bss.flatten.length = N at hn
  obtain ⟨g, o, hAe, hcell⟩ := h.addr (by omega)
  subst hAe
  obtain ⟨A1, n1, c1, hv1, hb1⟩ := hb.get 0 (by omega)
  have hn1 := hb1.size
  have hf1 := flatten_take_le bss 1
  have hf2 : (bss.take 1).flatten = bss.getD 0 [] := by
    rw [take_snoc bss 0 [] (by omega)]; simp
  refine x_exit <| .then_exit <| .loop_exit <| .block_exit <| .then_normal <| .s3 0 1 5 rfl rfl rfl <| zr <| mvI rfl <| tl_e rfl <| e_noZero (t := 22) (ps := #[3]) Tryz.func161 (by kernel_rfl) (by kernel_rfl) (by kernel_rfl) (by kernel_rfl) rfl (by omega) <| fun b9 cs hc1 hc2 => ?_
  simp only [Int.toNat_natCast] at hc1 ⊢
  refine mvI rfl <| mvI rfl <| tl_y rfl (y_slice3 rfl rfl rfl (by omega) (by omega)) ?_
  simp only [Int.toNat_natCast, sl0]
  refine asS rfl <| zq <| .s3 0 1 8 rfl rfl rfl <| zr <| mvS rfl <| mvS rfl <| tl_y rfl (y_indexAddrK 0 rfl rfl (by omega)) <| tl_y rfl (y_load rfl rfl (.at_ (hcell _ 0 _ hv1) (by omega))) <| tl_e rfl <| e_copy (b := b9) (o := 0) (c := cs) (cs := (bss.getD 0 []).map bv) rfl rfl (by rw [List.length_map]; rw [hf2] at hf1; omega) (fun _ => rfl) (by rw [List.length_map, hn1]; exact .row hb1) iI (by rw [List.length_map]; rw [hf2] at hf1; omega) (all_one_bv _) iI ?_
  rw [List.length_map, List.take_zero, List.nil_append, Nat.zero_add]
  refine asI rfl <| zq <| .s4 0 1 8 9 rfl rfl rfl rfl <| zr2 <| mvS rfl <| tl_y rfl (y_sliceL rfl rfl (by omega)) ?_
  simp only [Int.toNat_one, sl_pos (show 1 < c by omega)]
  refine tLen rfl <| mv0 rfl <| zq <| x_block ?_
  refine x_loop (I := fun m' F D M1 L1 => ∃ (k : Nat) (slack : List Value), m' = n - 1 - k ∧ k ≤ n - 1 ∧ M = M1 ∧ D = [] ∧ ((bss.take (k + 1)).flatten.map bv ++ slack).length = cs.length ∧ L1 = (b9, .cells ((bss.take (k + 1)).flatten.map bv ++ slack).toArray 5 (0, 0)) :: L ∧ F = [(1, .slice none 0 0), (8, .slice (some ⟨b9, 0, none⟩) N N), (9, .int .i64 ((bss.take (k + 1)).flatten.length : Nat)), (70, .slice (some ⟨g, o + 1 * 1, none⟩) (n - 1) (c - 1)), (71, .int .i64 (n - 1 : Nat)), (72, .int .i64 k)]) (n - 1) (F0 := [(1, _), (8, _), (9, _), (70, _), (71, _), (72, _)]) ?_ (cs6 rfl rfl rfl rfl rfl rfl) ?_
  ·
    exact ⟨0, cs.drop (bss.getD 0 []).length, rfl, by omega, rfl, rfl, by rw [Nat.zero_add, hf2, List.length_append, List.length_map, List.length_drop]; rw [hf2] at hf1; omega, by rw [Nat.zero_add, hf2], by rw [Nat.zero_add, hf2]; rfl⟩
  rintro m _ _ M1 L1 ⟨k, slack, rfl, hk, rfl, rfl, hsl, rfl, rfl⟩
  refine zr <| tl_y rfl (y_lss rfl rfl) <| zq <| x_seq <| x_cond rfl (fun hc6 => ?_) (fun hc6 => ?_)
  ·
    have hkn : k < n - 1 := by omega
    obtain ⟨A2, n2, c2, hv2, hb2⟩ := hb.get (k + 1) (by omega)
    have hn2 := hb2.size
    have hf3 := flatten_take_le bss (k + 1 + 1)
    have hf4 : (bss.take (k + 1 + 1)).flatten = (bss.take (k + 1)).flatten ++ bss.getD (k + 1) [] := by
      rw [take_snoc bss (k + 1) [] (by omega), List.flatten_append, List.flatten_singleton]
    have hf5 : (bss.take (k + 1 + 1)).flatten.length = (bss.take (k + 1)).flatten.length + n2 := by rw [hf4, List.length_append, hn2]
    have hsl2 := hsl
    rw [List.length_append, List.length_map] at hsl2
    generalize hP : (bss.take (k + 1)).flatten = pre at hf4 hf5 hsl hsl2
    generalize bss.getD (k + 1) [] = bk at hb2 hn2 hf4
    have hn3 : (bk.map bv).length = n2 := by rw [List.length_map, hn2]
    refine x_skip <| .then_normal <| x_seq <| x_block <| zr <| tl_y rfl (y_indexAddr rfl rfl (by omega)) <| tl_y rfl (y_load rfl rfl (.at_ (hcell _ (k + 1) _ hv2) (by omega))) <| asS rfl <| zq <| zr <| mvI rfl <| mvS rfl <| mvI rfl <| tl_y rfl (y_sliceL rfl rfl (by omega)) <| mvS rfl <| tl_e rfl <| e_copy (b := b9) (o := 0) (c := pre.map bv ++ slack) (cs := []) rfl rfl (by simp) (fun h => absurd h (by simp)) .nil iI (by simp) rfl iI ?_
    simp only [List.take_zero, List.nil_append, List.drop_zero, List.length_nil, Nat.zero_add]
    refine tl_y rfl (y_addI rfl rfl (by omega)) <| asI rfl <| zq <| .s7 1 8 9 11 70 71 72 rfl rfl rfl rfl rfl rfl rfl <| x_region <| mvI rfl <| mvS rfl <| mvI rfl <| tl_y rfl (y_sliceL rfl rfl (by omega)) <| mvS rfl <| tl_e rfl <| e_copy (b := b9) (o := pre.length) (c := pre.map bv ++ slack) (cs := bk.map bv) rfl rfl (by omega) (fun h => by rw [show ((pre.length : Int) + ((0 : Nat) : Int)).toNat = pre.length by omega, sl_pos (by omega)]; simp) (by rw [hn3]; exact .row hb2) iI (by rw [List.length_append, hn3, List.length_map]; omega) (all_one_bv _) iI <| tl_y rfl (y_addI rfl rfl (by omega)) <| asI rfl <| tl_nil <| .block_normal <| .then_normal <| .s6 1 8 9 70 71 72 rfl rfl rfl rfl rfl rfl <| x_region <| tl_y rfl (y_addI rfl rfl (by omega)) <| mvI rfl <| tl_nil <| .loop_next (m' := n - 1 - (k + 1)) (by omega) (F' := [(1, _), (8, _), (9, _), (70, _), (71, _), (72, _)]) (cs6 rfl rfl rfl rfl rfl rfl) ?_
    exact ⟨k + 1, slack.drop n2, rfl, by omega, rfl, rfl, by rw [List.length_append, List.length_map, List.length_drop]; omega, by
      rw [hf4, List.map_append, List.append_assoc]
      congr 4
      ·
        rw [List.take_append_of_le_length (by simp), List.take_of_length_le (by simp)]
        congr 2
        rw [List.length_map, List.drop_append, List.drop_of_length_le (by simp), List.length_map, Nat.add_sub_cancel_left, hn2]; rfl, by rw [hf5]; simp [hn2]⟩
  refine x_exit <| .then_exit <| .loop_exit <| .block_exit <| .then_normal <| .s1 8 rfl <| zr <| mvS rfl <| asS rfl <| zq ?_
  obtain rfl : k = n - 1 := by omega
  rw [show n - 1 + 1 = n by omega]
  have hnb : n = bss.length := by omega
  rw [hnb, List.take_length]
  rw [show n - 1 + 1 = bss.length by omega, List.take_length, List.length_append, List.length_map] at hsl
  refine x_ret (.pub b9 iI fun M' hle hm => ret1 rfl rfl hle ⟨rfl, some ⟨b9, 0, none⟩, N, ?_⟩)
  rw [← hN] at *
  exact ⟨rfl, Row.part (pre := []) (by simpa using hm) (by rw [List.length_map, Nat.mul_one]) (Nat.le_refl _) (by omega)⟩
theorem Cat_spec {A : Option Addr} {n c : Nat} {vs : List Value} {bss : List (List UInt8)} (h : Row M 1 A n c vs) (hb : BRows M vs bss) (hn : bss.flatten.length ≤ 1099511627776) :
  Con Tryz.prog 59 #[.slice A n c] G M L (fun v M' L' => L = L' ∧ ∃ A' c', v = .slice A' bss.flatten.length c' ∧ Bytes M' A' bss.flatten.length c' bss.flatten) noPanic := by
 refine zfn Tryz.func59 rfl 5 rfl <| zr <| as0 rfl <| zq <| zr <| mvS rfl <| zca rfl (bytesJoin_spec h hb hn) ?_
 rintro _ M1 L1 hM1 ⟨rfl, A', c', rfl, hA'⟩
 refine asS rfl <| zq <| x_ret (ret1 rfl rfl hM1 ⟨rfl, _, _, rfl, hA'⟩)
end
end Go.Proofs.YtplkoemjffplcaaGreatDoor
namespace Go.Eng
def kT : List UInt32 := [1116352408, 1899447441, 3049323471, 3921009573, 961987163, 1508970993, 2453635748, 2870763221, 3624381080, 310598401, 607225278, 1426881987, 1925078388, 2162078206, 2614888103, 3248222580, 3835390401, 4022224774, 264347078, 604807628, 770255983, 1249150122, 1555081692, 1996064986, 2554220882, 2821834349, 2952996808, 3210313671, 3336571891, 3584528711, 113926993, 338241895, 666307205, 773529912, 1294757372, 1396182291, 1695183700, 1986661051, 2177026350, 2456956037, 2730485921, 2820302411, 3259730800, 3345764771, 3516065817, 3600352804, 4094571909, 275423344, 430227734, 506948616, 659060556, 883997877, 958139571, 1322822218, 1537002063, 1747873779, 1955562222, 2024104815, 2227730452, 2361852424, 2428436474, 2756734187, 3204031479, 3329325298]
structure H8 where
 a : UInt32
 b : UInt32
 c : UInt32
 d : UInt32
 e : UInt32
 f : UInt32
 g : UInt32
 h : UInt32
abbrev H8.list (s : H8) : List UInt32 := [s.a, s.b, s.c, s.d, s.e, s.f, s.g, s.h]
abbrev H8.vals (s : H8) : List Value := [u32v s.a, u32v s.b, u32v s.c, u32v s.d, u32v s.e, u32v s.f, u32v s.g, u32v s.h]
def H8.init : H8 := ⟨1779033703, 3144134277, 1013904242, 2773480762, 1359893119, 2600822924, 528734635, 1541459225⟩
def rotr (x : UInt32) (n : Nat) : UInt32 := shl32 x (32 - n) ||| shr32 x n
def sS0 (x : UInt32) : UInt32 := rotr x 7 ^^^ rotr x 18 ^^^ shr32 x 3
def sS1 (x : UInt32) : UInt32 := rotr x 17 ^^^ rotr x 19 ^^^ shr32 x 10
def bS0 (x : UInt32) : UInt32 := rotr x 2 ^^^ rotr x 13 ^^^ rotr x 22
def bS1 (x : UInt32) : UInt32 := rotr x 6 ^^^ rotr x 11 ^^^ rotr x 25


def wd (bs : List UInt8) (t : Nat) : UInt32 := UInt32.ofNat (getB ((bs.drop (4 * t)).take 4))
def nextW (w : List UInt32) (t : Nat) : UInt32 := w.getD (t - 16) 0 + sS0 (w.getD (t - 15) 0) + w.getD (t - 7) 0 + sS1 (w.getD (t - 2) 0)
def schd (bs : List UInt8) : Nat → List UInt32
 | 0 => []
 | t + 1 => schd bs t ++ [if t < 16 then wd bs t else nextW (schd bs t) t]
theorem schd_length (bs : List UInt8) : ∀ t, (schd bs t).length = t
 | 0 => rfl
 | t + 1 => by simp [schd, schd_length bs t]
def rT1 (s : H8) (k w : UInt32) : UInt32 := s.h + bS1 s.e + ((s.e &&& s.f) ^^^ (~~~s.e &&& s.g)) + k + w
def rT2 (s : H8) : UInt32 := bS0 s.a + ((s.a &&& s.b) ^^^ (s.a &&& s.c) ^^^ (s.b &&& s.c))
def rnd (s : H8) (k w : UInt32) : H8 := ⟨rT1 s k w + rT2 s, s.a, s.b, s.c, s.d + rT1 s k w, s.e, s.f, s.g⟩
def rounds (ws : List UInt32) (s : H8) : Nat → H8
 | 0 => s
 | t + 1 => rnd (rounds ws s t) (kT.getD t 0) (ws.getD t 0)
def plusH (r s : H8) : H8 := ⟨r.a + s.a, r.b + s.b, r.c + s.c, r.d + s.d, r.e + s.e, r.f + s.f, r.g + s.g, r.h + s.h⟩
def turn (s : H8) (bs : List UInt8) : H8 := plusH (rounds (schd bs 64) s 64) s
def addTo (r s : List UInt32) : Nat → List UInt32
 | 0 => r
 | i + 1 => (addTo r s i).set i ((addTo r s i).getD i 0 + s.getD i 0)
theorem addTo_length (r s : List UInt32) : ∀ i, (addTo r s i).length = r.length
 | 0 => rfl
 | i + 1 => by simp [addTo, addTo_length r s i]
theorem addTo_all (r s : H8) : addTo r.list s.list 8 = (plusH r s).list := rfl
def blk (s : H8) (bs : List UInt8) : Nat → H8
 | 0 => s
 | n + 1 => turn (blk s bs n) ((bs.drop (64 * n)).take 64)
theorem blk_append (s : H8) (bs x : List UInt8) : ∀ n, 64 * n ≤ bs.length → blk s (bs ++ x) n = blk s bs n
 | 0, _ => rfl
 | n + 1, h => by
  rw [blk, blk, blk_append s bs x n (by omega), List.drop_append_of_le_length (by omega), List.take_append_of_le_length (by rw [List.length_drop]; omega)]
theorem blk_drop (s : H8) (bs : List UInt8) (m : Nat) : ∀ j, blk (blk s bs m) (bs.drop (64 * m)) j = blk s bs (m + j)
 | 0 => rfl
 | j + 1 => by
  rw [show m + (j + 1) = (m + j) + 1 from rfl, blk, blk, blk_drop s bs m j, List.drop_drop, ← Nat.mul_add]
def padB (n : Nat) : List UInt8 := 128 :: (List.replicate ((119 - n % 64) % 64) 0 ++ putB (n * 8 % 18446744073709551616) 8)
def sumH (s : H8) : List UInt8 := s.list.flatMap fun x => putB x.toNat 4
def sha (bs : List UInt8) : List UInt8 := sumH (blk H8.init (bs ++ padB bs.length) ((bs ++ padB bs.length).length / 64))
theorem sumH_length (s : H8) : (sumH s).length = 32 := by simp [sumH, putB_length]
theorem sha_length (bs : List UInt8) : (sha bs).length = 32 := sumH_length _
theorem sha_parts (bs : List UInt8) : sha bs = sumH (blk (blk H8.init bs (bs.length / 64)) (bs.drop (64 * (bs.length / 64)) ++ 128 :: (List.replicate ((119 - bs.length % 64) % 64) 0 ++ putB (bs.length * 8 % 18446744073709551616) 8)) ((bs.length % 64 + 9 + (119 - bs.length % 64) % 64) / 64)) := by
 have h1 : 64 * (bs.length / 64) ≤ bs.length := by omega
 have h2 := blk_drop H8.init (bs ++ padB bs.length) (bs.length / 64) ((bs.length % 64 + 9 + (119 - bs.length % 64) % 64) / 64)
 rw [blk_append _ _ _ _ h1, List.drop_append_of_le_length h1] at h2
 have h3 : (bs ++ padB bs.length).length / 64 = bs.length / 64 + (bs.length % 64 + 9 + (119 - bs.length % 64) % 64) / 64 := by
  rw [List.length_append, padB, List.length_cons, List.length_append, List.length_replicate, putB_length]
  omega
 rw [sha, h3, ← h2]
 rfl
end Go.Eng
namespace Go.Proofs.YtplkoemjffplcaaGreatDoor
open Go Go.Eng
section
variable {G : World} {M : Mem} {L : Own}
theorem rl_a : ∀ n : Fin 32, 0 < n.val → (UInt64.ofInt (-(n.val : Int)) &&& 31).toNat = 32 - n.val ∧ (32 - (UInt64.ofInt (-(n.val : Int)) &&& 31)).toNat = n.val := by decide +kernel
theorem rotl_spec (x : UInt32) (n : Nat) (hn : 0 < n ∧ n < 32) :
  Con Tryz.prog 285 #[.int .u32 (x.toNat : Int), .int .i64 (-(n : Int))] G M L (fun r M' L' => M = M' ∧ L = L' ∧ r = .int .u32 ((rotr x n).toNat : Int)) noPanic := by
 obtain ⟨h1, h2⟩ := rl_a ⟨n, hn.2⟩ hn.1
 refine zfn Tryz.func285 rfl 17 rfl <| zr <| as0 rfl <| zq <| zr <| mvI rfl <| tl_y rfl (y_of64 rfl) <| tl_y rfl (y_and64 (b := 31) rfl rfl) <| asI rfl <| zq <| .s2 0 5 rfl rfl <| zr <| mvI rfl <| mvI rfl <| tl_y rfl (y_shl32 rfl rfl) <| mvI rfl <| mvI rfl <| tl_y rfl (y_sub64 (a := 32) rfl rfl) <| tl_y rfl (y_shr32 rfl rfl) <| tl_y rfl (y_or32 rfl rfl) <| asI rfl <| zq <| .s1 4 rfl <| x_ret (ret1 rfl rfl lR ⟨rfl, rfl, by
  have e1 : (UInt64.ofInt (-(n : Int)) &&& 31).toNat = 32 - n := h1
  have e2 : (32 - (UInt64.ofInt (-(n : Int)) &&& 31)).toNat = n := h2
  rw [e1, e2]; rfl⟩)
theorem rot_spec (x : UInt32) (n : Nat) (hn : 0 < n ∧ n < 32) :
  Con Tryz.prog 280 #[.int .u32 (x.toNat : Int), .int .i64 (n : Int)] G M L (fun r M' L' => M = M' ∧ L = L' ∧ r = .int .u32 ((rotr x n).toNat : Int)) noPanic := by
 refine zfn Tryz.func280 rfl 9 rfl <| zr <| as0 rfl <| zq <| zr <| mvI rfl <| mvI rfl <| tl_y rfl (y_neg rfl) ?_
 rw [show IntKind.i64.wrap (0 - (n : Int)) = -(n : Int) by rw [IntWalk.i64_in _ (by omega)]; omega]
 refine zca rfl (rotl_spec x n hn) ?_
 rintro _ _ _ _ ⟨rfl, rfl, rfl⟩
 refine asI rfl <| zq <| .s1 4 rfl <| x_ret (ret1 rfl rfl lR ⟨rfl, rfl, rfl⟩)
abbrev schCells (bs : List UInt8) (k : Nat) : List Value := (schd bs k).map u32v ++ List.replicate (64 - k) (u32v 0)
theorem sch_get (bs : List UInt8) (k i : Nat) (h : i < k) : (schCells bs k)[i]? = some (u32v ((schd bs k).getD i 0)) := get_u32 _ _ _ (by rw [schd_length]; exact h)
theorem sch_set (bs : List UInt8) (k : Nat) (v : UInt32) (h : k < 64) (hv : v = if k < 16 then wd bs k else nextW (schd bs k) k) : (schCells bs k).set k (u32v v) = schCells bs (k + 1) := by
 have h1 := set_u32 (schd bs k) 64 v (by rw [schd_length]; exact h)
 rw [schd_length] at h1
 rw [h1, hv]
 rfl
theorem sch_len (bs : List UInt8) (k : Nat) (h : k ≤ 64) : (schCells bs k).length = 64 := by simp [schd_length]; omega
theorem spread_spec {bs : List UInt8} (hl : bs.length = 64) :
  Con Tryz.prog 279 #[.agg (bs.map bv).toArray] G M L (fun r M' L' => L = L' ∧ r = .agg ((schd bs 64).map u32v).toArray) noPanic := by
 refine zfn Tryz.func279 rfl 67 rfl <| zr <| tl_e rfl <| e_box rfl <| fun b1 => .pub b1 iI <| fun M1 hM1 hb1 => ?_
 have hblk : Bytes M1 (some ⟨b1, 0, none⟩) 64 64 bs := Row.whole hb1 (by simp [hl]) (by omega)
 refine tl_e rfl <| e_alloc <| fun b2 => zq <| zr <| tl_e rfl <| e_alloc <| fun b3 => zq <| zr2 <| mv0 rfl <| zq <| x_block ?_
 refine x_loop (I := fun m' F D M2 L1 => ∃ k : Nat, m' = 64 - k ∧ k ≤ 64 ∧ D = [] ∧ M1 = M2 ∧ L1 = (b3, .cells (schCells bs k).toArray 354 (0, 0)) :: (b2, .cells (List.replicate 64 (u32v 0)).toArray 354 (0, 0)) :: L ∧ F = [(1, .pointer (some ⟨b1, 0, none⟩)), (2, .pointer (some ⟨b2, 0, none⟩)), (3, .pointer (some ⟨b3, 0, none⟩)), (9, .int .i64 k)]) (64) (F0 := [(1, _), (2, _), (3, _), (9, _)]) ?_ (cs4 rfl rfl rfl rfl) ?_
 ·
  exact ⟨0, rfl, by omega, rfl, rfl, rfl, rfl⟩
 rintro m _ _ M2 L1 ⟨k, rfl, hk, rfl, rfl, rfl, rfl⟩
 refine zr <| tl_y rfl (y_lss rfl rfl) <| zq <| x_seq <| x_cond rfl (fun hc1 => ?_) (fun hc1 => ?_)
 ·
  refine x_skip <| .then_normal <| x_seq <| x_block <| zr <| mvI rfl <| asI rfl <| zq <| zr2 <| mvI rfl <| tl_y rfl (y_lss rfl rfl) <| zq <| x_cond rfl (fun hc2 => ?_) (fun hc2 => ?_)
  ·
   refine zr <| mvI rfl <| tl_y rfl (y_mulI rfl rfl (by omega)) <| mvI rfl <| tl_y rfl (y_addI rfl rfl (by omega)) <| tl_y rfl (y_mulI rfl rfl (by omega)) <| tl_y rfl (y_sliceArrLH rfl rfl rfl (by omega) (by omega)) ?_
   rw [show ((k : Int) * 4).toNat = 4 * k by omega, show (((k : Int) + 1) * 4).toNat = 4 * (k + 1) by omega]
   refine zca rfl (Get_spec (hblk.sub (4 * k) (4 * (k + 1)) (by omega) (by omega))) ?_
   rintro _ _ _ _ ⟨rfl, rfl, rfl⟩
   rw [if_pos (by omega), show 4 * (k + 1) - 4 * k = 4 by omega]
   refine mvU rfl <| zx rfl <| zx rfl <| asI rfl <| asB rfl <| zq <| .s6 1 2 3 4 5 9 rfl rfl rfl rfl rfl rfl <| zr <| mvI rfl <| mvI rfl <| tl_y rfl (y_of32 rfl) <| tl_y rfl (y_indexArr rfl rfl (by omega)) <| tl_e rfl <| e_storeAt (c := schCells bs k) rfl rfl rfl iI (by rw [sch_len _ _ hk]; omega) iI ?_
   rw [show 0 + ((k : Int)).toNat * 1 = k by omega, sch_set bs k _ (by omega) (by rw [if_pos (by omega), ofInt32]; rfl)]
   refine zq <| .s5 1 2 3 4 9 rfl rfl rfl rfl rfl <| x_exit <| .then_exit <| .block_exit <| .then_normal <| x_region <| tl_y rfl (y_addI rfl rfl (by omega)) <| mvI rfl <| tl_nil <| .loop_next (m' := 64 - (k + 1)) (by omega) (F' := [(1, _), (2, _), (3, _), (9, _)]) (cs4 rfl rfl rfl rfl) ?_
   exact ⟨k + 1, rfl, by omega, rfl, rfl, rfl, rfl⟩
  refine x_skip <| .then_normal <| .s5 1 2 3 4 9 rfl rfl rfl rfl rfl <| x_seq <| x_draw 10 hmix rfl <| pmI 0 rfl rfl <| zp 1 rfl rfl (y_subI rfl rfl (by omega)) <| zp 2 rfl rfl (y_indexArr rfl rfl (by omega)) <| zy 3 rfl rfl (y_load rfl rfl (.at_ (.ownAt (i := k - 15) (c := schCells bs k) iI (sch_get bs k (k - 15) (by omega))) (by omega))) <| pmI 4 rfl rfl <| zp 5 rfl rfl (y_subI rfl rfl (by omega)) ?_
  refine zp 6 rfl rfl (y_indexArr rfl rfl (by omega)) <| zy 7 rfl rfl (y_load rfl rfl (.at_ (.ownAt (i := k - 2) (c := schCells bs k) iI (sch_get bs k (k - 2) (by omega))) (by omega))) <| paI 8 rfl rfl <| paI 9 rfl rfl <| zz <| .then_normal <| .s7 1 2 3 4 7 8 9 rfl rfl rfl rfl rfl rfl rfl <| x_draw 29 hmix rfl <| pmI 0 rfl rfl <| pmI 1 rfl rfl ?_
  refine zp 2 rfl rfl (y_subI rfl rfl (by omega)) <| zp 3 rfl rfl (y_indexArr rfl rfl (by omega)) <| zy 4 rfl rfl (y_load rfl rfl (.at_ (.ownAt (i := k - 16) (c := schCells bs k) iI (sch_get bs k (k - 16) (by omega))) (by omega))) <| pmI 5 rfl rfl <| pmI 7 rfl rfl <| pmI 10 rfl rfl <| zp 11 rfl rfl (y_shr32 (s := 3) rfl rfl) <| pmI 14 rfl rfl ?_
  refine zp 15 rfl rfl (y_subI rfl rfl (by omega)) <| zp 16 rfl rfl (y_indexArr rfl rfl (by omega)) <| zy 17 rfl rfl (y_load rfl rfl (.at_ (.ownAt (i := k - 7) (c := schCells bs k) iI (sch_get bs k (k - 7) (by omega))) (by omega))) <| pmI 19 rfl rfl <| pmI 21 rfl rfl <| pmI 24 rfl rfl <| zp 25 rfl rfl (y_shr32 (s := 10) rfl rfl) ?_
  refine ze 6 rfl rfl <| e_call' rfl (rot_spec _ 7 (by omega)) ?_
  rintro _ _ _ _ ⟨rfl, rfl, rfl⟩
  refine kp ?_
  refine ze 8 rfl rfl <| e_call' rfl (rot_spec _ 18 (by omega)) ?_
  rintro _ _ _ _ ⟨rfl, rfl, rfl⟩
  refine kp ?_
  refine zp 9 rfl rfl (y_xor32 rfl rfl) <| zp 12 rfl rfl (y_xor32 rfl rfl) <| zp 13 rfl rfl (y_add32 rfl rfl) <| zp 18 rfl rfl (y_add32 rfl rfl) <| ze 20 rfl rfl <| e_call' rfl (rot_spec _ 17 (by omega)) ?_
  rintro _ _ _ _ ⟨rfl, rfl, rfl⟩
  refine kp ?_
  refine ze 22 rfl rfl <| e_call' rfl (rot_spec _ 19 (by omega)) ?_
  rintro _ _ _ _ ⟨rfl, rfl, rfl⟩
  refine kp ?_
  refine zp 23 rfl rfl (y_xor32 rfl rfl) <| zp 26 rfl rfl (y_xor32 rfl rfl) <| zp 27 rfl rfl (y_add32 rfl rfl) <| zp 28 rfl rfl (y_indexArr rfl rfl (by omega)) <| zt 29 rfl rfl <| e_storeAt (c := schCells bs k) rfl rfl rfl iI (by rw [sch_len _ _ hk]; omega) iI ?_
  rw [show 0 + ((k : Int)).toNat * 1 = k by omega, sch_set bs k _ (by omega) (by rw [if_neg (by omega)]; rfl)]
  refine zz <| .block_normal <| .then_normal <| .s4 1 2 3 9 rfl rfl rfl rfl <| x_region <| tl_y rfl (y_addI rfl rfl (by omega)) <| mvI rfl <| tl_nil <| .loop_next (m' := 64 - (k + 1)) (by omega) (F' := [(1, _), (2, _), (3, _), (9, _)]) (cs4 rfl rfl rfl rfl) ?_
  exact ⟨k + 1, rfl, by omega, rfl, rfl, rfl, rfl⟩
 obtain rfl : k = 64 := by omega
 rw [show schCells bs 64 = (schd bs 64).map u32v by simp [schCells]]
 refine x_exit <| .then_exit <| .loop_exit <| .block_exit <| .then_normal <| zr <| tl_y rfl (y_loadAgg rfl rfl (.whole iI (by simp [schd_length]))) <| tl_e rfl <| e_store rfl rfl (by simp [schd_length]) (u32_one _) iI (.whole (by simp [schd_length])) iI <| zq <| .s1 2 rfl <| x_ret (retRV (L' := L) (rv1 rfl (rc_cellAgg (by rfl) rfl (.whole iI (by simp [schd_length])))) iI hM1 ⟨rfl, rfl⟩)
structure ShaG (M : Mem) : Prop where
 k : ∃ c T fr, M 6 = some (.cells c T fr) ∧ ∀ j, j < 64 → c[j]? = some (u32v (kT.getD j 0))
 first : ∃ T fr, M 5 = some (.cells H8.init.vals.toArray T fr)
theorem ShaG.mono {M M' : Mem} (h : ShaG M) (hle : Le M M') : ShaG M' := ⟨let ⟨c, T, fr, a, b⟩ := h.k; ⟨c, T, fr, hle _ _ a, b⟩, let ⟨T, fr, a⟩ := h.first; ⟨T, fr, hle _ _ a⟩⟩
theorem Turn_spec (hg : ShaG M) (st : H8) {bs : List UInt8} (hl : bs.length = 64) :
  Con Tryz.prog 275 #[.agg (List.toArray st.vals), .agg (bs.map bv).toArray] G M L (fun r M' L' => L = L' ∧ r = .agg (List.toArray (turn st bs).vals)) noPanic := by
 refine zfn Tryz.func275 rfl 110 rfl <| zr <| tl_e rfl <| e_box rfl <| fun b1 => tl_e rfl <| e_box rfl <| fun b2 => tl_e rfl <| e_alloc <| fun b3 => zq <| zr <| tLg rfl rfl <| tl_e rfl <| e_alloc <| fun b4 => tl_e rfl <| e_sT rfl rfl <| zq <| zr2 <| tl_y rfl (y_loadAgg rfl rfl (.whole iI (by simp [hl]))) <| zca rfl (spread_spec hl) ?_
 rintro _ M1 _ hM1 ⟨rfl, rfl⟩
 obtain ⟨kc, kt, kf, hk1, hk2⟩ := (hg.mono hM1).k
 refine mv0 rfl <| zq <| .s5 2 4 5 19 20 rfl rfl rfl rfl rfl <| x_block ?_
 refine x_loop (I := fun m' F D M2 L1 => ∃ (k : Nat) (s : H8), m' = 64 - k ∧ k ≤ 64 ∧ s = rounds (schd bs 64) st k ∧ D = [] ∧ M1 = M2 ∧ L1 = (b4, .cells (List.toArray s.vals) 344 (0, 0)) :: (b3, .cells #[u32v 0, u32v 0, u32v 0, u32v 0, u32v 0, u32v 0, u32v 0, u32v 0] 344 (0, 0)) :: (b2, .cells (bs.map bv).toArray 347 (0, 0)) :: (b1, .cells (List.toArray st.vals) 344 (0, 0)) :: L ∧ F = [(2, .pointer (some ⟨b1, 0, none⟩)), (4, .pointer (some ⟨b3, 0, none⟩)), (5, .pointer (some ⟨b4, 0, none⟩)), (19, .agg ((schd bs 64).map u32v).toArray), (20, .int .i64 k)]) (64) (F0 := [(2, _), (4, _), (5, _), (19, _), (20, _)]) ?_ (cs5 rfl rfl rfl rfl rfl) ?_
 ·
  exact ⟨0, st, rfl, by omega, rfl, rfl, rfl, rfl, rfl⟩
 rintro m _ _ M2 L1 ⟨k, s, rfl, hk, hs, rfl, rfl, rfl, rfl⟩
 refine zr <| tl_y rfl (y_lss rfl rfl) <| zq <| x_seq <| x_cond rfl (fun hc1 => ?_) (fun hc1 => ?_)
 ·
  refine x_skip <| .then_normal <| x_seq <| x_block <| zr <| mvI rfl <| tl_y rfl (y_index rfl rfl (by omega) rfl (by rw [List.getElem?_toArray]; show ((schd bs 64).map u32v)[(k : Int).toNat * 1]? = _; rw [show (k : Int).toNat * 1 = k by omega]; exact get_u32' _ _ (by rw [schd_length]; omega))) ?_
  refine asI rfl <| asI rfl <| zq <| x_seq <| x_draw 18 hmix rfl <| zp 0 rfl rfl (y_indexArrK 0 rfl rfl (by omega)) <| pLd 1 rfl rfl rfl <| zp 2 rfl rfl (y_indexArrK 1 rfl rfl (by omega)) <| pLd 3 rfl rfl rfl <| zp 4 rfl rfl (y_indexArrK 2 rfl rfl (by omega)) ?_
  refine pLd 5 rfl rfl rfl <| zp 6 rfl rfl (y_indexArrK 4 rfl rfl (by omega)) <| pLd 7 rfl rfl rfl <| zp 8 rfl rfl (y_indexArrK 5 rfl rfl (by omega)) <| pLd 9 rfl rfl rfl <| zp 10 rfl rfl (y_indexArrK 6 rfl rfl (by omega)) <| pLd 11 rfl rfl rfl <| paI 12 rfl rfl <| paI 13 rfl rfl <| paI 14 rfl rfl ?_
  refine paI 15 rfl rfl <| paI 16 rfl rfl <| paI 17 rfl rfl <| zz <| .then_normal <| .sub (F' := [(2, _), (4, _), (5, _), (6, _), (7, _), (8, _), (9, _), (10, _), (11, _), (12, _), (13, _), (19, _), (20, _)]) (.cons rfl (.cons rfl (.cons rfl (.cons rfl (.cons rfl (.cons rfl (.cons rfl (.cons rfl (.cons rfl (.cons rfl (.cons rfl (.cons rfl (.cons rfl .nil))))))))))))) ?_
  refine x_seq <| x_draw 27 hmix rfl <| zp 0 rfl rfl (y_indexArrK 7 rfl rfl (by omega)) <| pLd 1 rfl rfl rfl <| pmI 2 rfl rfl <| pmI 4 rfl rfl <| pmI 7 rfl rfl <| pmI 11 rfl rfl <| pmI 12 rfl rfl <| zp 13 rfl rfl (y_and32 rfl rfl) ?_
  refine pmI 14 rfl rfl <| zp 15 rfl rfl (y_com32 rfl) <| pmI 16 rfl rfl <| zp 17 rfl rfl (y_and32 rfl rfl) <| zp 18 rfl rfl (y_xor32 rfl rfl) <| pmI 20 rfl rfl <| zp 21 rfl rfl (y_indexArr rfl rfl (by omega)) <| zy 22 rfl rfl (y_load rfl rfl (.at_ (.ro hk1 (hk2 k (by omega))) (by omega))) <| pmI 24 rfl rfl ?_
  refine ze 3 rfl rfl <| e_call' rfl (rot_spec _ 6 (by omega)) ?_
  rintro _ _ _ _ ⟨rfl, rfl, rfl⟩
  refine kp ?_
  refine ze 5 rfl rfl <| e_call' rfl (rot_spec _ 11 (by omega)) ?_
  rintro _ _ _ _ ⟨rfl, rfl, rfl⟩
  refine kp ?_
  refine zp 6 rfl rfl (y_xor32 rfl rfl) <| ze 8 rfl rfl <| e_call' rfl (rot_spec _ 25 (by omega)) ?_
  rintro _ _ _ _ ⟨rfl, rfl, rfl⟩
  refine kp ?_
  refine zp 9 rfl rfl (y_xor32 rfl rfl) <| zp 10 rfl rfl (y_add32 rfl rfl) <| zp 19 rfl rfl (y_add32 rfl rfl) <| zp 23 rfl rfl (y_add32 rfl rfl) <| zp 25 rfl rfl (y_add32 rfl rfl) <| paI 26 rfl rfl <| zz <| .then_normal <| .sub (F' := [(2, _), (4, _), (5, _), (8, _), (9, _), (10, _), (11, _), (12, _), (13, _), (14, _), (19, _), (20, _)]) (cs12 rfl rfl rfl rfl rfl rfl rfl rfl rfl rfl rfl rfl) ?_
  refine zr <| mvI rfl <| zca rfl (rot_spec _ 2 (by omega)) ?_
  rintro _ _ _ _ ⟨rfl, rfl, rfl⟩
  refine mvI rfl <| zca rfl (rot_spec _ 13 (by omega)) ?_
  rintro _ _ _ _ ⟨rfl, rfl, rfl⟩
  refine tl_y rfl (y_xor32 rfl rfl) <| mvI rfl <| zca rfl (rot_spec _ 22 (by omega)) ?_
  rintro _ _ _ _ ⟨rfl, rfl, rfl⟩
  refine tl_y rfl (y_xor32 rfl rfl) <| mvI rfl <| mvI rfl <| tl_y rfl (y_and32 rfl rfl) <| mvI rfl <| mvI rfl <| tl_y rfl (y_and32 rfl rfl) <| tl_y rfl (y_xor32 rfl rfl) <| mvI rfl <| mvI rfl <| tl_y rfl (y_and32 rfl rfl) <| tl_y rfl (y_xor32 rfl rfl) <| tl_y rfl (y_add32 rfl rfl) <| asI rfl <| zq <| .sub (F' := [(2, _), (4, _), (5, _), (8, _), (9, _), (10, _), (11, _), (12, _), (13, _), (14, _), (15, _), (19, _), (20, _)]) (.cons rfl (.cons rfl (.cons rfl (.cons rfl (.cons rfl (.cons rfl (.cons rfl (.cons rfl (.cons rfl (.cons rfl (.cons rfl (.cons rfl (.cons rfl .nil))))))))))))) <| x_region <| mvI rfl <| mvI rfl <| tl_y rfl (y_add32 rfl rfl) <| mvI rfl <| mvI rfl <| mvI rfl <| tl_y rfl (y_indexArrK 3 rfl rfl (by omega)) <| tLd rfl rfl <| mvI rfl <| tl_y rfl (y_add32 rfl rfl) <| mvI rfl <| mvI rfl <| mvI rfl <| tl_y rfl (y_buildArr rfl) <| tl_e rfl <| e_sT rfl rfl <| tl_nil <| .block_normal <| .then_normal <| .s5 2 4 5 19 20 rfl rfl rfl rfl rfl <| x_region <| tl_y rfl (y_addI rfl rfl (by omega)) <| mvI rfl <| tl_nil <| .loop_next (m' := 64 - (k + 1)) (by omega) (F' := [(2, _), (4, _), (5, _), (19, _), (20, _)]) (cs5 rfl rfl rfl rfl rfl) ?_
  exact ⟨k + 1, rnd s (kT.getD k 0) ((schd bs 64).getD k 0), rfl, by omega, by rw [hs]; rfl, rfl, rfl, rfl, rfl⟩
 obtain rfl : k = 64 := by omega
 refine x_exit <| .then_exit <| .loop_exit <| .block_exit <| .then_normal <| zr2 <| mv0 rfl <| zq <| x_block ?_
 refine x_loop (I := fun m' F D M2 L1 => ∃ (i : Nat), m' = 8 - i ∧ i ≤ 8 ∧ D = [] ∧ M1 = M2 ∧ L1 = (b4, .cells ((addTo s.list st.list i).map u32v).toArray 344 (0, 0)) :: (b3, .cells #[u32v 0, u32v 0, u32v 0, u32v 0, u32v 0, u32v 0, u32v 0, u32v 0] 344 (0, 0)) :: (b2, .cells (bs.map bv).toArray 347 (0, 0)) :: (b1, .cells (st.list.map u32v).toArray 344 (0, 0)) :: L ∧ F = [(2, .pointer (some ⟨b1, 0, none⟩)), (4, .pointer (some ⟨b3, 0, none⟩)), (5, .pointer (some ⟨b4, 0, none⟩)), (97, .int .i64 i)]) (8) (F0 := [(2, _), (4, _), (5, _), (97, _)]) ?_ (cs4 rfl rfl rfl rfl) ?_
 ·
  exact ⟨0, rfl, by omega, rfl, rfl, rfl, rfl⟩
 rintro m _ _ M2 L1 ⟨i, rfl, hi, rfl, rfl, rfl, rfl⟩
 refine zr <| tl_y rfl (y_lss rfl rfl) <| zq <| x_seq <| x_cond rfl (fun hc2 => ?_) (fun hc2 => ?_)
 ·
  refine x_skip <| .then_normal <| x_seq <| x_block <| zr <| mvI rfl <| asI rfl <| zq <| x_draw 8 hmix rfl <| pmI 0 rfl rfl <| zp 1 rfl rfl (y_indexArr rfl rfl (by omega)) ?_
  refine zy 2 rfl rfl (y_load rfl rfl (.at_ (.ownAt (i := i) (c := (addTo s.list st.list i).map u32v) iI (get_u32' _ _ (by rw [addTo_length]; show i < 8; omega))) (by omega))) <| pmI 3 rfl rfl <| zp 4 rfl rfl (y_indexArr rfl rfl (by omega)) <| zy 5 rfl rfl (y_load rfl rfl (.at_ (.ownAt (i := i) (c := st.list.map u32v) iI (get_u32' _ _ (by show i < 8; omega))) (by omega))) <| zp 6 rfl rfl (y_add32 rfl rfl) ?_
  refine zp 7 rfl rfl (y_indexArr rfl rfl (by omega)) <| zt 8 rfl rfl <| e_storeAt (c := (addTo s.list st.list i).map u32v) rfl rfl rfl iI (by rw [List.length_map, addTo_length]; show _ < 8; omega) iI ?_
  rw [show 0 + ((i : Int)).toNat * 1 = i by omega, show (u32v ((addTo s.list st.list i).getD i 0 + st.list.getD i 0)) = u32v ((addTo s.list st.list i).getD i 0 + st.list.getD i 0) from rfl, ← List.map_set]
  refine zz <| .block_normal <| .then_normal <| .s4 2 4 5 97 rfl rfl rfl rfl <| x_region <| tl_y rfl (y_addI rfl rfl (by omega)) <| mvI rfl <| tl_nil <| .loop_next (m' := 8 - (i + 1)) (by omega) (F' := [(2, _), (4, _), (5, _), (97, _)]) (cs4 rfl rfl rfl rfl) ?_
  exact ⟨i + 1, rfl, by omega, rfl, rfl, rfl, rfl⟩
 obtain rfl : i = 8 := by omega
 rw [addTo_all]
 change T _ _ _ _ _ _ _ _ ((b4, .cells (List.toArray (plusH s st).vals) 344 (0, 0)) :: _)
 refine x_exit <| .then_exit <| .loop_exit <| .block_exit <| .then_normal <| zr <| tLg rfl rfl <| tl_e rfl <| e_sT rfl rfl <| zq <| .s1 4 rfl <| x_ret (retRV (L' := L) (rv1 rfl (rc_cellAgg (by rfl) rfl (.own iI iI))) iI hM1 ⟨rfl, by rw [hs]; rfl⟩)
abbrev hcells (s : H8) (A : Option Addr) (n c : Nat) (x : UInt64) : List Value := [u32v s.a, u32v s.b, u32v s.c, u32v s.d, u32v s.e, u32v s.f, u32v s.g, u32v s.h, .slice A n c, u64v x]
abbrev hL (p : Nat) (s : H8) (A : Option Addr) (n c : Nat) (x : UInt64) : Nat × Obj := (p, .cells (List.toArray (hcells s A n c x)) 346 (0, 0))
theorem sNew_spec (hg : ShaG M) :
  Con Tryz.prog 262 #[] G M L (fun r M' L' => M = M' ∧ ∃ p, r = .pointer (some ⟨p, 0, none⟩) ∧ L' = hL p H8.init none 0 0 0 :: L) noPanic := by
 obtain ⟨kt, kf, hk1⟩ := hg.first
 refine zfn Tryz.func262 rfl 4 rfl <| zr <| as0 rfl <| zq <| zr <| tl_y rfl (y_loadAgg rfl rfl (.wholeRo hk1 rfl)) <| tl_y rfl (y_build rfl) <| tl_e rfl <| e_box rfl <| fun b1 => asP rfl <| zq <| x_ret (ret1 rfl rfl lR ⟨rfl, _, rfl, rfl⟩)
theorem sWrite_spec (hg : ShaG M) {p : Nat} {s : H8} {x : UInt64} {A : Option Addr} {n c : Nat} {bs : List UInt8} (h : Bytes M A n c bs) (hn : n ≤ 1099511627776) :
  Con Tryz.prog 263 #[.pointer (some ⟨p, 0, none⟩), .slice A n c] G M (hL p s none 0 0 x :: L) (fun r M' L' => ∃ A' c', L' = hL p (blk s bs (n / 64)) A' (n - 64 * (n / 64)) c' (x + UInt64.ofInt n) :: L ∧ Bytes M' A' (n - 64 * (n / 64)) c' (bs.drop (64 * (n / 64)))) noPanic := by
 have hbl := h.size
 refine zfn Tryz.func263 rfl 53 rfl <| zr <| mvP rfl <| zc rfl <| tFa rfl <| tLd rfl rfl <| mvS rfl <| tLen rfl <| tl_y rfl (y_of64 rfl) <| tl_y rfl (y_add64 rfl rfl) <| zc rfl <| tFa rfl <| tl_e rfl <| e_sT rfl rfl <| zq <| .s2 0 1 rfl rfl <| zr <| mvP rfl <| mvP rfl <| zc rfl <| tFa rfl <| tLd rfl rfl <| mvS rfl <| tl_e rfl <| e_append (E := []) (by decide) rfl rfl OwnRow.nil (.row h) (all_one_bv _) (by omega) (by omega) <| fun A2 cap2 E2 hE2 => ?_
 rw [Nat.zero_add, List.nil_append] at hE2
 rw [Nat.zero_add]
 refine .pubRow hE2 <| fun M1 hM1 hA2 => zc rfl <| tFa rfl <| tl_e rfl <| e_sT rfl rfl <| zq <| .s1 0 rfl <| x_block ?_
 refine x_loop (I := fun m' F D M2 L1 => ∃ (k : Nat) (A3 : Option Addr) (c3 : Nat), m' = n / 64 - k ∧ k ≤ n / 64 ∧ Bytes M2 A3 (n - 64 * k) c3 (bs.drop (64 * k)) ∧ D = [] ∧ Le M1 M2 ∧ L1 = hL p (blk s bs k) A3 (n - 64 * k) c3 (x + UInt64.ofInt n) :: L ∧ F = [(0, .pointer (some ⟨p, 0, none⟩))]) (n / 64) (F0 := [(0, _)]) ?_ (.cons rfl .nil) ?_
 ·
  exact ⟨0, A2, cap2, rfl, by omega, by simpa using hA2, rfl, Le.refl _, rfl, rfl⟩
 rintro m _ _ M2 L1 ⟨k, A3, c3, rfl, hk, hA3, rfl, hM2, rfl, rfl⟩
 refine zr2 <| mvP rfl <| zc rfl <| tFa rfl <| tLd rfl rfl <| tLen rfl <| tl_y rfl (y_geq rfl rfl) <| zq <| .s2 0 29 rfl rfl <| x_cond rfl (fun hc1 => ?_) (fun hc1 => ?_)
 ·
  have hkn : 64 * (k + 1) ≤ n := by omega
  have hA3l := hA3.le
  have htk : ((bs.drop (64 * k)).take 64).length = 64 := by rw [List.length_take, List.length_drop]; omega
  refine x_skip <| .then_normal <| x_block <| zr <| tl_e rfl <| e_alloc <| fun b1 => zq <| x_seq <| x_draw 5 hmix rfl <| zp 0 rfl rfl (y_sliceArr rfl) <| pmP 1 rfl rfl <| zp 2 rfl rfl (y_nilCheck rfl) ?_
  refine pFa 3 rfl rfl <| pLd 4 rfl rfl rfl <| zt 5 rfl rfl <| e_copy (b := b1) (o := 0) (c := List.replicate 64 (.int .u8 0)) (cs := ((bs.drop (64 * k)).take 64).map bv) rfl rfl (by rw [List.length_map, htk]; omega) (fun _ => rfl) (by rw [List.length_map, htk, List.map_take]; exact (Src.row hA3).take (by omega)) iI (by rw [List.length_map, htk]; simp) (all_one_bv _) iI ?_
  rw [copy_whole (by rw [List.length_map, htk]; simp)]
  refine zz <| .then_normal <| .s2 0 4 rfl rfl <| x_draw 15 hmix rfl <| pmP 0 rfl rfl <| pmP 1 rfl rfl <| pmP 2 rfl rfl <| zp 3 rfl rfl (y_nilCheck rfl) <| pFa 4 rfl rfl <| zy 5 rfl rfl (y_lg rfl rfl) <| zy 6 rfl rfl (y_loadAgg rfl rfl (.whole iI (by rw [List.length_map, htk]))) ?_
  refine pmP 8 rfl rfl <| zp 9 rfl rfl (y_nilCheck rfl) <| pFa 10 rfl rfl <| pLd 11 rfl rfl rfl <| zp 12 rfl rfl (y_sliceL rfl rfl (by omega)) ?_
  refine ze 7 rfl rfl <| e_call' rfl (Turn_spec (hg.mono (hM1.trans hM2)) (blk s bs k) htk) ?_
  rintro _ M3 _ hM3 ⟨rfl, rfl⟩
  refine kp ?_
  refine zp 13 rfl rfl (y_nilCheck rfl) <| pFa 14 rfl rfl <| zt 15 rfl rfl <| e_sT rfl rfl <| zp 16 rfl rfl (y_nilCheck rfl) <| pFa 17 rfl rfl <| zt 18 rfl rfl <| e_sT rfl rfl <| .dropTo (hL p (turn (blk s bs k) ((bs.drop (64 * k)).take 64)) (sl A3 (Int.toNat 64) c3 1) (n - 64 * k - Int.toNat 64) (c3 - Int.toNat 64) (x + UInt64.ofInt n) :: L) iI ?_
  refine zz <| .block_normal <| .loop_next (m' := n / 64 - (k + 1)) (by omega) (F' := [(0, _)]) (.cons rfl .nil) ?_
  exact ⟨k + 1, _, _, rfl, by omega, by
   have h1 := Bytes.drop (hA3.mono hM3) 64 (by omega)
   rw [List.drop_drop] at h1
   rw [show 64 * (k + 1) = 64 * k + 64 by omega, ← Nat.sub_sub]
   exact h1, rfl, hM2.trans hM3, by rw [show 64 * (k + 1) = 64 * k + 64 by omega, ← Nat.sub_sub]; rfl, rfl⟩
 refine x_exit (.then_exit (.loop_exit (.block_exit (end0 rfl (hM1.trans hM2) (by
  obtain rfl : k = n / 64 := by omega
  exact ⟨_, _, rfl, hA3⟩)))))
theorem sSum_spec (hg : ShaG M) {p : Nat} {s : H8} {x : UInt64} {A : Option Addr} {n c : Nat} {bs : List UInt8} (h : Bytes M A n c bs) (hn : n < 64) :
  Con Tryz.prog 264 #[.pointer (some ⟨p, 0, none⟩)] G M (hL p s A n c x :: L) (fun r M' L' => L' = L ∧ ∃ A' c', r = .slice A' 32 c' ∧ Bytes M' A' 32 c' (sumH (blk s (bs ++ 128 :: (List.replicate ((119 - n) % 64) 0 ++ putB (x.toNat * 8 % 18446744073709551616) 8)) ((n + 9 + (119 - n) % 64) / 64)))) noPanic := by
 have hbl := h.size
 refine zfn Tryz.func264 rfl 56 rfl ?_
 have hz : ∀ j, ((bs ++ 128 :: List.replicate j 0 : List UInt8).map bv) ++ [Value.int .u8 0] = (bs ++ 128 :: List.replicate (j + 1) 0 : List UInt8).map bv := fun j => by rw [List.replicate_succ']; simp [bv]
 refine zr <| as0 rfl <| zq <| zr <| mvP rfl <| zc rfl <| tFa rfl <| tLg rfl rfl <| tl_y rfl (y_build rfl) <| tl_e rfl <| e_box rfl <| fun b1 => .eqL (L' := hL b1 s none 0 0 0 :: hL p s A n c x :: L) rfl <| asP rfl <| zq <| .s2 0 3 rfl rfl <| zr <| tl_e rfl <| e_buildSlice0 <| fun b2 => mvP rfl <| zc rfl <| tFa rfl <| tLd rfl rfl <| tl_e rfl <| e_append1 (by decide) rfl rfl OwnRow.made00 (.row h) (all_one_bv _) (by omega) (by omega) <| fun A2 cap2 E2 hE2 => ?_
 rw [Nat.zero_add, List.nil_append] at hE2
 rw [Nat.zero_add]
 refine asS rfl <| zq <| .s3 0 3 4 rfl rfl rfl <| zr <| mvS rfl <| tl_e rfl <| e_buildSlice rfl (by decide) <| fun b3 => .bringE E2 iI <| tl_e rfl <| e_append (E := E2) (by decide) rfl rfl hE2 (.own iI rfl) rfl (by omega) (by omega) <| fun A3 cap3 E3 hE3 => ?_
 rw [show bs.map bv ++ [Value.int .u8 128] = (bs ++ 128 :: List.replicate 0 0).map bv by simp [bv]] at hE3
 refine asS rfl <| zq <| x_seq <| x_block <| .dropTo (E3 ++ hL b1 s none 0 0 0 :: hL p s A n c x :: L) iI ?_
 refine x_loop (I := fun m' F D M1 L1 => ∃ (j : Nat) (A4 : Option Addr) (c4 : Nat) (E4 : Own), m' = (119 - n) % 64 - j ∧ j ≤ (119 - n) % 64 ∧ M = M1 ∧ D = [] ∧ OwnRow 5 1 A4 (n + 1 + j) c4 ((bs ++ 128 :: List.replicate j 0).map bv) E4 ∧ L1 = E4 ++ hL b1 s none 0 0 0 :: hL p s A n c x :: L ∧ F = [(0, .pointer (some ⟨p, 0, none⟩)), (3, .pointer (some ⟨b1, 0, none⟩)), (4, .slice A4 (n + 1 + j) c4)]) ((119 - n) % 64) (F0 := [(0, _), (3, _), (4, _)]) ?_ (cs3 rfl rfl rfl) ?_
 ·
  exact ⟨0, A3, cap3, E3, rfl, by omega, rfl, rfl, hE3, rfl, rfl⟩
 rintro m _ _ M1 L1 ⟨j, A4, c4, E4, rfl, hj, rfl, rfl, hE4, rfl, rfl⟩
 refine zr2 <| mvS rfl <| tLen rfl <| tl_y rfl (y_remI rfl rfl (by omega)) <| tl_y rfl (y_neq rfl rfl) <| zq <| x_cond rfl (fun hc1 => ?_) (fun hc1 => ?_)
 ·
  refine x_skip <| .then_normal <| .s3 0 3 4 rfl rfl rfl <| x_block <| x_region <| mvS rfl <| tl_e rfl <| e_buildSlice rfl (by decide) <| fun b4 => .bringE E4 iI <| tl_e rfl <| e_append (E := E4) (by decide) rfl rfl hE4 (.own iI rfl) rfl (by omega) (by omega) <| fun A5 cap5 E5 hE5 => ?_
  rw [hz] at hE5
  refine asS rfl <| .dropTo (E5 ++ hL b1 s none 0 0 0 :: hL p s A n c x :: L) iI <| tl_nil <| .block_normal <| .loop_next (m' := (119 - n) % 64 - (j + 1)) (by omega) (F' := [(0, _), (3, _), (4, _)]) (cs3 rfl rfl rfl) ?_
  exact ⟨j + 1, A5, cap5, E5, rfl, by omega, rfl, rfl, hE5, rfl, rfl⟩
 obtain rfl : j = (119 - n) % 64 := by omega
 refine .pubRow hE4 <| fun M2 hM2 hA4 => x_exit <| .then_exit <| .loop_exit <| .block_exit <| .then_normal <| .s3 0 3 4 rfl rfl rfl <| zr <| mvP rfl <| mvS rfl <| mvP rfl <| zc rfl <| tFa rfl <| tLd rfl rfl <| tl_y rfl (y_mul64 (b := 8) rfl rfl) <| zca rfl (PutN_spec (x * 8) 8 (by omega)) ?_
 rintro _ M3 L3 hM3 ⟨rfl, A6, c6, rfl, hA6⟩
 refine tl_e rfl <| e_buildSlice rfl (by decide) <| fun b5 => .pub b5 iI <| fun M4 hM4 hb5 => ?_
 have hA4' := hA4.mono (hM3.trans hM4)
 have hA6' := hA6.mono hM4
 have hx8 : (x * 8).toNat = x.toNat * 8 % 18446744073709551616 := by rw [UInt64.toNat_mul]; rfl
 rw [hx8] at hA6'
 have hfl : [bs ++ 128 :: List.replicate ((119 - n) % 64) 0, putB (x.toNat * 8 % 18446744073709551616) 8].flatten = bs ++ 128 :: (List.replicate ((119 - n) % 64) 0 ++ putB (x.toNat * 8 % 18446744073709551616) 8) := by simp
 have hfll : (bs ++ 128 :: (List.replicate ((119 - n) % 64) 0 ++ putB (x.toNat * 8 % 18446744073709551616) 8)).length = n + 9 + (119 - n) % 64 := by
  rw [List.length_append, List.length_cons, List.length_append, List.length_replicate, putB_length]; omega
 refine zca rfl (Cat_spec (Row.whole hb5 rfl (by omega)) (.cons hA4' (.cons hA6' .nil)) (by rw [hfl, hfll]; omega)) ?_
 rintro _ M5 L5 hM5 ⟨rfl, A7, c7, rfl, hA7⟩
 rw [hfl, hfll] at hA7
 rw [hfl, hfll]
 have hm := hM2.trans (hM3.trans (hM4.trans hM5))
 refine zca rfl (sWrite_spec (hg.mono hm) hA7 (by omega)) ?_
 rintro _ M6 L6 hM6 ⟨A8, c8, rfl, hA8⟩
 generalize hst : blk s _ _ = st
 refine zq <| .s1 3 rfl <| zr <| as0 rfl <| zq <| zr2 <| mvP rfl <| zc rfl <| tFa rfl <| tLg rfl rfl <| mv0 rfl <| zq <| .s3 5 44 45 rfl rfl rfl <| x_block <| .dropTo L iI ?_
 refine x_loop (I := fun m' F D M7 L7 => ∃ (k : Nat) (A9 : Option Addr) (c9 : Nat), m' = 8 - k ∧ k ≤ 8 ∧ Le M6 M7 ∧ D = [] ∧ Bytes M7 A9 (4 * k) c9 ((st.list.take k).flatMap fun x => putB x.toNat 4) ∧ L = L7 ∧ F = [(5, .slice A9 (4 * k) c9), (44, .agg (st.list.map u32v).toArray), (45, .int .i64 k)]) (8) (F0 := [(5, _), (44, _), (45, _)]) ?_ (cs3 rfl rfl rfl) ?_
 ·
  exact ⟨0, none, 0, rfl, by omega, Le.refl _, rfl, Row.nil _ _, rfl, rfl⟩
 rintro m _ _ M7 L7 ⟨k, A9, c9, rfl, hk, hM7, rfl, hA9, rfl, rfl⟩
 refine zr <| tl_y rfl (y_lss rfl rfl) <| zq <| x_seq <| x_cond rfl (fun hc2 => ?_) (fun hc2 => ?_)
 ·
  refine x_skip <| .then_normal <| x_seq <| x_block <| zr <| tl_y rfl (y_index rfl rfl (by omega) rfl (by rw [List.getElem?_toArray]; show (st.list.map u32v)[(k : Int).toNat * 1]? = _; rw [show (k : Int).toNat * 1 = k by omega]; exact get_u32' _ _ (by show k < 8; omega))) ?_
  refine asI rfl <| zq <| x_region <| mvS rfl <| mvI rfl <| tl_y rfl (y_u32u64 rfl) <| zca rfl (PutN_spec (st.list.getD k 0).toUInt64 4 (by omega)) ?_
  rintro _ M8 L8 hM8 ⟨rfl, A10, c10, rfl, hA10⟩
  refine tl_e rfl <| e_buildSlice rfl (by decide) <| fun b6 => .pub b6 iI <| fun M9 hM9 hb6 => ?_
  have hfl2 : [(st.list.take k).flatMap fun x => putB x.toNat 4, putB (st.list.getD k 0).toUInt64.toNat 4].flatten = (st.list.take (k + 1)).flatMap fun x => putB x.toNat 4 := by
   rw [take_snoc st.list k 0 (by show k < 8; omega)]; simp
  have hfl3 : ((st.list.take (k + 1)).flatMap fun x => putB x.toNat 4).length = 4 * (k + 1) := by
   rw [← hfl2, List.flatten_cons, List.flatten_cons, List.flatten_nil, List.append_nil, List.length_append, hA9.size, putB_length]; omega
  refine zca rfl (Cat_spec (Row.whole hb6 rfl (by omega)) (.cons (hA9.mono (hM8.trans hM9)) (.cons (hA10.mono hM9) .nil)) (by rw [hfl2, hfl3]; omega)) ?_
  rintro _ M10 L10 hM10 ⟨rfl, A11, c11, rfl, hA11⟩
  rw [hfl2, hfl3] at hA11
  rw [hfl2, hfl3]
  refine asS rfl <| tl_nil <| .block_normal <| .then_normal <| .s3 5 44 45 rfl rfl rfl <| x_region <| tl_y rfl (y_addI rfl rfl (by omega)) <| mvI rfl <| tl_nil <| .loop_next (m' := 8 - (k + 1)) (by omega) (F' := [(5, _), (44, _), (45, _)]) (cs3 rfl rfl rfl) ?_
  exact ⟨k + 1, A11, c11, rfl, by omega, hM7.trans (hM8.trans (hM9.trans hM10)), rfl, hA11, rfl, rfl⟩
 refine x_exit <| .then_exit <| .loop_exit <| .block_exit <| .then_normal <| zr <| mvS rfl <| asS rfl <| zq <| .s1 2 rfl <| x_ret (ret1 rfl rfl (hm.trans (hM6.trans hM7)) (by
  obtain rfl : k = 8 := by omega
  exact ⟨rfl, _, _, rfl, hA9⟩))
theorem One_spec (hg : ShaG M) {A : Option Addr} {n c : Nat} {bs : List UInt8} (h : Bytes M A n c bs) (hn : n ≤ 1099511627776) :
  Con Tryz.prog 232 #[.slice A n c] G M L (fun r M' L' => L' = L ∧ ∃ A' c', r = .slice A' 32 c' ∧ Bytes M' A' 32 c' (sha bs)) noPanic := by
 have hbl := h.size
 refine zfn Tryz.func232 rfl 10 rfl <| zr <| as0 rfl <| zq <| zr <| zca rfl (sNew_spec hg) ?_
 rintro _ M1 L1 hM1 ⟨rfl, p, rfl, rfl⟩
 refine asP rfl <| zq <| zr <| mvP rfl <| mvS rfl <| zca rfl (sWrite_spec hg h hn) ?_
 rintro _ M2 L2 hM2 ⟨A2, c2, rfl, hA2⟩
 refine zq <| .s1 3 rfl <| zr <| mvP rfl <| zca rfl (sSum_spec (hg.mono hM2) hA2 (by omega)) ?_
 rintro _ M3 L3 hM3 ⟨rfl, A3, c3, rfl, hA3⟩
 refine asS rfl <| zq <| x_ret (ret1 rfl rfl (hM2.trans hM3) ⟨rfl, A3, c3, rfl, by
  rw [sha_parts bs, hbl]
  rw [show n - 64 * (n / 64) + 9 + (119 - (n - 64 * (n / 64))) % 64 = n % 64 + 9 + (119 - n % 64) % 64 by omega, show (119 - (n - 64 * (n / 64))) % 64 = (119 - n % 64) % 64 by omega, ofInt64] at hA3
  rw [show ((0 : UInt64) + UInt64.ofNat n).toNat * 8 % 18446744073709551616 = n * 8 % 18446744073709551616 by rw [UInt64.toNat_add, UInt64.toNat_ofNat']; simp] at hA3
  exact hA3⟩)
end
structure OtsV where
 code : UInt32
 kind : Int
 n : Int
 w : Int
 p : Int
 shift : Int
deriving DecidableEq
structure TreeV where
 code : UInt32
 kind : Int
 n : Int
 h : Int
deriving DecidableEq
abbrev OtsV.cells (o : OtsV) : List Value := [.int .u32 (o.code.toNat : Int), .int .i64 o.kind, .int .i64 o.n, .int .i64 o.w, .int .i64 o.p, .int .i64 o.shift]
abbrev TreeV.cells (t : TreeV) : List Value := [.int .u32 (t.code.toNat : Int), .int .i64 t.kind, .int .i64 t.n, .int .i64 t.h]
def ots0 : OtsV := ⟨0, 0, 0, 0, 0, 0⟩
def tree0 : TreeV := ⟨0, 0, 0, 0⟩
def t8 (i : Nat) : Nat := if i = 0 then 0 else Nat.log2 i + 1
def lenT (x : Nat) : Nat := if 256 ≤ x then 8 + t8 (x / 256) else t8 x
def shU (n w : Nat) : Nat := 8 * n / w
def shX (n w : Nat) : Nat := (2 ^ w - 1) * shU n w
def shV (n w : Nat) : Nat := (lenT (shX n w) + w - 1) / w
def shS (n w : Nat) : Nat := 16 - shV n w * w
def isW (w : Nat) : Prop := w = 1 ∨ w = 2 ∨ w = 4 ∨ w = 8
def isN (n : Nat) : Prop := n = 24 ∨ n = 32
theorem shape_fact {n w : Nat} (hn : isN n) (hw : isW w) : (1 ≤ w ∧ w ≤ 8) ∧ shX n w < 65536 ∧ shV n w * w ≤ 16 ∧ shU n w ≤ 256 ∧ 1 ≤ shU n w ∧ shV n w ≤ 9 ∧ 1 ≤ shV n w ∧ lenT (shX n w) ≤ 16 ∧ 2 ^ w ≤ 256 ∧ 2 ≤ 2 ^ w := by
 rcases hn with rfl | rfl <;> rcases hw with rfl | rfl | rfl | rfl <;> decide
theorem shape_loop {n w : Nat} (hn : isN n) (hw : isW w) : ∀ k : Fin 10, k.val ≤ shV n w → (0 < shX n w / (2 ^ w) ^ k.val ↔ k.val < shV n w) := by
 rcases hn with rfl | rfl <;> rcases hw with rfl | rfl | rfl | rfl <;> decide
theorem all256 {p : Nat → Prop} (h : ∀ i : Fin 256, p i.val) (x : Nat) (hx : x < 256) : p x := h ⟨x, hx⟩
theorem t8_le (i : Nat) (h : i < 256) : t8 i ≤ 8 := all256 (p := fun i => t8 i ≤ 8) (by decide +kernel) i h
def pw2 (k : Nat) : Nat := 2 ^ k
theorem pw2_succ (k : Nat) : ((pw2 k : Nat) : Int) * 2 = ((pw2 (k + 1) : Nat) : Int) := by rw [pw2, pw2, Nat.pow_succ]; simp
theorem pw2_le {j k : Nat} (h : j ≤ k) : pw2 j ≤ pw2 k := Nat.pow_le_pow_right (by omega) h
theorem pw2_w {w : Nat} (h : isW w) : 2 ≤ pw2 w ∧ pw2 w ≤ 256 := by rcases h with rfl | rfl | rfl | rfl <;> decide
theorem shl1_w {w : Nat} (h : isW w) : IntKind.i64.wrap (1 * 2 ^ (min ((w : Nat) : Int).toNat IntKind.i64.bits)) = ((2 ^ w : Nat) : Int) := by
 rcases h with rfl | rfl | rfl | rfl <;> rfl
def szN (i : Nat) : Nat := if i % 2 = 1 then 24 else 32
def otsT (i : Nat) : OtsV := ⟨UInt32.ofNat (i + 1), ((i / 8 : Nat) : Int), ((szN (i / 4) : Nat) : Int), ((2 ^ (i % 4) : Nat) : Int), ((shU (szN (i / 4)) (2 ^ (i % 4)) + shV (szN (i / 4)) (2 ^ (i % 4)) : Nat) : Int), ((shS (szN (i / 4)) (2 ^ (i % 4)) : Nat) : Int)⟩
theorem szN_is (i : Nat) : isN (szN i) := by unfold szN; split; exact .inl rfl; exact .inr rfl
theorem w_is (i : Nat) : isW (2 ^ (i % 4)) := by
 rcases (by omega : i % 4 = 0 ∨ i % 4 = 1 ∨ i % 4 = 2 ∨ i % 4 = 3) with h | h | h | h <;> rw [h]
 ·
  exact .inl rfl
 ·
  exact .inr (.inl rfl)
 ·
  exact .inr (.inr (.inl rfl))
 exact .inr (.inr (.inr rfl))
def otsOf (c : UInt32) : Option OtsV := if 1 ≤ c.toNat ∧ c.toNat ≤ 16 then some (otsT (c.toNat - 1)) else none
def otsV (c : UInt32) : OtsV := (otsOf c).getD ots0
def otsE (c : UInt32) : Int := if (otsOf c).isSome then 0 else 4
def treeT (c : UInt32) (i each : Nat) : TreeV := ⟨c, ((i / each / 2 : Nat) : Int), ((szN (i / each) : Nat) : Int), ((if each = 5 then 5 * (1 + i % 5) else 1 + i % 4 : Nat) : Int)⟩
def treeOf (c : UInt32) : Option TreeV :=
 if 5 ≤ c.toNat ∧ c.toNat ≤ 24 then some (treeT c (c.toNat - 5) 5)
 else if 4026531841 ≤ c.toNat ∧ c.toNat ≤ 4026531856 then some (treeT c (c.toNat - 4026531841) 4) else none
def treeV (c : UInt32) : TreeV := (treeOf c).getD tree0
def treeE (c : UInt32) : Int := if (treeOf c).isSome then 0 else 4
def okC (kind n : Int) : Prop := (kind = 0 ∨ kind = 1) ∧ (n = 24 ∨ n = 32)
instance {kind n : Int} : Decidable (okC kind n) := inferInstanceAs (Decidable (_ ∧ _))
def okR (o : OtsV) (nl : Nat) (i : Int) (xl : Nat) : Prop := otsE o.code = 0 ∧ otsV o.code = o ∧ nl = 16 ∧ 0 ≤ i ∧ i < o.p ∧ (xl : Int) = o.n
instance {o : OtsV} {nl : Nat} {i : Int} {xl : Nat} : Decidable (okR o nl i xl) := inferInstanceAs (Decidable (_ ∧ _))
theorem otsE_some {c : UInt32} (h : otsE c = 0) : ∃ k, k < 16 ∧ otsOf c = some (otsT k) ∧ otsV c = otsT k ∧ c.toNat = k + 1 := by
 unfold otsE at h
 unfold otsV
 by_cases hc : 1 ≤ c.toNat ∧ c.toNat ≤ 16
 ·
  have e : otsOf c = some (otsT (c.toNat - 1)) := by rw [otsOf, if_pos hc]
  exact ⟨c.toNat - 1, by omega, e, by rw [e]; rfl, by omega⟩
 rw [show otsOf c = none by rw [otsOf, if_neg hc]] at h
 exact absurd h (by decide)
theorem otsT_facts {k : Nat} (h : k < 16) : okC (otsT k).kind (otsT k).n ∧ 26 ≤ (otsT k).p ∧ (otsT k).p ≤ 265 ∧ ∃ w, isW w ∧ (otsT k).w = ((w : Nat) : Int) := by
 have hs := szN_is (k / 4)
 have hw := w_is k
 have hf := shape_fact hs hw
 have : ∀ j : Fin 16, okC (otsT j.val).kind (otsT j.val).n ∧ 26 ≤ (otsT j.val).p ∧ (otsT j.val).p ≤ 265 := by decide +kernel
 obtain ⟨h1, h2, h3⟩ := this ⟨k, h⟩
 exact ⟨h1, h2, h3, 2 ^ (k % 4), hw, rfl⟩
theorem okR_facts {o : OtsV} {nl : Nat} {i : Int} {xl : Nat} (h : okR o nl i xl) : okC o.kind o.n ∧ o.p ≤ 265 ∧ ∃ w, isW w ∧ o.w = ((w : Nat) : Int) := by
 obtain ⟨h1, h2, _⟩ := h
 obtain ⟨k, hk, e1, e2, _⟩ := otsE_some h1
 rw [← h2, e2]
 exact ⟨(otsT_facts hk).1, (otsT_facts hk).2.2.1, (otsT_facts hk).2.2.2⟩
theorem ots_eq {a b : OtsV} (h : (a.code.toNat : Int) = b.code.toNat ∧ a.kind = b.kind ∧ a.n = b.n ∧ a.w = b.w ∧ a.p = b.p ∧ a.shift = b.shift ∧ True) : a = b := by
 obtain ⟨h1, h2, h3, h4, h5, h6, _⟩ := h
 cases a; cases b
 simp only [OtsV.mk.injEq]
 exact ⟨UInt32.toNat_inj.1 (Int.ofNat_inj.1 h1), h2, h3, h4, h5, h6⟩
theorem eq_ots {a b : OtsV} (h : a = b) : (a.code.toNat : Int) = b.code.toNat ∧ a.kind = b.kind ∧ a.n = b.n ∧ a.w = b.w ∧ a.p = b.p ∧ a.shift = b.shift ∧ True := by
 subst h; exact ⟨rfl, rfl, rfl, rfl, rfl, rfl, trivial⟩
end Go.Proofs.YtplkoemjffplcaaGreatDoor
