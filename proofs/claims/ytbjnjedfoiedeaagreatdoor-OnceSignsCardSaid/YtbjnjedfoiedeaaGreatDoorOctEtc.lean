/-
Contracts of functions, each proved by a walk through its code.
-/
import Derived.Test.YtbjnjedfoiedeaaGreatDoorKecEtc
import Derived.Test.YtbjnjedfoiedeaaGreatDoorEngWEtc
set_option linter.unusedVariables false
set_option linter.unusedSimpArgs false
namespace Go.Proofs.YtbjnjedfoiedeaaGreatDoor
open Go Go.Eng
section
variable {G : World} {M : Mem} {L : Own}
theorem shr_byte (v : UInt64) (k : Nat) : (shr64 v (8 * k)).toUInt8 = UInt8.ofNat (v.toNat / 256 ^ k % 256) := by
  have hv := v.toNat_lt
  apply UInt8.toNat_inj.1
  rw [UInt64.toNat_toUInt8, shr64, UInt64.toNat_ofNat', UInt8.toNat_ofNat', Nat.pow_mul]
  have : v.toNat / (2 ^ 8) ^ k ≤ v.toNat := Nat.div_le_self _ _
  rw [show (2 : Nat) ^ 8 = 256 by rfl] at this ⊢
  omega
theorem Put_spec (v : UInt64) (n : Int) :
    Con Tryz.prog 43 #[.int .u64 (v.toNat : Int), .int .i64 n] G M L (fun r M' L' => L = L' ∧ if 0 ≤ n ∧ n ≤ 8 then ∃ A c, r = .slice A n.toNat c ∧ Bytes M' A n.toNat c (putB v.toNat n.toNat) else r = .slice none 0 0) noPanic := by
  refine enter (args := [_, _]) (fn := Tryz.f43) ⟨Tryz.func43, rfl, by kernel_rfl, by kernel_rfl⟩ 32 rfl ?_
  refine x_seq (x_region ?_)
  refine tl_y rfl (y_assign rfl) ?_
  refine tl_nil (.then_normal ?_)
  refine x_seq (x_seq (x_region ?_))
  refine tl_y rfl (y_move (v := .int _ _) rfl) ?_
  refine tl_y rfl (y_lss rfl rfl) ?_
  refine tl_y rfl (y_move (v := .bool _) rfl) ?_
  refine tl_cases (s := 9) rfl (fun hk1 => ?_) (fun hk1 => ?_)
  ·
    refine tl_skip rfl ?_
    refine tl_skip rfl ?_
    refine tl_y rfl (y_pickT rfl rfl) ?_
    refine tl_nil (.then_normal ?_)
    refine .sub (F' := [(0, _), (1, _), (12, _)]) (.cons rfl (.cons rfl (.cons rfl .nil))) ?_
    refine x_true rfl rfl ?_
    refine x_seq (x_region ?_)
    refine tl_y rfl (y_assign rfl) ?_
    refine tl_nil (.then_normal ?_)
    refine x_ret (.then_ret (ret1 rfl rfl (Le.refl _) ⟨rfl, by rw [if_neg (by omega)]⟩))
  ·
    refine tl_y rfl (y_move (v := .int _ _) rfl) ?_
    refine tl_y rfl (y_gtr rfl rfl) ?_
    refine tl_y rfl (y_pickF rfl rfl) ?_
    refine tl_nil (.then_normal ?_)
    refine .sub (F' := [(0, _), (1, _), (12, _)]) (.cons rfl (.cons rfl (.cons rfl .nil))) ?_
    refine x_cond rfl (fun hc1 => ?_) (fun hc1 => ?_)
    ·
      refine x_seq (x_region ?_)
      refine tl_y rfl (y_assign rfl) ?_
      refine tl_nil (.then_normal ?_)
      refine x_ret (.then_ret (ret1 rfl rfl (Le.refl _) ⟨rfl, by rw [if_neg (by omega)]⟩))
    ·
      obtain ⟨n, rfl⟩ : ∃ k : Nat, n = k := ⟨n.toNat, by omega⟩
      refine x_skip (.then_normal ?_)
      refine x_seq (x_region ?_)
      refine tl_y rfl (y_move (v := .int _ _) rfl) ?_
      refine tl_e rfl (e_make1 rfl rfl (by omega) (by omega) (by omega) (by omega) (fun b1 => ?_))
      simp only [Int.toNat_natCast]
      refine tl_y rfl (y_assign (v := .slice _ _ _) rfl) ?_
      refine tl_nil (.then_normal ?_)
      refine x_seq (x_seq (x_region ?_))
      refine tl_y rfl (y_move (v := .int _ _) rfl) ?_
      refine tl_y rfl (y_move rfl) ?_
      refine tl_nil (.then_normal ?_)
      refine x_block ?_
      refine x_loop (I := fun m' F D M1 L1 => ∃ k : Nat, m' = n - k ∧ k ≤ n ∧ D = [] ∧ M = M1 ∧ L1 = (b1, .cells ((List.replicate (n - k) (0 : UInt8) ++ (putB v.toNat n).drop (n - k)).map bv).toArray 5 (0, 0)) :: L ∧ F = [(0, .int .u64 (v.toNat : Int)), (1, .int .i64 n), (5, .slice (some ⟨b1, 0, none⟩) n n), (15, .int .i64 n), (16, .int .i64 k)]) (n) (F0 := [(0, _), (1, _), (5, _), (15, _), (16, _)]) ?_ (.cons rfl (.cons rfl (.cons rfl (.cons rfl (.cons rfl .nil))))) ?_  -- slots [0, 1, 5, 15, 16], written [16]
      · exact ⟨0, rfl, by omega, rfl, rfl, by rw [Nat.sub_zero, List.drop_of_length_le (by rw [putB_length]; omega), List.append_nil, List.map_replicate]; rfl, rfl⟩
      rintro m _ _ M1 L1 ⟨k, rfl, hk, rfl, rfl, rfl, rfl⟩
      refine x_seq (x_region ?_)
      refine tl_y rfl (y_lss rfl rfl) ?_
      refine tl_nil (.then_normal ?_)
      refine x_seq ?_
      refine x_cond rfl (fun hc2 => ?_) (fun hc2 => ?_)
      ·
        refine x_skip (.then_normal ?_)
        refine x_seq ?_
        refine x_block ?_
        refine x_seq (x_region ?_)
        refine tl_y rfl (y_move (v := .int _ _) rfl) ?_
        refine tl_y rfl (y_assign (v := .int _ _) rfl) ?_
        refine tl_nil (.then_normal ?_)
        refine x_region ?_
        refine tl_y rfl (y_move (v := .slice _ _ _) rfl) ?_
        refine tl_y rfl (y_move (v := .int _ _) rfl) ?_
        refine tl_y rfl (y_subI rfl rfl (by omega)) ?_
        refine tl_y rfl (y_move (v := .int _ _) rfl) ?_
        refine tl_y rfl (y_subI rfl rfl (by omega)) ?_
        refine tl_y rfl (y_move (v := .int _ _) rfl) ?_
        refine tl_y rfl (y_move (v := .int _ _) rfl) ?_
        refine tl_y rfl (y_mulI rfl rfl (by omega)) ?_
        refine tl_y rfl (y_shr64 (s := 8 * k) rfl rfl) ?_
        refine tl_y rfl (y_u64u8 rfl) ?_
        rw [shr_byte]
        refine tl_y rfl (y_indexAddr rfl rfl (by omega)) ?_
        refine tl_e rfl (e_storeAt (c := (List.replicate (n - k) (0 : UInt8) ++ (putB v.toNat n).drop (n - k)).map bv) (v := bv _) (o := n - 1 - k) (by show some (Value.pointer (some ⟨b1, _, none⟩)) = _; congr 4; omega) rfl rfl inferInstance (by simp [putB_length]; omega) inferInstance ?_)
        rw [← List.map_set, put_step v.toNat n k (by omega)]
        refine tl_nil (.block_normal (.then_normal ?_))
        refine .sub (F' := [(0, _), (1, _), (5, _), (15, _), (16, _)]) (.cons rfl (.cons rfl (.cons rfl (.cons rfl (.cons rfl .nil))))) ?_
        refine x_region ?_
        refine tl_y rfl (y_addI rfl rfl (by omega)) ?_
        refine tl_y rfl (y_move (v := .int _ _) rfl) ?_
        refine tl_nil (.loop_next (m' := n - (k + 1)) (by omega) (F' := [(0, _), (1, _), (5, _), (15, _), (16, _)]) (.cons rfl (.cons rfl (.cons rfl (.cons rfl (.cons rfl .nil))))) ?_)
        exact ⟨k + 1, rfl, by omega, rfl, rfl, rfl, rfl⟩
      ·
        refine x_exit (.then_exit (.loop_exit (.block_exit (.then_normal ?_))))
        refine .sub (F' := [(5, _)]) (.cons rfl .nil) ?_
        refine x_seq (x_region ?_)
        refine tl_y rfl (y_move (v := .slice _ _ _) rfl) ?_
        refine tl_y rfl (y_assign (v := .slice _ _ _) rfl) ?_
        refine tl_nil (.then_normal ?_)
        obtain rfl : k = n := by omega
        refine x_ret (.pub b1 inferInstance fun M' hle hm => ret1 rfl rfl hle ⟨rfl, ?_⟩)
        rw [if_pos (by omega)]
        rw [Nat.sub_self, List.replicate_zero, List.nil_append, List.drop_zero] at hm
        exact ⟨_, _, rfl, Row.whole hm (by simp [putB_length]) (by omega)⟩
theorem PutN_spec (v : UInt64) (n : Nat) (hn : n ≤ 8) :
    Con Tryz.prog 43 #[.int .u64 (v.toNat : Int), .int .i64 (n : Int)] G M L (fun r M' L' => L = L' ∧ ∃ A c, r = .slice A n c ∧ Bytes M' A n c (putB v.toNat n)) noPanic := by
  refine (Put_spec v n).post fun r M' L' hM hr => ?_
  rw [if_pos (by omega)] at hr
  simpa using hr
theorem Get_spec {A : Option Addr} {n c : Nat} {bs : List UInt8} (h : Bytes M A n c bs) :
    Con Tryz.prog 45 #[.slice A n c] G M L (fun r M' L' => M = M' ∧ L = L' ∧ r = if n ≤ 8 then .tuple #[.int .u64 (getB bs : Int), .bool true] else .tuple #[.int .u64 0, .bool false]) noPanic := by
  have hs := h.size
  refine enter (args := [_]) (fn := Tryz.f45) ⟨Tryz.func45, rfl, by kernel_rfl, by kernel_rfl⟩ 23 rfl ?_
  refine x_seq (x_region ?_)
  refine tl_y rfl (y_assign rfl) ?_
  refine tl_y rfl (y_assign rfl) ?_
  refine tl_nil (.then_normal ?_)
  refine x_seq (x_seq (x_region ?_))
  refine tl_y rfl (y_move (v := .slice _ _ _) rfl) ?_
  refine tl_y rfl (y_len rfl) ?_
  refine tl_y rfl (y_gtr rfl rfl) ?_
  refine tl_nil (.then_normal ?_)
  refine .sub (F' := [(0, _), (9, _)]) (.cons rfl (.cons rfl .nil)) ?_
  refine x_cond rfl (fun hc1 => ?_) (fun hc1 => ?_)
  ·
    refine x_seq (x_region ?_)
    refine tl_y rfl (y_assign rfl) ?_
    refine tl_y rfl (y_assign rfl) ?_
    refine tl_nil (.then_normal ?_)
    refine x_ret (.then_ret (ret2 rfl rfl rfl (Le.refl _) ⟨rfl, rfl, by rw [if_neg (by omega)]⟩))
  ·
    refine x_skip (.then_normal ?_)
    refine x_seq (x_region ?_)
    refine tl_y rfl (y_assign rfl) ?_
    refine tl_nil (.then_normal ?_)
    refine x_seq (x_seq (x_region ?_))
    refine tl_y rfl (y_move (v := .slice _ _ _) rfl) ?_
    refine tl_y rfl (y_len rfl) ?_
    refine tl_y rfl (y_move rfl) ?_
    refine tl_nil (.then_normal ?_)
    refine x_block ?_
    refine x_loop (I := fun m' F D M1 L1 => ∃ (k : Nat) (x : UInt64), m' = n - k ∧ k ≤ n ∧ x.toNat = getB (bs.take k) ∧ D = [] ∧ M = M1 ∧ L = L1 ∧ F = [(4, .int .u64 (x.toNat : Int)), (10, .slice A n c), (11, .int .i64 n), (12, .int .i64 k)]) (n) (F0 := [(4, _), (10, _), (11, _), (12, _)]) ?_ (.cons rfl (.cons rfl (.cons rfl (.cons rfl .nil)))) ?_  -- slots [4, 10, 11, 12], written [4, 12]
    · exact ⟨0, 0, rfl, by omega, rfl, rfl, rfl, rfl, rfl⟩
    rintro m _ _ M1 L1 ⟨k, x, rfl, hk, hx, rfl, rfl, rfl, rfl⟩
    refine x_seq (x_region ?_)
    refine tl_y rfl (y_lss rfl rfl) ?_
    refine tl_nil (.then_normal ?_)
    refine x_seq ?_
    refine x_cond rfl (fun hc2 => ?_) (fun hc2 => ?_)
    ·
      have hkn : k < n := by omega
      obtain ⟨g, o, rfl, hca⟩ := h.byte (by omega)
      have hlt : x.toNat < 72057594037927936 := by
        have h1 := getB_lt (bs.take k)
        have h2 : (bs.take k).length = k := by rw [List.length_take]; omega
        have h3 : 256 ^ k ≤ 256 ^ 7 := Nat.pow_le_pow_right (by omega) (by omega)
        rw [h2] at h1
        omega
      refine x_skip (.then_normal ?_)
      refine x_seq ?_
      refine x_block ?_
      refine x_seq (x_region ?_)
      refine tl_y rfl (y_indexAddr rfl rfl (by omega)) ?_
      refine tl_y rfl (y_load rfl rfl (.at_ (hca _ k hkn) (by omega))) ?_
      refine tl_y rfl (y_assign (v := .int _ _) rfl) ?_
      refine tl_nil (.then_normal ?_)
      refine x_region ?_
      refine tl_y rfl (y_move (v := .int _ _) rfl) ?_
      refine tl_y rfl (y_shl64 (s := 8) rfl rfl) ?_
      refine tl_y rfl (y_move (v := .int _ _) rfl) ?_
      refine tl_y rfl (y_u8u64 rfl) ?_
      refine tl_y rfl (y_or64 rfl rfl) ?_
      refine tl_y rfl (y_assign (v := .int _ _) rfl) ?_
      refine tl_nil (.block_normal (.then_normal ?_))
      refine .sub (F' := [(4, _), (10, _), (11, _), (12, _)]) (.cons rfl (.cons rfl (.cons rfl (.cons rfl .nil)))) ?_
      refine x_region ?_
      refine tl_y rfl (y_addI rfl rfl (by omega)) ?_
      refine tl_y rfl (y_move (v := .int _ _) rfl) ?_
      refine tl_nil (.loop_next (m' := n - (k + 1)) (by omega) (F' := [(4, _), (10, _), (11, _), (12, _)]) (.cons rfl (.cons rfl (.cons rfl (.cons rfl .nil)))) ?_)
      exact ⟨k + 1, _, rfl, by omega, by rw [get_step _ _ hlt, hx, take_snoc bs k 0 (by omega), getB_snoc], rfl, rfl, rfl, rfl⟩
    ·
      refine x_exit (.then_exit (.loop_exit (.block_exit (.then_normal ?_))))
      refine .sub (F' := [(4, _)]) (.cons rfl .nil) ?_
      refine x_seq (x_region ?_)
      refine tl_y rfl (y_move (v := .int _ _) rfl) ?_
      refine tl_y rfl (y_assign (v := .int _ _) rfl) ?_
      refine tl_y rfl (y_assign rfl) ?_
      refine tl_nil (.then_normal ?_)
      refine x_ret (ret2 rfl rfl rfl (Le.refl _) ⟨rfl, rfl, by rw [if_pos (by omega), hx, List.take_of_length_le (by omega)]⟩)
theorem Get8_spec {A : Option Addr} {n c : Nat} {bs : List UInt8} (h : Bytes M A n c bs) (hn : n ≤ 8) :
    Con Tryz.prog 45 #[.slice A n c] G M L (fun r M' L' => M = M' ∧ L = L' ∧ ∃ x : UInt64, x.toNat = getB bs ∧ r = .tuple #[.int .u64 (x.toNat : Int), .bool true]) noPanic := by
  refine (Get_spec h).post fun r M' L' hM ⟨h1, h2, hr⟩ => ⟨h1, h2, UInt64.ofNat (getB bs), ?_, ?_⟩
  · have h3 := getB_lt bs
    have h4 : 256 ^ bs.length ≤ 256 ^ 8 := Nat.pow_le_pow_right (by omega) (by have := h.size; omega)
    rw [UInt64.toNat_ofNat']
    omega
  · have h3 := getB_lt bs
    have h4 : 256 ^ bs.length ≤ 256 ^ 8 := Nat.pow_le_pow_right (by omega) (by have := h.size; omega)
    rw [if_pos hn] at hr
    rw [hr, UInt64.toNat_ofNat', Nat.mod_eq_of_lt (by omega)]
theorem bytesJoin_spec {A : Option Addr} {n c : Nat} {vs : List Value} {bss : List (List UInt8)} (h : Row M 1 A n c vs) (hb : BRows M vs bss) (hn : bss.flatten.length ≤ 1099511627776) :
    Con Tryz.prog 65 #[.slice A n c, .slice none 0 0] G M L (fun v M' L' => L = L' ∧ ∃ A' c', v = .slice A' bss.flatten.length c' ∧ Bytes M' A' bss.flatten.length c' bss.flatten) noPanic := by
  have hvl := hb.len
  have hnl : vs.length = n := by have := h.len; omega
  have hmx := h.max
  have hle := h.le
  refine enter (args := [_, _]) (fn := Tryz.f65) ⟨Tryz.func65, rfl, by kernel_rfl, by kernel_rfl⟩ 92 rfl ?_
  refine x_seq (x_region ?_)
  refine tl_y rfl (y_assign rfl) ?_
  refine tl_nil (.then_normal ?_)
  refine x_seq (x_seq (x_region ?_))
  refine tl_y rfl (y_move (v := .slice _ _ _) rfl) ?_
  refine tl_y rfl (y_len rfl) ?_
  refine tl_y rfl (y_eql rfl rfl) ?_
  refine tl_nil (.then_normal ?_)
  refine x_cond rfl (fun hc1 => ?_) (fun hc1 => ?_)
  ·
    obtain rfl : bss = [] := List.eq_nil_of_length_eq_zero (by omega)
    refine x_seq (x_region ?_)
    refine tl_e rfl (e_buildSlice0 (fun b1 => ?_))
    refine tl_y rfl (y_assign (v := .slice _ _ _) rfl) ?_
    refine tl_nil (.then_normal ?_)
    refine .sub (F' := [(4, _)]) (.cons rfl .nil) ?_
    refine x_ret (.pub b1 inferInstance fun M' hle hm => (.then_ret (ret1 rfl rfl hle ⟨rfl, _, _, rfl, Row.whole hm rfl (by simp)⟩)))
  ·
    refine x_skip (.then_normal ?_)
    refine .sub (F' := [(0, _), (1, _)]) (.cons rfl (.cons rfl .nil)) ?_
    refine x_seq (x_seq (x_region ?_))
    refine tl_y rfl (y_move (v := .slice _ _ _) rfl) ?_
    refine tl_y rfl (y_len rfl) ?_
    refine tl_y rfl (y_eql rfl rfl) ?_
    refine tl_nil (.then_normal ?_)
    refine x_cond rfl (fun hc2 => ?_) (fun hc2 => ?_)
    ·
      obtain ⟨g, o, rfl, hcell⟩ := h.addr (by omega)
      obtain ⟨A1, n1, c1, hv1, hb1⟩ := hb.get 0 (by omega)
      have hn1 := hb1.size
      have hone : bss = [bss.getD 0 []] := by
        match bss, hvl with
        | [x], _ => rfl
        | [], hvl => rw [List.length_nil] at hvl; omega
        | _ :: _ :: _, hvl => rw [List.length_cons, List.length_cons] at hvl; omega
      have hfl : bss.flatten = bss.getD 0 [] := by conv => lhs; rw [hone]
                                                   simp
      have hn1' : n1 = bss.flatten.length := by rw [hfl]; omega
      refine x_seq (x_region ?_)
      refine tl_y rfl (y_move (v := .slice _ _ _) rfl) ?_
      refine tl_y rfl (y_indexAddrK 0 rfl rfl (by omega)) ?_
      refine tl_y rfl (y_load rfl rfl (.at_ (hcell _ 0 _ hv1) (by omega))) ?_
      refine tl_e rfl (e_append (E := []) (by decide) rfl rfl OwnRow.nil (.row hb1) (all_one_bv _) (by omega) (by omega) (fun A2 cap2 E2 hE2 => ?_))
      rw [Nat.zero_add, List.nil_append] at hE2
      rw [Nat.zero_add]
      refine tl_y rfl (y_assign (v := .slice _ _ _) rfl) ?_
      refine tl_nil (.then_normal ?_)
      refine .sub (F' := [(4, _)]) (.cons rfl .nil) ?_
      refine x_ret (.then_ret (.pubRow hE2 fun M' hle hr => ret1 rfl rfl hle ⟨rfl, ?_⟩))
      rw [hfl] at hn1' ⊢
      rw [← hn1']
      exact ⟨_, _, rfl, hr⟩
    ·
      refine x_skip (.then_normal ?_)
      refine x_seq (x_region ?_)
      refine tl_y rfl (y_assign rfl) ?_
      refine tl_nil (.then_normal ?_)
      refine x_seq (x_seq (x_region ?_))
      refine tl_y rfl (y_move (v := .slice _ _ _) rfl) ?_
      refine tl_y rfl (y_len rfl) ?_
      refine tl_y rfl (y_gtr rfl rfl) ?_
      refine tl_nil (.then_normal ?_)
      refine .sub (F' := [(0, _), (1, _), (5, _), (25, _)]) (.cons rfl (.cons rfl (.cons rfl (.cons rfl .nil)))) ?_
      refine x_false rfl (by simp) ?_
      refine x_skip (.then_normal ?_)
      refine x_seq (x_seq (x_region ?_))
      refine tl_y rfl (y_move (v := .slice _ _ _) rfl) ?_
      refine tl_y rfl (y_len rfl) ?_
      refine tl_y rfl (y_move rfl) ?_
      refine tl_nil (.then_normal ?_)
      refine x_block ?_
      refine x_loop (I := fun m' F D M1 L1 => ∃ k : Nat, m' = n - k ∧ k ≤ n ∧ M = M1 ∧ D = [] ∧ L = L1 ∧ F = [(0, .slice A n c), (1, .slice none 0 0), (5, .int .i64 ((bss.take k).flatten.length : Nat)), (42, .slice A n c), (43, .int .i64 n), (44, .int .i64 k)]) (n) (F0 := [(0, _), (1, _), (5, _), (42, _), (43, _), (44, _)]) ?_ (.cons rfl (.cons rfl (.cons rfl (.cons rfl (.cons rfl (.cons rfl .nil)))))) ?_  -- slots [0, 1, 5, 42, 43, 44], written [5, 44]
      · exact ⟨0, rfl, by omega, rfl, rfl, rfl, rfl⟩
      rintro m _ _ M1 L1 ⟨k, rfl, hk, rfl, rfl, rfl, rfl⟩
      refine x_seq (x_region ?_)
      refine tl_y rfl (y_lss rfl rfl) ?_
      refine tl_nil (.then_normal ?_)
      refine x_seq ?_
      refine x_cond rfl (fun hc4 => ?_) (fun hc4 => ?_)
      ·
        have hkn : k < n := by omega
        obtain ⟨g, o, rfl, hcell⟩ := h.addr (by omega)
        obtain ⟨A1, n1, c1, hv1, hb1⟩ := hb.get k (by omega)
        have hn1 := hb1.size
        have hf1 := flatten_take_le bss (k + 1)
        have hf2 : (bss.take (k + 1)).flatten.length = (bss.take k).flatten.length + n1 := by
          rw [take_snoc bss k [] (by omega), List.flatten_append, List.length_append, List.flatten_singleton, hn1]
        refine x_skip (.then_normal ?_)
        refine x_seq ?_
        refine x_block ?_
        refine x_seq (x_region ?_)
        refine tl_y rfl (y_indexAddr rfl rfl (by omega)) ?_
        refine tl_y rfl (y_load rfl rfl (.at_ (hcell L k _ hv1) (by omega))) ?_
        refine tl_y rfl (y_assign (v := .slice _ _ _) rfl) ?_
        refine tl_nil (.then_normal ?_)
        refine x_seq (x_seq (x_region ?_))
        refine tl_y rfl (y_move (v := .slice _ _ _) rfl) ?_
        refine tl_y rfl (y_len rfl) ?_
        refine tl_y rfl (y_move (v := .int _ _) rfl) ?_
        refine tl_y rfl (y_subI rfl rfl (by omega)) ?_
        refine tl_y rfl (y_gtr rfl rfl) ?_
        refine tl_nil (.then_normal ?_)
        refine .sub (F' := [(0, _), (1, _), (5, _), (7, _), (42, _), (43, _), (44, _), (52, _)]) (.cons rfl (.cons rfl (.cons rfl (.cons rfl (.cons rfl (.cons rfl (.cons rfl (.cons rfl .nil)))))))) ?_
        refine x_cond rfl (fun hc5 => ?_) (fun hc5 => ?_)
        ·
          omega
        ·
          refine x_skip (.then_normal ?_)
          refine x_region ?_
          refine tl_y rfl (y_move (v := .int _ _) rfl) ?_
          refine tl_y rfl (y_move (v := .slice _ _ _) rfl) ?_
          refine tl_y rfl (y_len rfl) ?_
          refine tl_y rfl (y_addI rfl rfl (by omega)) ?_
          refine tl_y rfl (y_assign (v := .int _ _) rfl) ?_
          refine tl_nil (.block_normal (.then_normal ?_))
          refine .sub (F' := [(0, _), (1, _), (5, _), (42, _), (43, _), (44, _)]) (.cons rfl (.cons rfl (.cons rfl (.cons rfl (.cons rfl (.cons rfl .nil)))))) ?_
          refine x_region ?_
          refine tl_y rfl (y_addI rfl rfl (by omega)) ?_
          refine tl_y rfl (y_move (v := .int _ _) rfl) ?_
          refine tl_nil (.loop_next (m' := n - (k + 1)) (by omega) (F' := [(0, _), (1, _), (5, _), (42, _), (43, _), (44, _)]) (.cons rfl (.cons rfl (.cons rfl (.cons rfl (.cons rfl (.cons rfl .nil)))))) ?_)
          exact ⟨k + 1, rfl, by omega, rfl, rfl, rfl, by rw [hf2]; rfl⟩
      ·
        obtain rfl : k = bss.length := by omega
        rw [List.take_length]
        generalize hN : bss.flatten.length = N at hn
        obtain ⟨g, o, hAe, hcell⟩ := h.addr (by omega)
        subst hAe
        obtain ⟨A1, n1, c1, hv1, hb1⟩ := hb.get 0 (by omega)
        have hn1 := hb1.size
        have hf1 := flatten_take_le bss 1
        have hf2 : (bss.take 1).flatten = bss.getD 0 [] := by
          rw [take_snoc bss 0 [] (by omega)]; simp
        refine x_exit (.then_exit (.loop_exit (.block_exit (.then_normal ?_))))
        refine .sub (F' := [(0, _), (1, _), (5, _)]) (.cons rfl (.cons rfl (.cons rfl .nil))) ?_
        refine x_seq (x_region ?_)
        refine tl_y rfl (y_move (v := .int _ _) rfl) ?_
        refine tl_e rfl (e_noZero (t := 22) (ps := #[3]) Tryz.func80 (by kernel_rfl) (by kernel_rfl) (by kernel_rfl) (by kernel_rfl) rfl (by omega) (fun b9 cs hc1 hc2 => ?_))
        simp only [Int.toNat_natCast] at hc1 ⊢
        refine tl_y rfl (y_move (v := .int _ _) rfl) ?_
        refine tl_y rfl (y_move (v := .int _ _) rfl) ?_
        refine tl_y rfl (y_slice3 rfl rfl rfl (by omega) (by omega)) ?_
        simp only [Int.toNat_natCast, sl0]
        refine tl_y rfl (y_assign (v := .slice _ _ _) rfl) ?_
        refine tl_nil (.then_normal ?_)
        refine .sub (F' := [(0, _), (1, _), (8, _)]) (.cons rfl (.cons rfl (.cons rfl .nil))) ?_
        refine x_seq (x_region ?_)
        refine tl_y rfl (y_move (v := .slice _ _ _) rfl) ?_
        refine tl_y rfl (y_move (v := .slice _ _ _) rfl) ?_
        refine tl_y rfl (y_indexAddrK 0 rfl rfl (by omega)) ?_
        refine tl_y rfl (y_load rfl rfl (.at_ (hcell _ 0 _ hv1) (by omega))) ?_
        refine tl_e rfl (e_copy (b := b9) (o := 0) (c := cs) (cs := (bss.getD 0 []).map bv) rfl rfl (by rw [List.length_map]; rw [hf2] at hf1; omega) (fun _ => rfl) (by rw [List.length_map, hn1]; exact .row hb1) inferInstance (by rw [List.length_map]; rw [hf2] at hf1; omega) (all_one_bv _) inferInstance ?_)
        rw [List.length_map, List.take_zero, List.nil_append, Nat.zero_add]
        refine tl_y rfl (y_assign (v := .int _ _) rfl) ?_
        refine tl_nil (.then_normal ?_)
        refine .sub (F' := [(0, _), (1, _), (8, _), (9, _)]) (.cons rfl (.cons rfl (.cons rfl (.cons rfl .nil)))) ?_
        refine x_seq (x_seq (x_region ?_))
        refine tl_y rfl (y_move (v := .slice _ _ _) rfl) ?_
        refine tl_y rfl (y_sliceL rfl rfl (by omega)) ?_
        simp only [Int.toNat_one, sl_pos (show 1 < c by omega)]
        refine tl_y rfl (y_len rfl) ?_
        refine tl_y rfl (y_move rfl) ?_
        refine tl_nil (.then_normal ?_)
        refine x_block ?_
        refine x_loop (I := fun m' F D M1 L1 => ∃ (k : Nat) (slack : List Value), m' = n - 1 - k ∧ k ≤ n - 1 ∧ M = M1 ∧ D = [] ∧ ((bss.take (k + 1)).flatten.map bv ++ slack).length = cs.length ∧ L1 = (b9, .cells ((bss.take (k + 1)).flatten.map bv ++ slack).toArray 5 (0, 0)) :: L ∧ F = [(1, .slice none 0 0), (8, .slice (some ⟨b9, 0, none⟩) N N), (9, .int .i64 ((bss.take (k + 1)).flatten.length : Nat)), (70, .slice (some ⟨g, o + 1 * 1, none⟩) (n - 1) (c - 1)), (71, .int .i64 (n - 1 : Nat)), (72, .int .i64 k)]) (n - 1) (F0 := [(1, _), (8, _), (9, _), (70, _), (71, _), (72, _)]) ?_ (.cons rfl (.cons rfl (.cons rfl (.cons rfl (.cons rfl (.cons rfl .nil)))))) ?_  -- slots [1, 8, 9, 70, 71, 72], written [9, 72]
        · exact ⟨0, cs.drop (bss.getD 0 []).length, rfl, by omega, rfl, rfl, by rw [Nat.zero_add, hf2, List.length_append, List.length_map, List.length_drop]; rw [hf2] at hf1; omega, by rw [Nat.zero_add, hf2], by rw [Nat.zero_add, hf2]; rfl⟩
        rintro m _ _ M1 L1 ⟨k, slack, rfl, hk, rfl, rfl, hsl, rfl, rfl⟩
        refine x_seq (x_region ?_)
        refine tl_y rfl (y_lss rfl rfl) ?_
        refine tl_nil (.then_normal ?_)
        refine x_seq ?_
        refine x_cond rfl (fun hc6 => ?_) (fun hc6 => ?_)
        ·
          have hkn : k < n - 1 := by omega
          obtain ⟨A2, n2, c2, hv2, hb2⟩ := hb.get (k + 1) (by omega)
          have hn2 := hb2.size
          have hf3 := flatten_take_le bss (k + 1 + 1)
          have hf4 : (bss.take (k + 1 + 1)).flatten = (bss.take (k + 1)).flatten ++ bss.getD (k + 1) [] := by
            rw [take_snoc bss (k + 1) [] (by omega), List.flatten_append, List.flatten_singleton]
          have hf5 : (bss.take (k + 1 + 1)).flatten.length = (bss.take (k + 1)).flatten.length + n2 := by rw [hf4, List.length_append, hn2]
          have hsl2 := hsl
          rw [List.length_append, List.length_map] at hsl2
          generalize hP : (bss.take (k + 1)).flatten = pre at hf4 hf5 hsl hsl2
          generalize bss.getD (k + 1) [] = bk at hb2 hn2 hf4
          have hn3 : (bk.map bv).length = n2 := by rw [List.length_map, hn2]
          refine x_skip (.then_normal ?_)
          refine x_seq ?_
          refine x_block ?_
          refine x_seq (x_region ?_)
          refine tl_y rfl (y_indexAddr rfl rfl (by omega)) ?_
          refine tl_y rfl (y_load rfl rfl (.at_ (hcell _ (k + 1) _ hv2) (by omega))) ?_
          refine tl_y rfl (y_assign (v := .slice _ _ _) rfl) ?_
          refine tl_nil (.then_normal ?_)
          refine x_seq (x_region ?_)
          refine tl_y rfl (y_move (v := .int _ _) rfl) ?_
          refine tl_y rfl (y_move (v := .slice _ _ _) rfl) ?_
          refine tl_y rfl (y_move (v := .int _ _) rfl) ?_
          refine tl_y rfl (y_sliceL rfl rfl (by omega)) ?_
          refine tl_y rfl (y_move (v := .slice _ _ _) rfl) ?_
          refine tl_e rfl (e_copy (b := b9) (o := 0) (c := pre.map bv ++ slack) (cs := []) rfl rfl (by simp) (fun h => absurd h (by simp)) .nil inferInstance (by simp) rfl inferInstance ?_)
          simp only [List.take_zero, List.nil_append, List.drop_zero, List.length_nil, Nat.zero_add]
          refine tl_y rfl (y_addI rfl rfl (by omega)) ?_
          refine tl_y rfl (y_assign (v := .int _ _) rfl) ?_
          refine tl_nil (.then_normal ?_)
          refine .sub (F' := [(1, _), (8, _), (9, _), (11, _), (70, _), (71, _), (72, _)]) (.cons rfl (.cons rfl (.cons rfl (.cons rfl (.cons rfl (.cons rfl (.cons rfl .nil))))))) ?_
          refine x_region ?_
          refine tl_y rfl (y_move (v := .int _ _) rfl) ?_
          refine tl_y rfl (y_move (v := .slice _ _ _) rfl) ?_
          refine tl_y rfl (y_move (v := .int _ _) rfl) ?_
          refine tl_y rfl (y_sliceL rfl rfl (by omega)) ?_
          refine tl_y rfl (y_move (v := .slice _ _ _) rfl) ?_
          refine tl_e rfl (e_copy (b := b9) (o := pre.length) (c := pre.map bv ++ slack) (cs := bk.map bv) rfl rfl (by omega) (fun h => by rw [show ((pre.length : Int) + ((0 : Nat) : Int)).toNat = pre.length by omega, sl_pos (by omega)]; simp) (by rw [hn3]; exact .row hb2) inferInstance (by rw [List.length_append, hn3, List.length_map]; omega) (all_one_bv _) inferInstance ?_)
          refine tl_y rfl (y_addI rfl rfl (by omega)) ?_
          refine tl_y rfl (y_assign (v := .int _ _) rfl) ?_
          refine tl_nil (.block_normal (.then_normal ?_))
          refine .sub (F' := [(1, _), (8, _), (9, _), (70, _), (71, _), (72, _)]) (.cons rfl (.cons rfl (.cons rfl (.cons rfl (.cons rfl (.cons rfl .nil)))))) ?_
          refine x_region ?_
          refine tl_y rfl (y_addI rfl rfl (by omega)) ?_
          refine tl_y rfl (y_move (v := .int _ _) rfl) ?_
          refine tl_nil (.loop_next (m' := n - 1 - (k + 1)) (by omega) (F' := [(1, _), (8, _), (9, _), (70, _), (71, _), (72, _)]) (.cons rfl (.cons rfl (.cons rfl (.cons rfl (.cons rfl (.cons rfl .nil)))))) ?_)
          exact ⟨k + 1, slack.drop n2, rfl, by omega, rfl, rfl, by rw [List.length_append, List.length_map, List.length_drop]; omega, by
            rw [hf4, List.map_append, List.append_assoc]
            congr 4
            · rw [List.take_append_of_le_length (by simp), List.take_of_length_le (by simp)]
              congr 2
              rw [List.length_map, List.drop_append, List.drop_of_length_le (by simp), List.length_map, Nat.add_sub_cancel_left, hn2]; rfl, by rw [hf5]; simp [hn2]⟩
        ·
          refine x_exit (.then_exit (.loop_exit (.block_exit (.then_normal ?_))))
          refine .sub (F' := [(8, _)]) (.cons rfl .nil) ?_
          refine x_seq (x_region ?_)
          refine tl_y rfl (y_move (v := .slice _ _ _) rfl) ?_
          refine tl_y rfl (y_assign (v := .slice _ _ _) rfl) ?_
          refine tl_nil (.then_normal ?_)
          obtain rfl : k = n - 1 := by omega
          rw [show n - 1 + 1 = n by omega]
          have hnb : n = bss.length := by omega
          rw [hnb, List.take_length]
          rw [show n - 1 + 1 = bss.length by omega, List.take_length, List.length_append, List.length_map] at hsl
          refine x_ret (.pub b9 inferInstance fun M' hle hm => ret1 rfl rfl hle ⟨rfl, some ⟨b9, 0, none⟩, N, ?_⟩)
          rw [← hN] at *
          exact ⟨rfl, Row.part (pre := []) (by simpa using hm) (by rw [List.length_map, Nat.mul_one]) (Nat.le_refl _) (by omega)⟩
theorem Cat_spec {A : Option Addr} {n c : Nat} {vs : List Value} {bss : List (List UInt8)} (h : Row M 1 A n c vs) (hb : BRows M vs bss) (hn : bss.flatten.length ≤ 1099511627776) :
    Con Tryz.prog 42 #[.slice A n c] G M L (fun v M' L' => L = L' ∧ ∃ A' c', v = .slice A' bss.flatten.length c' ∧ Bytes M' A' bss.flatten.length c' bss.flatten) noPanic := by
  refine enter (args := [_]) (fn := Tryz.f42) ⟨Tryz.func42, rfl, by kernel_rfl, by kernel_rfl⟩ 5 rfl ?_
  refine x_seq (x_region ?_)
  refine tl_y rfl (y_assign rfl) ?_
  refine tl_nil (.then_normal ?_)
  refine x_seq (x_region ?_)
  refine tl_y rfl (y_move (v := .slice _ _ _) rfl) ?_
  refine tl_e rfl (e_call' rfl (bytesJoin_spec h hb hn) ?_)
  rintro _ M1 L1 hM1 ⟨rfl, A', c', rfl, hA'⟩
  refine tl_y rfl (y_assign (v := .slice _ _ _) rfl) ?_
  refine tl_nil (.then_normal ?_)
  refine x_ret (ret1 rfl rfl hM1 ⟨rfl, _, _, rfl, hA'⟩)
end
end Go.Proofs.YtbjnjedfoiedeaaGreatDoor
set_option linter.unusedVariables false
set_option linter.unusedSimpArgs false
namespace Go.Eng
/-! ### SHA-256, as it is summed -/
def kT : List UInt32 := [1116352408, 1899447441, 3049323471, 3921009573, 961987163, 1508970993, 2453635748, 2870763221, 3624381080, 310598401, 607225278, 1426881987, 1925078388, 2162078206, 2614888103, 3248222580, 3835390401, 4022224774, 264347078, 604807628, 770255983, 1249150122, 1555081692, 1996064986, 2554220882, 2821834349, 2952996808, 3210313671, 3336571891, 3584528711, 113926993, 338241895, 666307205, 773529912, 1294757372, 1396182291, 1695183700, 1986661051, 2177026350, 2456956037, 2730485921, 2820302411, 3259730800, 3345764771, 3516065817, 3600352804, 4094571909, 275423344, 430227734, 506948616, 659060556, 883997877, 958139571, 1322822218, 1537002063, 1747873779, 1955562222, 2024104815, 2227730452, 2361852424, 2428436474, 2756734187, 3204031479, 3329325298]
structure H8 where
  a : UInt32
  b : UInt32
  c : UInt32
  d : UInt32
  e : UInt32
  f : UInt32
  g : UInt32
  h : UInt32
abbrev H8.list (s : H8) : List UInt32 := [s.a, s.b, s.c, s.d, s.e, s.f, s.g, s.h]
abbrev H8.vals (s : H8) : List Value := [u32v s.a, u32v s.b, u32v s.c, u32v s.d, u32v s.e, u32v s.f, u32v s.g, u32v s.h]
def H8.init : H8 := ⟨1779033703, 3144134277, 1013904242, 2773480762, 1359893119, 2600822924, 528734635, 1541459225⟩
def rotr (x : UInt32) (n : Nat) : UInt32 := shl32 x (32 - n) ||| shr32 x n
def sS0 (x : UInt32) : UInt32 := rotr x 7 ^^^ rotr x 18 ^^^ shr32 x 3
def sS1 (x : UInt32) : UInt32 := rotr x 17 ^^^ rotr x 19 ^^^ shr32 x 10
def bS0 (x : UInt32) : UInt32 := rotr x 2 ^^^ rotr x 13 ^^^ rotr x 22
def bS1 (x : UInt32) : UInt32 := rotr x 6 ^^^ rotr x 11 ^^^ rotr x 25


def wd (bs : List UInt8) (t : Nat) : UInt32 := UInt32.ofNat (getB ((bs.drop (4 * t)).take 4))
def nextW (w : List UInt32) (t : Nat) : UInt32 := w.getD (t - 16) 0 + sS0 (w.getD (t - 15) 0) + w.getD (t - 7) 0 + sS1 (w.getD (t - 2) 0)
def schd (bs : List UInt8) : Nat → List UInt32
  | 0 => []
  | t + 1 => schd bs t ++ [if t < 16 then wd bs t else nextW (schd bs t) t]
theorem schd_length (bs : List UInt8) : ∀ t, (schd bs t).length = t
  | 0 => rfl
  | t + 1 => by simp [schd, schd_length bs t]
def rT1 (s : H8) (k w : UInt32) : UInt32 := s.h + bS1 s.e + ((s.e &&& s.f) ^^^ (~~~s.e &&& s.g)) + k + w
def rT2 (s : H8) : UInt32 := bS0 s.a + ((s.a &&& s.b) ^^^ (s.a &&& s.c) ^^^ (s.b &&& s.c))
def rnd (s : H8) (k w : UInt32) : H8 := ⟨rT1 s k w + rT2 s, s.a, s.b, s.c, s.d + rT1 s k w, s.e, s.f, s.g⟩
def rounds (ws : List UInt32) (s : H8) : Nat → H8
  | 0 => s
  | t + 1 => rnd (rounds ws s t) (kT.getD t 0) (ws.getD t 0)
def plusH (r s : H8) : H8 := ⟨r.a + s.a, r.b + s.b, r.c + s.c, r.d + s.d, r.e + s.e, r.f + s.f, r.g + s.g, r.h + s.h⟩
def turn (s : H8) (bs : List UInt8) : H8 := plusH (rounds (schd bs 64) s 64) s
/-- Up to place 'i' it is added. -/
def addTo (r s : List UInt32) : Nat → List UInt32
  | 0 => r
  | i + 1 => (addTo r s i).set i ((addTo r s i).getD i 0 + s.getD i 0)
theorem addTo_length (r s : List UInt32) : ∀ i, (addTo r s i).length = r.length
  | 0 => rfl
  | i + 1 => by simp [addTo, addTo_length r s i]
theorem addTo_all (r s : H8) : addTo r.list s.list 8 = (plusH r s).list := rfl
/-- Blocks, one behind the other. -/
def blk (s : H8) (bs : List UInt8) : Nat → H8
  | 0 => s
  | n + 1 => turn (blk s bs n) ((bs.drop (64 * n)).take 64)
theorem blk_append (s : H8) (bs x : List UInt8) : ∀ n, 64 * n ≤ bs.length → blk s (bs ++ x) n = blk s bs n
  | 0, _ => rfl
  | n + 1, h => by
    rw [blk, blk, blk_append s bs x n (by omega), List.drop_append_of_le_length (by omega), List.take_append_of_le_length (by rw [List.length_drop]; omega)]
theorem blk_drop (s : H8) (bs : List UInt8) (m : Nat) : ∀ j, blk (blk s bs m) (bs.drop (64 * m)) j = blk s bs (m + j)
  | 0 => rfl
  | j + 1 => by
    rw [show m + (j + 1) = (m + j) + 1 from rfl, blk, blk, blk_drop s bs m j, List.drop_drop, ← Nat.mul_add]
def padB (n : Nat) : List UInt8 := 128 :: (List.replicate ((119 - n % 64) % 64) 0 ++ putB (n * 8 % 18446744073709551616) 8)
def sumH (s : H8) : List UInt8 := s.list.flatMap fun x => putB x.toNat 4
/-- The sum of a text. -/
def sha (bs : List UInt8) : List UInt8 := sumH (blk H8.init (bs ++ padB bs.length) ((bs ++ padB bs.length).length / 64))
theorem sumH_length (s : H8) : (sumH s).length = 32 := by simp [sumH, putB_length]
theorem sha_length (bs : List UInt8) : (sha bs).length = 32 := sumH_length _
theorem pad_length (n : Nat) : (n + (padB n).length) % 64 = 0 := by
  simp only [padB, List.length_cons, List.length_append, List.length_replicate, putB_length]
  omega







/-- The whole blocks first, then what is left and the pad. -/
theorem sha_parts (bs : List UInt8) : sha bs = sumH (blk (blk H8.init bs (bs.length / 64)) (bs.drop (64 * (bs.length / 64)) ++ 128 :: (List.replicate ((119 - bs.length % 64) % 64) 0 ++ putB (bs.length * 8 % 18446744073709551616) 8)) ((bs.length % 64 + 9 + (119 - bs.length % 64) % 64) / 64)) := by
  have h1 : 64 * (bs.length / 64) ≤ bs.length := by omega
  have h2 := blk_drop H8.init (bs ++ padB bs.length) (bs.length / 64) ((bs.length % 64 + 9 + (119 - bs.length % 64) % 64) / 64)
  rw [blk_append _ _ _ _ h1, List.drop_append_of_le_length h1] at h2
  have h3 : (bs ++ padB bs.length).length / 64 = bs.length / 64 + (bs.length % 64 + 9 + (119 - bs.length % 64) % 64) / 64 := by
    rw [List.length_append, padB, List.length_cons, List.length_append, List.length_replicate, putB_length]
    omega
  rw [sha, h3, ← h2]
  rfl
theorem sha_abc : (sha [97, 98, 99]).take 1 = [186] := by decide +kernel
end Go.Eng
