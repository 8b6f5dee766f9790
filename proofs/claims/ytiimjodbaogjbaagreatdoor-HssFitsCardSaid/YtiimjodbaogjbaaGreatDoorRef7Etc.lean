/-
Contracts of functions, each proved by a walk through its code.
-/
import Derived.Test.YtiimjodbaogjbaaGreatDoorRef9Etc
import Derived.Test.YtiimjodbaogjbaaGreatDoorRef4Etc
import Derived.Test.YtiimjodbaogjbaaGreatDoorOctCutEtc
import Derived.Test.YtiimjodbaogjbaaGreatDoorRef1Etc
import Derived.Test.YtiimjodbaogjbaaGreatDoorHss3Etc
import Derived.Test.YtiimjodbaogjbaaGreatDoorRef8bEtc
import Derived.Test.YtiimjodbaogjbaaGreatDoorHssPureEtc
import Derived.Test.YtiimjodbaogjbaaGreatDoorOnce1Etc
set_option linter.unusedVariables false
set_option linter.unusedSimpArgs false
set_option linter.constructorNameAsVariable false
namespace Go.Proofs.YtiimjodbaogjbaaGreatDoor
open Go Go.Eng
theorem at_div {w m i : Nat} (h : isW w) (hi : i < w) : (w * m + i) / 8 = m / dpb w ∧ (w * m + i) % 8 = w * (m % dpb w) + i ∧ w * (m % dpb w) + w ≤ 8 := by
  rcases h with rfl | rfl | rfl | rfl
  · show (1 * m + i) / 8 = m / 8 ∧ (1 * m + i) % 8 = 1 * (m % 8) + i ∧ 1 * (m % 8) + 1 ≤ 8
    omega
  · show (2 * m + i) / 8 = m / 4 ∧ (2 * m + i) % 8 = 2 * (m % 4) + i ∧ 2 * (m % 4) + 2 ≤ 8
    omega
  · show (4 * m + i) / 8 = m / 2 ∧ (4 * m + i) % 8 = 4 * (m % 2) + i ∧ 4 * (m % 2) + 4 ≤ 8
    omega
  · show (8 * m + i) / 8 = m / 1 ∧ (8 * m + i) % 8 = 8 * (m % 1) + i ∧ 8 * (m % 1) + 8 ≤ 8
    omega
theorem intsL_at7 {xs : List Nat} {i : Nat} (h : i < xs.length) : (intsL xs)[i]? = some (.int .i64 ((xs.getD i 0 : Nat) : Int)) := by
 rw [intsL, List.getElem?_map, List.getD_eq_getElem?_getD, List.getElem?_eq_getElem h]; rfl
theorem digAt_bits {w : Nat} (h : isW w) (bs : List UInt8) (m : Nat) : (bs.getD (m / dpb w) 0).toNat / 2 ^ (8 - w * (m % dpb w) - w) % 2 ^ w = digAt w bs m := by
 rw [digAt]
 exact dig_bits h _ _ (Nat.mod_lt _ (by have := (dpb_pos h).1; omega))
section
variable {G : World} {M : Mem} {L : Own}
theorem ROf_spec {A : Option Addr} {n c w : Nat} (hw : isW w) {bs : List UInt8} (hb : Bytes M A n c bs) (hn : n ≤ 1000000000) :
    Con Tryz.prog 223 #[.slice A n c, .int .i64 (w : Int)] G M L (fun v M' L' => ∃ A' c' E, v = .slice A' (n * dpb w) c' ∧ OwnRow 3 1 A' (n * dpb w) c' (intsL (digs w bs (n * dpb w))) E ∧ L' = E ++ L) noPanic := by
  obtain ⟨hd1, hd8⟩ := dpb_pos hw
  have hnd := dpb_le hw n hn
  have hbl := hb.size
  have hw8 : 1 ≤ w ∧ w ≤ 8 := by rcases hw with rfl | rfl | rfl | rfl <;> omega
  have h2w : 2 ≤ 2 ^ w ∧ 2 ^ w ≤ 256 := pw2_w hw
  have hmm : ∀ m, m < n * dpb w ↔ w * m < 8 * n := by
    intro m
    rw [← hd8, Nat.mul_assoc, Nat.mul_comm (dpb w) n]
    exact (Nat.mul_lt_mul_left (by omega)).symm
  refine enter (args := [_, _]) (fn := Tryz.f223) ⟨Tryz.func223, rfl, by kernel_rfl, by kernel_rfl⟩ 51 rfl <| zr <| as0 rfl rfl <| zq <| zr <| as0 rfl rfl <| zq <| zr2 <| mvI rfl rfl <| tl_e rfl <| e_call' rfl (RdMay_spec hw) ?_
  rintro _ _ _ _ ⟨rfl, rfl, rfl⟩
  refine tl_y rfl (y_not rfl) <| zq <| x_false rfl (rfl) <| x_skip <| .then_normal <| .s3 0 1 5 rfl rfl rfl <| zr2 <| as0 rfl rfl <| zq <| x_block ?_
  refine x_loop (I := fun m' F D M1 L1 => ∃ (m : Nat) (A1 : Option Addr) (c1 : Nat) (E : Own), m' = n * dpb w - m ∧ m ≤ n * dpb w ∧ Le M M1 ∧ OwnRow 3 1 A1 m c1 (intsL (digs w bs m)) E ∧ D = [] ∧ L1 = E ++ L ∧ F = [(0, .slice A n c), (1, .int .i64 (w : Int)), (5, .slice A1 m c1), (6, .int .i64 ((w * m : Nat) : Int))]) (n * dpb w) (F0 := [(0, _), (1, _), (5, _), (6, _)]) ?_ (.cons rfl (.cons rfl (.cons rfl (.cons rfl .nil)))) ?_  -- slots [0, 1, 5, 6], written [5, 6]
  · exact ⟨0, none, 0, [], rfl, by omega, Le.refl _, .nil, rfl, rfl, rfl⟩
  rintro m _ _ M1 _ ⟨m, A1, c1, E, rfl, hm, hM1, hE, rfl, rfl, rfl⟩
  have hmi := hmm m
  have hwm := Nat.mul_le_mul_left w hm
  rw [← Nat.mul_assoc, Nat.mul_comm w n, Nat.mul_assoc, hd8] at hwm
  refine zr2 <| mvI rfl rfl <| mvS rfl rfl <| tl_y rfl (y_len rfl) <| tl_y rfl (y_mulI rfl rfl (by omega)) ?_
  rw [show (8 : Int) * (n : Int) = ((8 * n : Nat) : Int) by push_cast; rfl]
  refine tl_y rfl (y_lss rfl rfl) <| zq <| .s5 0 1 5 6 17 rfl rfl rfl rfl rfl <| x_cond rfl (fun hc2 => ?_) (fun hc2 => ?_)
  ·
    have hml : m < n * dpb w := by omega
    have hmd : m / dpb w < n := (Nat.div_lt_iff_lt_mul (by omega)).2 hml
    obtain ⟨g, o, rfl, hcell⟩ := (hb.mono hM1).byte (by omega)
    obtain ⟨cc, hcc⟩ : ∃ cc, cc = bs.getD (m / dpb w) 0 := ⟨_, rfl⟩
    obtain ⟨s, hs⟩ : ∃ s, s = w * (m % dpb w) := ⟨_, rfl⟩
    have hc8 := cc.toNat_lt
    refine x_skip <| .then_normal <| x_seq <| x_block <| zr <| as0 rfl rfl <| zq <| zr2 <| as0 rfl rfl <| zq <| x_block ?_
    refine x_loop (I := fun m' F D M2 L2 => ∃ i : Nat, m' = w - i ∧ i ≤ w ∧ D = [] ∧ M1 = M2 ∧ E ++ L = L2 ∧ F = [(0, .slice (some ⟨g, o, none⟩) n c), (1, .int .i64 (w : Int)), (5, .slice A1 m c1), (6, .int .i64 ((w * m : Nat) : Int)), (7, .int .i64 ((cc.toNat / 2 ^ (8 - s - i) % 2 ^ i : Nat) : Int)), (8, .int .i64 (i : Int))]) (w) (F0 := [(0, _), (1, _), (5, _), (6, _), (7, _), (8, _)]) ?_ (.cons rfl (.cons rfl (.cons rfl (.cons rfl (.cons rfl (.cons rfl .nil)))))) ?_  -- slots [0, 1, 5, 6, 7, 8], written [7, 8]
    · exact ⟨0, rfl, by omega, rfl, rfl, rfl, by rw [Nat.pow_zero, Nat.mod_one]; rfl⟩
    rintro m _ _ _ _ ⟨i, rfl, hi, rfl, rfl, rfl, rfl⟩
    refine zr2 <| mvI rfl rfl <| mvI rfl rfl <| tl_y rfl (y_lss rfl rfl) <| zq <| x_cond rfl (fun hc3 => ?_) (fun hc3 => ?_)
    ·
      have hiw : i < w := by omega
      obtain ⟨ha1, ha2, ha3⟩ := at_div (m := m) hw hiw
      rw [← hs] at ha2 ha3
      have hbst := bits_step cc.toNat s i (by omega)
      have hlt : cc.toNat / 2 ^ (8 - s - i) % 2 ^ i < 2 ^ i := Nat.mod_lt _ (Nat.two_pow_pos i)
      have hpi : 2 ^ i ≤ 2 ^ w := Nat.pow_le_pow_right (by omega) hi
      have hshr : (shr8 cc (7 - (s + i))).toNat = cc.toNat / 2 ^ (7 - (s + i)) := by
        rw [shr8, UInt8.toNat_ofNat', Nat.mod_eq_of_lt (Nat.lt_of_le_of_lt (Nat.div_le_self _ _) hc8)]
      refine x_skip <| .then_normal <| x_seq <| x_block <| zr <| mvS rfl rfl <| mvI rfl rfl <| mvI rfl rfl <| tl_y rfl (y_addI rfl rfl (by omega)) <| tl_y rfl (y_quoI rfl rfl (by omega)) ?_
      rw [show (((w * m : Nat) : Int) + (i : Int)) / 8 = ((m / dpb w : Nat) : Int) by rw [← ha1]; omega]
      refine tl_y rfl (y_indexAddrK (m / dpb w) rfl rfl (by omega)) <| tl_y rfl (y_load rfl rfl (.at_ (hcell _ (m / dpb w) (by omega)) (by omega))) ?_
      rw [← hcc]
      refine mvI rfl rfl <| mvI rfl rfl <| tl_y rfl (y_addI rfl rfl (by omega)) <| tl_y rfl (y_remI rfl rfl (by omega)) ?_
      rw [show (((w * m : Nat) : Int) + (i : Int)) % 8 = ((s + i : Nat) : Int) by rw [← ha2]; omega]
      refine tl_y rfl (y_subI rfl rfl (by omega)) ?_
      rw [show (7 : Int) - ((s + i : Nat) : Int) = ((7 - (s + i) : Nat) : Int) by omega]
      refine tl_y rfl (y_convN64 rfl (by omega)) <| tl_y rfl (y_shr8 (a := cc) (s := 7 - (s + i)) rfl rfl) ?_
      rw [show u8v (shr8 cc (7 - (s + i))) = .int .u8 ((cc.toNat / 2 ^ (7 - (s + i)) : Nat) : Int) from congrArg (fun (x : Nat) => Value.int .u8 (x : Int)) hshr]
      refine tl_y rfl (y_convE (b := ((cc.toNat / 2 ^ (7 - (s + i)) : Nat) : Int)) rfl (IntWalk.i64_in _ (by have := Nat.div_le_self cc.toNat (2 ^ (7 - (s + i))); omega))) <| tl_y rfl (y_remI rfl rfl (by omega)) ?_
      rw [show ((cc.toNat / 2 ^ (7 - (s + i)) : Nat) : Int) % 2 = ((cc.toNat / 2 ^ (7 - (s + i)) % 2 : Nat) : Int) by omega]
      refine asI rfl rfl <| zq <| .s7 0 1 5 6 7 8 9 rfl rfl rfl rfl rfl rfl rfl <| x_region <| mvI rfl rfl <| tl_y rfl (y_mulI rfl rfl (by omega)) <| mvI rfl rfl <| tl_y rfl (y_addI rfl rfl (by omega)) ?_
      rw [show (2 : Int) * ((cc.toNat / 2 ^ (8 - s - i) % 2 ^ i : Nat) : Int) + ((cc.toNat / 2 ^ (7 - (s + i)) % 2 : Nat) : Int) = ((cc.toNat / 2 ^ (8 - s - (i + 1)) % 2 ^ (i + 1) : Nat) : Int) by rw [← hbst]; push_cast; rfl]
      refine asI rfl rfl <| tl_nil <| .block_normal <| .then_normal <| .s6 0 1 5 6 7 8 rfl rfl rfl rfl rfl rfl <| x_region <| mvI rfl rfl <| tl_y rfl (y_addI rfl rfl (by omega)) <| asI rfl rfl <| tl_nil <| .loop_next (m' := w - (i + 1)) (by omega) (F' := [(0, _), (1, _), (5, _), (6, _), (7, _), (8, _)]) (.cons rfl (.cons rfl (.cons rfl (.cons rfl (.cons rfl (.cons rfl .nil)))))) ?_
      exact ⟨i + 1, rfl, by omega, rfl, rfl, rfl, rfl⟩
    ·
      obtain rfl : w = i := by omega
      have hdg := digAt_bits hw bs m
      rw [← hcc, ← hs] at hdg
      rw [hdg]
      refine x_exit <| .then_exit <| .loop_exit <| .block_exit <| .then_normal <| .s5 0 1 5 6 7 rfl rfl rfl rfl rfl <| x_region <| mvS rfl rfl <| mvI rfl rfl <| tl_e rfl <| e_buildSlice rfl (by decide) <| fun b7 => .pub b7 inferInstance <| fun M5 hM5 hb7 => tl_e rfl <| e_append (by decide) rfl rfl hE (.row (Row.whole (s := 1) hb7 rfl (by omega))) rfl (by omega) (by omega) <| fun A9 c9 E9 hE9 => ?_
      rw [show intsL (digs w bs m) ++ [Value.int .i64 ((digAt w bs m : Nat) : Int)] = intsL (digs w bs (m + 1)) by rw [digs_succ, intsL, intsL, List.map_append]; rfl] at hE9
      refine asS rfl rfl <| tl_nil <| .block_normal <| .then_normal <| .s4 0 1 5 6 rfl rfl rfl rfl <| x_region <| mvI rfl rfl <| mvI rfl rfl <| tl_y rfl (y_addI rfl rfl (by omega)) ?_
      rw [show ((w * m : Nat) : Int) + (w : Int) = ((w * (m + 1) : Nat) : Int) by rw [Nat.mul_succ]; omega]
      refine asI rfl rfl <| tl_nil <| .loop_next (m' := n * dpb w - (m + 1)) (by omega) (F' := [(0, _), (1, _), (5, _), (6, _)]) (.cons rfl (.cons rfl (.cons rfl (.cons rfl .nil)))) ?_
      exact ⟨m + 1, A9, c9, E9, rfl, by omega, hM1.trans hM5, hE9, rfl, rfl, rfl⟩
  ·
    obtain rfl : m = n * dpb w := by omega
    refine x_exit <| .then_exit <| .loop_exit <| .block_exit <| .then_normal <| .s1 5 rfl <| zr <| mvS rfl rfl <| asS rfl rfl <| zq <| x_ret (ret1 rfl rfl hM1 ⟨A1, c1, E, rfl, hE, rfl⟩)
theorem RLack_spec {A : Option Addr} {n c w : Nat} (hw : isW w) {bs : List UInt8} (hb : Bytes M A n c bs) (hn : n ≤ 1000000000) :
    Con Tryz.prog 222 #[.slice A n c, .int .i64 (w : Int)] G M L (fun v M' L' => L = L' ∧ v = .int .i64 ((lackN w bs (n * dpb w) : Nat) : Int)) noPanic := by
  obtain ⟨hd1, hd8⟩ := dpb_pos hw
  have hnd := dpb_le hw n hn
  have h2w : 2 ≤ pw2 w ∧ pw2 w ≤ 256 := pw2_w hw
  have hw8 : 1 ≤ w ∧ w ≤ 8 := by rcases hw with rfl | rfl | rfl | rfl <;> omega
  refine enter (args := [_, _]) (fn := Tryz.f222) ⟨Tryz.func222, rfl, by kernel_rfl, by kernel_rfl⟩ 40 rfl <| zr <| as0 rfl rfl <| zq <| zr <| mvS rfl rfl <| mvI rfl rfl <| tl_e rfl <| e_call' rfl (ROf_spec hw hb hn) ?_
  rintro _ M1 _ hM1 ⟨A1, c1, E1, rfl, hE1, rfl⟩
  refine .pubRow hE1 <| fun M2 hM2 hr => ?_
  have hd := hM1.trans hM2
  refine asS rfl rfl <| zq <| .s2 1 5 rfl rfl <| zr <| as0 rfl rfl <| zq <| zr2 <| as0 rfl rfl <| zq <| x_block ?_
  refine x_loop (I := fun m' F D M3 L3 => ∃ k : Nat, m' = w - k ∧ k ≤ w ∧ D = [] ∧ M2 = M3 ∧ L = L3 ∧ F = [(1, .int .i64 (w : Int)), (5, .slice A1 (n * dpb w) c1), (6, .int .i64 ((pw2 k : Nat) : Int)), (7, .int .i64 (k : Int))]) (w) (F0 := [(1, _), (5, _), (6, _), (7, _)]) ?_ (.cons rfl (.cons rfl (.cons rfl (.cons rfl .nil)))) ?_  -- slots [1, 5, 6, 7], written [6, 7]
  · exact ⟨0, rfl, by omega, rfl, rfl, rfl, rfl⟩
  rintro m _ _ _ _ ⟨k, rfl, hk, rfl, rfl, rfl, rfl⟩
  refine x_seq <| x_join (I := fun F D M3 L3 => ∃ b : Bool, (b = true ↔ k < w) ∧ D = [] ∧ M2 = M3 ∧ L = L3 ∧ F = [(1, .int .i64 (w : Int)), (5, .slice A1 (n * dpb w) c1), (6, .int .i64 ((pw2 k : Nat) : Int)), (7, .int .i64 (k : Int)), (19, .bool b)]) ?_ (fun Jq4 => ?_)
  ·
    rintro _ _ _ _ ⟨bb, hbb, rfl, rfl, rfl, rfl⟩  -- slots [1, 5, 6, 7, 19]
    refine x_condb rfl (fun hc1 => ?_) (fun hc1 => ?_)
    ·
      have hkw := hbb.1 hc1
      have hp := pw2_le (j := k) (k := w) (by omega)
      refine x_skip <| .then_normal <| x_seq <| x_block <| x_region <| mvI rfl rfl <| tl_y rfl (y_mulI rfl rfl (by omega)) ?_
      rw [pw2_succ]
      refine asI rfl rfl <| tl_nil <| .block_normal <| .then_normal <| x_region <| mvI rfl rfl <| tl_y rfl (y_addI rfl rfl (by omega)) <| asI rfl rfl <| tl_nil <| .loop_next (m' := w - (k + 1)) (by omega) (F' := [(1, _), (5, _), (6, _), (7, _)]) (.cons rfl (.cons rfl (.cons rfl (.cons rfl .nil)))) ?_
      exact ⟨k + 1, rfl, by omega, rfl, rfl, rfl, rfl⟩
    ·
      obtain rfl : w = k := by
        have : ¬ k < w := fun h => by rw [hbb.2 h] at hc1; cases hc1
        omega
      refine x_exit <| .then_exit <| .loop_exit <| .block_exit <| .then_normal <| zr <| as0 rfl rfl <| zq <| zr2 <| as0 rfl rfl <| zq <| x_block ?_
      refine x_loop (I := fun m' F D M3 L3 => ∃ m : Nat, m' = n * dpb w - m ∧ m ≤ n * dpb w ∧ D = [] ∧ M2 = M3 ∧ L = L3 ∧ F = [(5, .slice A1 (n * dpb w) c1), (6, .int .i64 ((pw2 w : Nat) : Int)), (8, .int .i64 ((lackN w bs m : Nat) : Int)), (9, .int .i64 (m : Int))]) (n * dpb w) (F0 := [(5, _), (6, _), (8, _), (9, _)]) ?_ (.cons rfl (.cons rfl (.cons rfl (.cons rfl .nil)))) ?_  -- slots [5, 6, 8, 9], written [8, 9]
      · exact ⟨0, rfl, by omega, rfl, rfl, rfl, by rw [show lackN w bs 0 = 0 by simp [lackN, digs]]; rfl⟩
      rintro m _ _ _ _ ⟨m, rfl, hm, rfl, rfl, rfl, rfl⟩
      refine zr2 <| mvI rfl rfl <| mvS rfl rfl <| tl_y rfl (y_len rfl) <| tl_y rfl (y_lss rfl rfl) <| zq <| x_cond rfl (fun hc2 => ?_) (fun hc2 => ?_)
      ·
        have hml : m < n * dpb w := by omega
        obtain ⟨g, o, rfl, hcell⟩ := hr.addr (by omega)
        have hlk := lackN_le w bs m
        have hlk2 : m * (2 ^ w - 1) ≤ 8000000000 * 255 := Nat.mul_le_mul (by omega) (by have : 2 ^ w = pw2 w := rfl; omega)
        have hdl : digAt w bs m < pw2 w := digAt_lt w bs m
        have hls : lackN w bs (m + 1) = lackN w bs m + (pw2 w - 1 - digAt w bs m) := lackN_succ w bs m
        have hdv : (digs w bs (n * dpb w)).getD m 0 = digAt w bs m := by
          rw [List.getD_eq_getElem?_getD, digs, List.getElem?_map, List.getElem?_range hml]; rfl
        have hat := intsL_at7 (xs := digs w bs (n * dpb w)) (i := m) (by rw [digs_len]; exact hml)
        rw [hdv] at hat
        refine x_skip <| .then_normal <| .s4 5 6 8 9 rfl rfl rfl rfl <| x_seq <| x_block <| x_region <| mvI rfl rfl <| mvI rfl rfl <| tl_y rfl (y_addI rfl rfl (by omega)) <| tl_y rfl (y_subI rfl rfl (by omega)) <| mvS rfl rfl ?_
        refine mvI rfl rfl <| tl_y rfl (y_indexAddrK m rfl rfl (by omega)) <| tl_y rfl (y_load rfl rfl (.at_ (hcell _ m _ hat) (by omega))) <| tl_y rfl (y_subI rfl rfl (by omega)) ?_
        rw [show ((lackN w bs m : Nat) : Int) + ((pw2 w : Nat) : Int) - 1 - ((digAt w bs m : Nat) : Int) = ((lackN w bs (m + 1) : Nat) : Int) by omega]
        refine asI rfl rfl <| tl_nil <| .block_normal <| .then_normal <| .s4 5 6 8 9 rfl rfl rfl rfl <| x_region <| mvI rfl rfl <| tl_y rfl (y_addI rfl rfl (by omega)) <| asI rfl rfl <| tl_nil <| .loop_next (m' := n * dpb w - (m + 1)) (by omega) (F' := [(5, _), (6, _), (8, _), (9, _)]) (.cons rfl (.cons rfl (.cons rfl (.cons rfl .nil)))) ?_
        exact ⟨m + 1, rfl, by omega, rfl, rfl, rfl, rfl⟩
      ·
        obtain rfl : m = n * dpb w := by omega
        refine x_exit <| .then_exit <| .loop_exit <| .block_exit <| .then_normal <| .s1 8 rfl <| zr <| mvI rfl rfl <| asI rfl rfl <| zq <| x_ret (ret1 rfl rfl hd ⟨rfl, rfl⟩)
  ·
    refine x_region <| mvI rfl rfl <| mvI rfl rfl <| tl_y rfl (y_lss rfl rfl) <| mvB rfl rfl <| tl_cases (s := 16) rfl (fun hk1 => ?_) (fun hk1 => ?_)
    ·
      refine mvI rfl rfl <| tl_e rfl <| e_call' rfl (RdMay_spec hw) ?_
      rintro _ _ _ _ ⟨rfl, rfl, rfl⟩
      refine tl_y rfl (y_pickT rfl rfl) <| zq <| .sub (F' := [(1, _), (5, _), (6, _), (7, _), (19, _)]) (.cons rfl (.cons rfl (.cons rfl (.cons rfl (.cons rfl .nil))))) <| Jq4 _ _ _ _ ?_
      exact ⟨_, by
        constructor
        · intro ht
          first | (cases ht; done) | omega
        · intro h
          first | rfl | omega, rfl, rfl, rfl, rfl⟩
    ·
      refine tl_skip rfl <| tl_skip rfl <| tl_y rfl (y_pickF rfl rfl) <| zq <| .sub (F' := [(1, _), (5, _), (6, _), (7, _), (19, _)]) (.cons rfl (.cons rfl (.cons rfl (.cons rfl (.cons rfl .nil))))) <| Jq4 _ _ _ _ ?_
      exact ⟨_, by
        constructor
        · intro ht
          first | (cases ht; done) | omega
        · intro h
          first | rfl | omega, rfl, rfl, rfl, rfl⟩
theorem RAll7_spec {A : Option Addr} {n c w : Nat} (hN : isN n) (hw : isW w) {bs : List UInt8} (hb : Bytes M A n c bs) :
    Con Tryz.prog 198 #[.slice A n c, .int .i64 (w : Int)] G M L (fun v M' L' => L = L' ∧ ∃ A' c', v = .slice A' (shU n w + shV n w) c' ∧ Row M' 1 A' (shU n w + shV n w) c' (intsL (allD n w bs))) noPanic := by
  obtain ⟨h1, h2, h3, h4, h5, h6, h7, h8, h9, h10⟩ := shape_fact hN hw
  obtain ⟨k1, k2, k3, k4⟩ := lack_fits hN hw
  have hnb : n ≤ 32 := by rcases hN with rfl | rfl <;> omega
  have hlx := lackX_lt hN hw bs
  have hll := lackN_le w bs (n * dpb w)
  have hs16 : shS n w ≤ 16 := Nat.sub_le _ _
  refine enter (args := [_, _]) (fn := Tryz.f198) ⟨Tryz.func198, rfl, by kernel_rfl, by kernel_rfl⟩ 47 rfl <| zr <| as0 rfl rfl <| zq <| zr <| mvS rfl rfl <| tl_y rfl (y_len rfl) <| mvI rfl rfl <| tl_e rfl <| e_call' rfl (RShape_spec hN hw) ?_
  rintro _ _ _ _ ⟨rfl, rfl, rfl⟩
  refine mvU rfl rfl <| zx rfl rfl <| zx rfl rfl <| zx rfl rfl <| asI rfl rfl <| asI rfl rfl <| asI rfl rfl <| zq <| .s5 0 1 5 6 7 rfl rfl rfl rfl rfl <| zr2 ?_
  refine mvI rfl rfl <| tl_y rfl (y_eql rfl rfl) <| zq <| x_false rfl (decide_eq_false (by omega)) <| x_skip <| .then_normal <| zr <| mvS rfl rfl <| mvI rfl rfl <| tl_e rfl <| e_call' rfl (RLack_spec hw hb (by omega)) ?_
  rintro _ M2 _ hM2 ⟨rfl, rfl⟩
  refine asI rfl rfl <| zq <| .s5 0 1 6 7 8 rfl rfl rfl rfl rfl <| zr2 <| as0 rfl rfl <| zq <| x_block ?_
  refine x_loop (I := fun m' F D M3 L3 => ∃ k : Nat, m' = shS n w - k ∧ k ≤ shS n w ∧ D = [] ∧ M2 = M3 ∧ L = L3 ∧ F = [(0, .slice A n c), (1, .int .i64 (w : Int)), (6, .int .i64 (shV n w : Nat)), (7, .int .i64 (shS n w : Nat)), (8, .int .i64 ((lackN w bs (n * dpb w) * pw2 k : Nat) : Int)), (9, .int .i64 (k : Int))]) (shS n w) (F0 := [(0, _), (1, _), (6, _), (7, _), (8, _), (9, _)]) ?_ (.cons rfl (.cons rfl (.cons rfl (.cons rfl (.cons rfl (.cons rfl .nil)))))) ?_  -- slots [0, 1, 6, 7, 8, 9], written [8, 9]
  · exact ⟨0, rfl, by omega, rfl, rfl, rfl, by rw [show pw2 0 = 1 from rfl, Nat.mul_one]; rfl⟩
  rintro m _ _ _ _ ⟨k, rfl, hk, rfl, rfl, rfl, rfl⟩
  refine zr2 <| mvI rfl rfl <| mvI rfl rfl <| tl_y rfl (y_lss rfl rfl) <| zq <| x_cond rfl (fun hc2 => ?_) (fun hc2 => ?_)
  ·
    have hkl : k < shS n w := by omega
    have hpk := pw2_le (j := k + 1) (k := shS n w) (by omega)
    have hps : pw2 (k + 1) = 2 * pw2 k := by rw [pw2, pw2, Nat.pow_succ, Nat.mul_comm]
    have hxx : lackN w bs (n * dpb w) * pw2 (k + 1) ≤ lackX n w bs := Nat.mul_le_mul_left _ hpk
    have hx2 : 2 * (lackN w bs (n * dpb w) * pw2 k) = lackN w bs (n * dpb w) * pw2 (k + 1) := by rw [hps, Nat.mul_left_comm]
    refine x_skip <| .then_normal <| x_seq <| x_block <| x_region <| mvI rfl rfl <| tl_y rfl (y_mulI rfl rfl (by omega)) ?_
    rw [show (2 : Int) * ((lackN w bs (n * dpb w) * pw2 k : Nat) : Int) = ((lackN w bs (n * dpb w) * pw2 (k + 1) : Nat) : Int) by rw [← hx2]; push_cast; rfl]
    refine asI rfl rfl <| tl_nil <| .block_normal <| .then_normal <| .s6 0 1 6 7 8 9 rfl rfl rfl rfl rfl rfl <| x_region <| mvI rfl rfl <| tl_y rfl (y_addI rfl rfl (by omega)) <| asI rfl rfl <| tl_nil <| .loop_next (m' := shS n w - (k + 1)) (by omega) (F' := [(0, _), (1, _), (6, _), (7, _), (8, _), (9, _)]) (.cons rfl (.cons rfl (.cons rfl (.cons rfl (.cons rfl (.cons rfl .nil)))))) ?_
    exact ⟨k + 1, rfl, by omega, rfl, rfl, rfl, rfl⟩
  ·
    obtain rfl : k = shS n w := by omega
    rw [show lackN w bs (n * dpb w) * pw2 (shS n w) = lackX n w bs from rfl]
    have hq1 : ((UInt8.ofNat (lackX n w bs / 256)).toNat : Int) = ((lackX n w bs : Nat) : Int) / 256 := by rw [UInt8.toNat_ofNat', Nat.mod_eq_of_lt (by omega)]; omega
    have hq2 : ((UInt8.ofNat (lackX n w bs % 256)).toNat : Int) = ((lackX n w bs : Nat) : Int) % 256 := by rw [UInt8.toNat_ofNat', Nat.mod_eq_of_lt (by omega)]; omega
    refine x_exit <| .then_exit <| .loop_exit <| .block_exit <| .then_normal <| .s4 0 1 6 8 rfl rfl rfl rfl <| zr <| mvI rfl rfl <| tl_y rfl (y_quoI rfl rfl (by omega)) <| tl_y rfl (y_convN8 rfl (by omega)) ?_
    rw [← hq1]
    refine mvI rfl rfl <| tl_y rfl (y_remI rfl rfl (by omega)) <| tl_y rfl (y_convN8 rfl (by omega)) ?_
    rw [← hq2]
    refine tl_e rfl <| e_buildSlice rfl (by decide) <| fun b7 => .pub b7 inferInstance <| fun M3 hM3 hb7 => ?_
    have hA3 : Bytes M3 (some ⟨b7, 0, none⟩) 2 2 (two (lackX n w bs)) := Row.whole hb7 rfl (by omega)
    refine mvI rfl rfl <| tl_e rfl <| e_call' rfl (ROf_spec hw (n := 2) hA3 (by omega)) ?_
    rintro _ M4 _ hM4 ⟨A4, c4, E4, rfl, hE4, rfl⟩
    refine .pubRow hE4 <| fun M5 hM5 hr5 => ?_
    have hd := hM2.trans (hM3.trans (hM4.trans hM5))
    have hc4 := hr5.le
    refine asS rfl rfl <| zq <| .s4 0 1 6 10 rfl rfl rfl rfl <| x_seq ?_
    have he : Le M5 M5 := Le.refl _
    refine x_draw 6 hmix rfl <| zp 0 rfl rfl (y_move (v := .slice _ _ _) rfl) <| zp 1 rfl rfl (y_move (v := .int _ _) rfl) <| zp 3 rfl rfl (y_move (v := .slice _ _ _) rfl) <| zp 4 rfl rfl (y_move (v := .int _ _) rfl) <| zp 5 rfl rfl (y_sliceH rfl rfl (by omega) (by omega)) <| ze 2 rfl rfl <| e_call' rfl (ROf_spec hw (hb.mono hd) (by omega)) ?_
    rintro _ M6 _ hM6 ⟨A6, c6, E6, rfl, hE6, rfl⟩
    refine ⟨⟨(by first | exact Le.refl _ | assumption), Keeps.mem⟩, ?_⟩
    refine zt 6 rfl rfl <| e_append (by decide) rfl rfl hE6 (.row (Row.slice (l := 0) (h := shV n w) (m := c4) (hr5.mono hM6) (by omega) (by omega) (by omega) (by omega))) (intsL_one' _ _ _) (by omega) (by omega) <| fun A9 c9 E9 hE9 => ?_
    rw [allD_vals n w _ bs rfl] at hE9
    refine .pubRow hE9 <| fun M7 hM7 hr7 => zp 7 rfl rfl (y_assign (v := .slice _ _ _) rfl) <| zz <| .then_normal <| .s1 4 rfl <| x_ret (ret1 rfl rfl (hd.trans (hM6.trans hM7)) ⟨rfl, A9, c9, by rw [k4]; rfl, by rw [k4]; exact hr7⟩)
end
end Go.Proofs.YtiimjodbaogjbaaGreatDoor
set_option linter.unusedVariables false
set_option linter.unusedSimpArgs false
set_option linter.constructorNameAsVariable false
namespace Go.Proofs.YtiimjodbaogjbaaGreatDoor
open Go Go.Eng
def sizeW (o : OtsV) : Int := IntKind.i64.wrap (4 + IntKind.i64.wrap (o.n * IntKind.i64.wrap (o.p + 1)))
section
variable {G : World} {M : Mem} {L : Own} {NA SA TA : Option Addr} {nl nc sl sc tl tc : Nat} {name sec text : List UInt8}
theorem RoSizeW_spec (o : OtsV) :
  Con Tryz.prog 65 #[.agg (List.toArray o.cells)] G M L (fun v M' L' => M = M' ∧ L = L' ∧ v = .int .i64 (sizeW o)) noPanic := by
 refine enter (args := [_]) (fn := Tryz.f65) ⟨Tryz.func65, rfl, by kernel_rfl, by kernel_rfl⟩ 10 rfl <| zr <| tl_e rfl <| e_box rfl <| fun b1 => as0 rfl rfl <| zq <| zr <| tl_y rfl (y_fieldAddr rfl) <| tl_y rfl (y_ld rfl rfl) <| tl_y rfl (y_fieldAddr rfl) <| tl_y rfl (y_ld rfl rfl) ?_
 refine tl_y rfl (y_add rfl rfl) <| tl_y rfl (y_mul rfl rfl) <| tl_y rfl (y_add rfl rfl) <| asI rfl rfl <| zq <| .s1 2 rfl <| x_ret (.dropTo L inferInstance (ret1 rfl rfl (Le.refl _) ⟨rfl, rfl, rfl⟩))
theorem sizeW_of {o : OtsV} {n w p : Nat} (ho : OF o n w p) : sizeW o = ((sizeN o : Nat) : Int) := by
 obtain ⟨h1, h2, h3⟩ := ho.size
 have hn32 := ho.n32
 have hp2 := ho.p2
 have hm : (n : Int) * ((p : Int) + 1) = ((n * (p + 1) : Nat) : Int) := by push_cast; rfl
 rw [sizeW, ho.hn, ho.hp, IntWalk.i64_in ((p : Int) + 1) (by omega), hm, IntWalk.i64_in ((n * (p + 1) : Nat) : Int) (by omega), IntWalk.i64_in _ (by omega), h1]
 omega
theorem RoDigits_spec (o : OtsV) {n w p : Nat} (ho : OF o n w p) (hname : Bytes M NA nl nc name) (hn16 : nl = 16) (q : UInt32) (hsalt : Bytes M SA sl sc sec) (htext : Bytes M TA tl tc text) (hsl : sl ≤ 1000000000) (htl : tl ≤ 1000000000) :
  Con Tryz.prog 155 #[.agg (List.toArray o.cells), .slice NA nl nc, .int .u32 (q.toNat : Int), .slice SA sl sc, .slice TA tl tc] G M L (fun v M' L' => L = L' ∧ ∃ A c, v = .slice A p c ∧ Row M' 1 A p c (intsL (digO o name q.toNat sec text))) noPanic := by
 have h1 := hname.size
 have h2 := hsalt.size
 have h3 := htext.size
 refine enter (args := [_, _, _, _, _]) (fn := Tryz.f155) ⟨Tryz.func155, rfl, by kernel_rfl, by kernel_rfl⟩ 25 rfl <| zr <| tl_e rfl <| e_box rfl <| fun b1 => as0 rfl rfl <| zq <| x_seq ?_
 have he : Le M M := Le.refl _
 refine x_draw 15 hmix rfl <| zp 0 rfl rfl (y_fieldAddr rfl) <| zy 1 rfl rfl (y_ld rfl rfl) <| zp 2 rfl rfl (y_fieldAddr rfl) <| zy 3 rfl rfl (y_ld rfl rfl) <| zp 4 rfl rfl (y_move (v := .slice _ _ _) rfl) <| zp 5 rfl rfl (y_move (v := .int _ _) rfl) <| zp 6 rfl rfl (y_move (v := .slice _ _ _) rfl) <| zp 7 rfl rfl (y_move (v := .slice _ _ _) rfl) <| zp 11 rfl rfl (y_fieldAddr rfl) ?_
 refine zy 12 rfl rfl (y_load (v := .int .i64 (w : Int)) rfl rfl (by rw [← ho.hw]; exact .own inferInstance inferInstance)) <| ze 8 rfl rfl <| e_buildSlice rfl (by decide) <| fun b7 => ⟨⟨he, Keeps.mem⟩, ?_⟩
 refine .pub b7 inferInstance <| fun M3 hM3 hb7 => ?_
 replace he := he.trans hM3
 have hfl : [sec, text].flatten = sec ++ text := by simp
 have hfll : (sec ++ text).length = sl + tl := by rw [List.length_append]; omega
 refine ze 9 rfl rfl <| e_call' rfl (RCat_own (Row.whole hb7 rfl (by omega)) (.cons (hsalt.mono he) (.cons (htext.mono he) .nil)) (by rw [hfl, hfll]; omega)) ?_
 rintro _ _ _ _ ⟨rfl, A4, c4, E4, rfl, hE4, rfl⟩
 rw [hfl, hfll] at hE4
 rw [hfl, hfll]
 refine ⟨⟨he, Keeps.mem⟩, ?_⟩
 refine .pubRow hE4 <| fun M4 hM4 hA4 => ?_
 replace he := he.trans hM4
 refine ze 10 rfl rfl <| e_call' rfl (RPart_spec o.kind o.n (hname.mono he) q 33153 (by omega) hA4 (by omega)) ?_
 rintro _ M5 _ hM5 ⟨rfl, A5, m5, c5, rfl, hA5⟩
 replace he := he.trans hM5
 have hm5 := hA5.size
 rw [cPartO_len ho (by omega)] at hm5
 subst hm5
 refine ⟨⟨(by first | exact Le.refl _ | assumption), Keeps.mem⟩, ?_⟩
 refine ze 13 rfl rfl <| e_call' rfl (RAll7_spec ho.isn ho.isw hA5) ?_
 rintro _ M6 _ hM6 ⟨rfl, A6, c6, rfl, hr6⟩
 replace he := he.trans hM6
 have hr6' : Row M6 1 A6 p c6 (intsL (digO o name q.toNat sec text)) := by
  rw [digO, ho.hn, ho.hw, Int.toNat_natCast, Int.toNat_natCast, ho.up]
  rw [ho.hn] at hr6
  exact hr6
 rw [← ho.up]
 refine ⟨⟨(by first | exact Le.refl _ | assumption), Keeps.mem⟩, ?_⟩
 refine zp 14 rfl rfl (y_assign (v := .slice _ _ _) rfl) <| zz <| .then_normal <| .s1 10 rfl <| x_ret (.dropTo L inferInstance (ret1 rfl rfl he ⟨rfl, A6, c6, rfl, hr6'⟩))
theorem RoStands_spec (hname : Bytes M NA nl nc name) (q : UInt32) (htext : Bytes M TA tl tc text) {A : Option Addr} {m c : Nat} {sig : List UInt8} (hsig : Bytes M A m c sig) :
    Con Tryz.prog 102 #[.slice NA nl nc, .int .u32 (q.toNat : Int), .slice TA tl tc, .slice A m c] G M L (fun v M' L' => L = L' ∧ ∃ A' m' c', v = .tuple #[.slice A' m' c', .int .i64 (staE nl tl sig)] ∧ Bytes M' A' m' c' (staV nl tl name q.toNat text sig)) noPanic := by
  have hsl := hsig.size
  have hsc := hsig.le
  refine enter (args := [_, _, _, _]) (fn := Tryz.f102) ⟨Tryz.func102, rfl, by kernel_rfl, by kernel_rfl⟩ 99 rfl <| zr <| as0 rfl rfl <| as0 rfl rfl <| zq <| zr2 <| mvS rfl rfl <| tl_y rfl (y_len rfl) <| tl_y rfl (y_neq rfl rfl) <| mvB rfl rfl ?_
  refine tl_cases (s := 21) rfl (fun hk1 => ?_) (fun hk1 => ?_)
  ·
    have hE1 : staE nl tl sig = 1 := by rw [staE, if_pos (.inl (by omega))]
    refine tl_skip rfl <| tl_skip rfl <| tl_skip rfl <| tl_y rfl (y_pickT rfl rfl) <| zq <| .s5 0 1 2 3 25 rfl rfl rfl rfl rfl <| x_true rfl rfl <| zr <| as0 rfl rfl <| as0 rfl rfl ?_
    refine zq <| .s2 8 9 rfl rfl <| x_ret (.then_ret (.dropTo L inferInstance (ret2 rfl rfl rfl (Le.refl _) ⟨rfl, none, 0, 0, by rw [hE1], by rw [staV, hE1, if_neg (by decide)]; exact Row.nil _ _⟩)))
  ·
    refine mvS rfl rfl <| tl_y rfl (y_len rfl) <| tl_y rfl (y_gtr rfl rfl) <| tl_y rfl (y_pickF rfl rfl) <| zq <| .s5 0 1 2 3 25 rfl rfl rfl rfl rfl <| x_cond rfl (fun hc1 => ?_) (fun hc1 => ?_)
    ·
      have hE1 : staE nl tl sig = 1 := by rw [staE, if_pos (.inr (by omega))]
      refine zr <| as0 rfl rfl <| as0 rfl rfl <| zq <| .s2 8 9 rfl rfl <| x_ret (.then_ret (.dropTo L inferInstance (ret2 rfl rfl rfl (Le.refl _) ⟨rfl, none, 0, 0, by rw [hE1], by rw [staV, hE1, if_neg (by decide)]; exact Row.nil _ _⟩)))
    ·
      have hn16 : nl = 16 := by omega
      have htl : tl ≤ 65536 := by omega
      have hE : staE nl tl sig = (ofV sig).2 := by rw [staE, if_neg (by omega)]
      refine x_skip <| .then_normal <| zr2 <| mvS rfl rfl <| tl_y rfl (y_len rfl) <| tl_y rfl (y_lss rfl rfl) <| zq <| x_cond rfl (fun hc2 => ?_) (fun hc2 => ?_)
      ·
        have hE1 : staE nl tl sig = 2 := by rw [hE, ofV, if_pos (by omega)]
        refine zr <| as0 rfl rfl <| as0 rfl rfl <| zq <| .s2 8 9 rfl rfl <| x_ret (.then_ret (.dropTo L inferInstance (ret2 rfl rfl rfl (Le.refl _) ⟨rfl, none, 0, 0, by rw [hE1], by rw [staV, hE1, if_neg (by decide)]; exact Row.nil _ _⟩)))
      ·
        have h4 : 4 ≤ m := by omega
        refine x_skip <| .then_normal <| .s4 0 1 2 3 rfl rfl rfl rfl <| zr <| mvS rfl rfl <| tl_y rfl (y_sliceH rfl rfl (by omega) (by omega)) <| tl_e rfl <| e_call' rfl (RGet_spec (Bytes.take hsig 4 h4) (by omega)) ?_
        rintro _ _ _ _ ⟨rfl, rfl, x, hx, rfl⟩
        have hgl := getB_lt (sig.take 4)
        rw [List.length_take, Nat.min_eq_left (by omega)] at hgl
        have hcv : ((sigC sig).toNat : Int) = (x.toNat : Int) := by rw [sigC, UInt32.toNat_ofNat', hx, Nat.mod_eq_of_lt (by omega)]
        refine mvU rfl rfl <| zx rfl rfl <| zx rfl rfl <| asI rfl rfl <| asB rfl rfl <| zq <| .s5 0 1 2 3 10 rfl rfl rfl rfl rfl <| zr <| mvI rfl rfl <| tl_y rfl (y_convE (b := ((sigC sig).toNat : Int)) rfl (by rw [wrapU32, hcv]; omega)) ?_
        refine tl_e rfl <| e_call' rfl (ROts_spec (sigC sig)) ?_
        rintro _ _ _ _ ⟨rfl, rfl, rfl⟩
        refine mvU rfl rfl <| zx rfl rfl <| zx rfl rfl <| tl_e rfl <| e_alloc <| fun b1 => tl_e rfl <| e_st rfl rfl (by rfl) (by rfl) <| asI rfl rfl <| zq <| .s6 0 1 2 3 12 13 rfl rfl rfl rfl rfl rfl <| zr2 <| mvI rfl rfl ?_
        refine tl_y rfl (y_neq rfl rfl) <| zq <| x_cond rfl (fun hc3 => ?_) (fun hc3 => ?_)
        ·
          have hE1 : staE nl tl sig = otsE (sigC sig) := by rw [hE, ofV, if_neg (by omega), if_pos hc3]
          refine zr <| mvI rfl rfl <| as0 rfl rfl <| asI rfl rfl <| zq <| .s2 8 9 rfl rfl <| x_ret (.then_ret (.dropTo L inferInstance (ret2 rfl rfl rfl (Le.refl _) ⟨rfl, none, 0, 0, by rw [hE1], by rw [staV, hE1, if_neg hc3]; exact Row.nil _ _⟩)))
        ·
          have he0 : otsE (sigC sig) = 0 := Classical.not_not.1 hc3
          obtain ⟨n, w, p, ho⟩ := okO_facts (otsV_code he0).2
          obtain ⟨o, hoe⟩ : ∃ o, o = otsV (sigC sig) := ⟨_, rfl⟩
          rw [← hoe] at ho ⊢
          obtain ⟨hz1, hz2, hz3⟩ := ho.size
          have hn32 := ho.n32
          have hp2 := ho.p2
          have hp1 := ho.p1
          refine x_skip <| .then_normal <| zr2 <| mvS rfl rfl <| tl_y rfl (y_len rfl) <| tl_y rfl (y_lg rfl rfl) <| tl_e rfl <| e_call' rfl (RoSizeW_spec o) ?_
          rintro _ _ _ _ ⟨rfl, rfl, rfl⟩
          rw [sizeW_of ho]
          refine tl_y rfl (y_neq rfl rfl) <| zq <| .s6 0 1 2 3 12 48 rfl rfl rfl rfl rfl rfl <| x_cond rfl (fun hc4 => ?_) (fun hc4 => ?_)
          ·
            have hE1 : staE nl tl sig = 5 := by rw [hE, ofV, if_neg (by omega), if_neg hc3, if_pos (by rw [← hoe]; omega)]
            refine zr <| as0 rfl rfl <| as0 rfl rfl <| zq <| .s2 8 9 rfl rfl <| x_ret (.then_ret (.dropTo L inferInstance (ret2 rfl rfl rfl (Le.refl _) ⟨rfl, none, 0, 0, by rw [hE1], by rw [staV, hE1, if_neg (by decide)]; exact Row.nil _ _⟩)))
          ·
            have hlen : m = sizeN o := by omega
            have hofv : ofV sig = (o, 0) := by rw [ofV, if_neg (by omega), if_neg hc3, if_neg (by rw [← hoe]; omega), ← hoe]
            have hsalt := Bytes.sub hsig 4 (4 + n) (by omega) (by omega)
            rw [show 4 + n - 4 = n by omega] at hsalt
            have hts := htext.size
            refine x_skip <| .then_normal <| x_seq <| x_draw 11 hmix rfl <| zy 0 rfl rfl (y_lg rfl rfl) <| zp 1 rfl rfl (y_move (v := .slice _ _ _) rfl) <| zp 2 rfl rfl (y_move (v := .int _ _) rfl) <| zp 3 rfl rfl (y_move (v := .slice _ _ _) rfl) <| zp 4 rfl rfl (y_fieldAddr rfl) <| zy 5 rfl rfl (y_load (v := .int .i64 (n : Int)) rfl rfl (by rw [← ho.hn]; exact .own inferInstance inferInstance)) <| zp 6 rfl rfl (y_addI rfl rfl (by omega)) ?_
            refine zp 7 rfl rfl (y_sliceLH rfl rfl rfl (by omega) (by omega)) ?_
            rw [show ((4 : Int) + (n : Int)).toNat = 4 + n by omega, show (4 : Int).toNat = 4 from rfl, show 4 + n - 4 = n by omega]
            refine zp 8 rfl rfl (y_move (v := .slice _ _ _) rfl) <| ze 9 rfl rfl <| e_call' rfl (RoDigits_spec o ho hname hn16 q hsalt htext (by omega) (by omega)) ?_
            rintro _ M3 _ hM3 ⟨rfl, A3, c3, rfl, hr3⟩
            obtain ⟨ds, hds⟩ : ∃ ds, ds = digO o name q.toNat ((sig.drop 4).take n) text := ⟨_, rfl⟩
            rw [← hds] at hr3
            have hdl : ds.length = p := by rw [hds]; exact (digO_get ho _ _ _ _).1
            obtain ⟨gd, od, rfl, _⟩ := hr3.addr (by omega)
            refine ⟨⟨(by first | exact Le.refl _ | assumption), Keeps.mem⟩, ?_⟩
            refine zp 10 rfl rfl (y_assign (v := .slice _ _ _) rfl) <| zz <| .then_normal <| .s5 0 1 3 12 14 rfl rfl rfl rfl rfl <| zr <| as0 rfl rfl <| zq <| zr2 <| as0 rfl rfl <| zq <| x_block ?_
            refine x_loop (I := fun m' F D M8 L8 => ∃ (i : Nat) (A0 : Option Addr) (m0 c0 : Nat) (E : Own), m' = p - i ∧ i ≤ p ∧ Le M3 M8 ∧ m0 = (catR (staR o name q.toNat ds (sig.drop (4 + n))) i).length ∧ OwnRow 5 1 A0 m0 c0 ((catR (staR o name q.toNat ds (sig.drop (4 + n))) i).map bv) E ∧ D = [] ∧ L8 = E ++ ((b1, .cells (List.toArray o.cells) 27 (0, 0)) :: L) ∧ F = [(0, .slice NA nl nc), (1, .int .u32 (q.toNat : Int)), (3, .slice A m c), (12, .pointer (some ⟨b1, 0, none⟩)), (14, .slice (some ⟨gd, od, none⟩) p c3), (15, .slice A0 m0 c0), (16, .int .i64 (i : Int))]) (p) (F0 := [(0, _), (1, _), (3, _), (12, _), (14, _), (15, _), (16, _)]) ?_ (.cons rfl (.cons rfl (.cons rfl (.cons rfl (.cons rfl (.cons rfl (.cons rfl .nil))))))) ?_  -- slots [0, 1, 3, 12, 14, 15, 16], written [15, 16]
            · exact ⟨0, none, 0, 0, [], rfl, by omega, Le.refl _, rfl, .nil, rfl, rfl, rfl⟩
            rintro m _ _ M8 _ ⟨i, A0, m0, c0, E, rfl, hi, hM8, hm0, hE0, rfl, rfl, rfl⟩
            have hle := catR_le (staR_le ho name q.toNat ds (sig.drop (4 + n))) i
            have hli := staR_le ho name q.toNat ds (sig.drop (4 + n)) i
            have hd8 := hM3.trans hM8
            refine zr2 <| mvI rfl rfl <| tl_y rfl (y_fieldAddr rfl) <| tl_y rfl (y_load (v := .int .i64 (p : Int)) rfl rfl (by rw [← ho.hp]; exact .own inferInstance inferInstance)) <| tl_y rfl (y_lss rfl rfl) <| zq <| x_cond rfl (fun hc5 => ?_) (fun hc5 => ?_)
            ·
              have hip : i < p := by omega
              obtain ⟨gd', od', hgd, hcd⟩ := (hr3.mono hM8).addr (by omega)
              obtain ⟨rfl, rfl⟩ : gd = gd' ∧ od = od' := by simpa using hgd
              have hni : n * i + n ≤ n * p := by
                have := Nat.mul_le_mul_left n (show i + 1 ≤ p from hip)
                rwa [Nat.mul_succ] at this
              have hmul : (n : Int) * ((i : Int) + 1) = ((n * i + n : Nat) : Int) := by push_cast; rw [Int.mul_add, Int.mul_one]
              have hsub := Bytes.sub (hsig.mono hd8) (4 + n + n * i) (4 + n + n * i + n) (by omega) (by omega)
              rw [show 4 + n + n * i + n - (4 + n + n * i) = n by omega, show 4 + n + n * i = (4 + n) + i * n by rw [Nat.mul_comm n i], ← List.drop_drop] at hsub
              refine x_skip <| .then_normal <| .s7 0 1 3 12 14 15 16 rfl rfl rfl rfl rfl rfl rfl <| x_seq <| x_block <| zr <| tl_y rfl (y_fieldAddr rfl) <| tl_y rfl (y_load (v := .int .i64 (n : Int)) rfl rfl (by rw [← ho.hn]; exact .own inferInstance inferInstance)) <| mvI rfl rfl <| tl_y rfl (y_addI rfl rfl (by omega)) <| tl_y rfl (y_mulI rfl rfl (by rw [hmul]; omega)) ?_
              rw [hmul]
              refine tl_y rfl (y_addI rfl rfl (by omega)) <| asI rfl rfl <| zq <| .s8 0 1 3 12 14 15 16 17 rfl rfl rfl rfl rfl rfl rfl rfl ?_
              have he : Le M8 M8 := Le.refl _
              refine x_draw0 21 ([(b1, .cells (List.toArray o.cells) 27 (0, 0))]) Keeps.mem hmix rfl <| zp 0 rfl rfl (y_move (v := .slice _ _ _) rfl) <| zy 1 rfl rfl (y_lg rfl rfl) <| zp 2 rfl rfl (y_move (v := .slice _ _ _) rfl) <| zp 3 rfl rfl (y_move (v := .int _ _) rfl) <| zp 4 rfl rfl (y_move (v := .int _ _) rfl) <| zp 5 rfl rfl (y_move (v := .slice _ _ _) rfl) <| zp 6 rfl rfl (y_move (v := .int _ _) rfl) <| zp 7 rfl rfl (y_indexAddrK i rfl rfl (by omega)) ?_
              refine zy 8 rfl rfl (y_load rfl rfl (.at_ (hcd _ i _ (intsL_at (by omega))) (by omega))) <| zy 9 rfl rfl (y_lg rfl rfl) <| zp 11 rfl rfl (y_move (v := .slice _ _ _) rfl) <| zp 12 rfl rfl (y_move (v := .int _ _) rfl) <| zp 13 rfl rfl (y_move (v := .int _ _) rfl) <| zp 14 rfl rfl (y_fieldAddr rfl) <| zy 15 rfl rfl (y_load (v := .int .i64 (n : Int)) rfl rfl (by rw [← ho.hn]; exact .own inferInstance inferInstance)) <| zp 16 rfl rfl (y_addI rfl rfl (by omega)) ?_
              refine zp 17 rfl rfl (y_sliceLH rfl rfl rfl (by omega) (by omega)) ?_
              rw [show ((4 : Int) + ((n * i + n : Nat) : Int)).toNat = (4 + n) + i * n by rw [Nat.mul_comm i n]; omega, show ((4 : Int) + ((n * i + n : Nat) : Int) + (n : Int)).toNat = (4 + n) + i * n + n by rw [Nat.mul_comm i n]; omega, show (4 + n) + i * n + n - ((4 + n) + i * n) = n by omega]
              refine ze 10 rfl rfl <| e_call' rfl (Rotop_spec o ho) ?_
              rintro _ _ _ _ ⟨rfl, rfl, rfl⟩
              refine ⟨⟨(by first | exact Le.refl _ | assumption), Keeps.mem⟩, ?_⟩
              refine ze 18 rfl rfl <| e_call' rfl (RUp_spec9 sha_length o (hname.mono hd8) hsub q i ((ds.getD i 0 : Nat) : Int) (topN o)) ?_
              rintro _ M10 _ hM10 ⟨rfl, A10, m10, c10, rfl, hA10⟩
              replace he := he.trans hM10
              have hsr : cUp o name q.toNat (i : Int) ((ds.getD i 0 : Nat) : Int) (topN o) (((sig.drop (4 + n)).drop (i * n)).take n) = staR o name q.toNat ds (sig.drop (4 + n)) i := by rw [staR, ho.hn, Int.toNat_natCast]
              rw [hsr] at hA10
              have hm10 := hA10.size
              refine ⟨⟨(by first | exact Le.refl _ | assumption), Keeps.mem⟩, ?_⟩
              refine ze 19 rfl rfl <| e_append (by decide) rfl rfl hE0 (.row hA10) (all_one_bv _) (by omega) (by omega) <| fun A11 c11 E11 hE11 => ?_
              rw [← List.map_append, ← catR_succ] at hE11
              refine ⟨⟨(by first | exact Le.refl _ | assumption), Keeps.mem⟩, ?_⟩
              refine zp 20 rfl rfl (y_assign (v := .slice _ _ _) rfl) <| zz <| .block_normal <| .then_normal <| .s7 0 1 3 12 14 15 16 rfl rfl rfl rfl rfl rfl rfl <| x_region <| mvI rfl rfl <| tl_y rfl (y_addI rfl rfl (by omega)) <| asI rfl rfl <| tl_nil <| .loop_next (m' := p - (i + 1)) (by omega) (F' := [(0, _), (1, _), (3, _), (12, _), (14, _), (15, _), (16, _)]) (.cons rfl (.cons rfl (.cons rfl (.cons rfl (.cons rfl (.cons rfl (.cons rfl .nil))))))) ?_
              exact ⟨i + 1, A11, m0 + m10, c11, E11, rfl, by omega, hM8.trans he, by rw [catR_succ, List.length_append]; omega, hE11, rfl, rfl, rfl⟩
            ·
              obtain rfl : i = p := by omega
              refine .pubRow hE0 <| fun M9 hM9 hrow => ?_
              have hd9 := hd8.trans hM9
              refine x_exit <| .then_exit <| .loop_exit <| .block_exit <| .then_normal <| .s4 0 1 12 15 rfl rfl rfl rfl <| zr <| tl_y rfl (y_fieldAddr rfl) <| tl_y rfl (y_ld rfl rfl) <| tl_y rfl (y_fieldAddr rfl) <| tl_y rfl (y_ld rfl rfl) <| mvS rfl rfl <| mvI rfl rfl <| mvS rfl rfl ?_
              refine tl_e rfl <| e_call' rfl (RPart_spec o.kind o.n (hname.mono hd9) q 32896 (by omega) hrow (by omega)) ?_
              rintro _ M10 _ hM10 ⟨rfl, A10, m10, c10, rfl, hA10⟩
              refine asS rfl rfl <| as0 rfl rfl <| zq <| .s2 8 9 rfl rfl <| x_ret (.dropTo L inferInstance (ret2 rfl rfl rfl (hd9.trans hM10) ⟨rfl, _, _, _, by rw [hE, hofv], by
                rw [staV, hE, hofv, if_pos rfl, staB, show o.n.toNat = n by rw [ho.hn]; rfl, show o.p.toNat = i by rw [ho.hp]; rfl, ← hds]
                exact hA10⟩))
end
end Go.Proofs.YtiimjodbaogjbaaGreatDoor
set_option linter.unusedVariables false
set_option linter.unusedSimpArgs false
set_option linter.constructorNameAsVariable false
namespace Go.Proofs.YtiimjodbaogjbaaGreatDoor
open Go Go.Eng
section
variable {G : World} {M : Mem} {L : Own} {NA SA TA : Option Addr} {nl nc sl sc tl tc : Nat} {name sec text : List UInt8}
theorem RSizes_spec (x : PairV) :
  Con Tryz.prog 21 #[.agg (List.toArray x.cells)] G M L (fun v M' L' => M = M' ∧ L = L' ∧ v = .tuple #[.int .i64 ((szP x : Nat) : Int), .int .i64 ((szS x : Nat) : Int)]) noPanic := by
 refine enter (args := [_]) (fn := Tryz.f21) ⟨Tryz.func21, rfl, by kernel_rfl, by kernel_rfl⟩ 27 rfl <| zr <| tl_e rfl <| e_box rfl <| fun b1 => as0 rfl rfl <| as0 rfl rfl <| zq <| zr <| tl_y rfl (y_lg rfl rfl) <| tl_e rfl <| e_call' rfl (RSets12_spec x) ?_
 rintro _ _ _ _ ⟨rfl, rfl, rfl⟩
 refine mvU rfl rfl <| zx rfl rfl <| zx rfl rfl <| zx rfl rfl <| tl_e rfl <| e_alloc <| fun b2 => tl_e rfl <| e_alloc <| fun b3 => tl_e rfl <| e_st rfl rfl (by rfl) (by rfl) <| tl_e rfl <| e_st rfl rfl (by rfl) (by rfl) <| asB rfl rfl <| zq ?_
 refine .s3 4 5 6 rfl rfl rfl <| zr2 <| mvB rfl rfl <| tl_y rfl (y_notd rfl) <| zq <| x_cond rfl (fun hc1 => ?_) (fun hc1 => ?_)
 ·
  refine zr <| as0 rfl rfl <| as0 rfl rfl <| zq <| .s2 2 3 rfl rfl <| x_ret (.then_ret (.dropTo L inferInstance (ret2 rfl rfl rfl (Le.refl _) ⟨rfl, rfl, by rw [szP, szS, if_neg hc1, if_neg hc1]; rfl⟩)))
 ·
  have hok : okP x := Classical.not_not.1 hc1
  obtain ⟨n, w, p, H, hx⟩ := okP_facts hok
  obtain ⟨z1, z2, z3, z4, z5⟩ := hx.sizes
  have hn32 := hx.o.n32
  have hm : (n : Int) * (H : Int) = ((n * H : Nat) : Int) := by push_cast; rfl
  refine x_skip <| .then_normal <| x_seq <| x_draw 14 hmix rfl <| zp 0 rfl rfl (y_fieldAddr rfl) <| zy 1 rfl rfl (y_load (v := .int .i64 (n : Int)) rfl rfl (by rw [← hx.tn]; exact .own inferInstance inferInstance)) <| zp 2 rfl rfl (y_addI rfl rfl (by omega)) <| zy 3 rfl rfl (y_lg rfl rfl) <| zp 6 rfl rfl (y_fieldAddr rfl) <| zy 7 rfl rfl (y_load (v := .int .i64 (n : Int)) rfl rfl (by rw [← hx.tn]; exact .own inferInstance inferInstance)) ?_
  refine zp 8 rfl rfl (y_fieldAddr rfl) <| zy 9 rfl rfl (y_load (v := .int .i64 (H : Int)) rfl rfl (by rw [← hx.th]; exact .own inferInstance inferInstance)) <| zp 10 rfl rfl (y_mulI rfl rfl (by rw [hm]; omega)) ?_
  rw [hm]
  refine ze 4 rfl rfl <| e_call' rfl (RoSizeW_spec (otsV x.o)) ?_
  rintro _ _ _ _ ⟨rfl, rfl, rfl⟩
  rw [sizeW_of hx.o]
  refine ⟨⟨(by first | exact Le.refl _ | assumption), Keeps.mem⟩, ?_⟩
  refine zp 5 rfl rfl (y_addI rfl rfl (by omega)) <| zp 11 rfl rfl (y_addI rfl rfl (by omega)) <| zp 12 rfl rfl (y_assign (v := .int _ _) rfl) <| zp 13 rfl rfl (y_assign (v := .int _ _) rfl) <| zz <| .then_normal <| .s2 2 3 rfl rfl <| x_ret (.dropTo L inferInstance (ret2 rfl rfl rfl (Le.refl _) ⟨rfl, rfl, by rw [szP, szS, if_pos hok, if_pos hok, z1, z2]; rfl⟩))
end
end Go.Proofs.YtiimjodbaogjbaaGreatDoor
set_option linter.unusedVariables false
set_option linter.unusedSimpArgs false
set_option linter.constructorNameAsVariable false
namespace Go.Proofs.YtiimjodbaogjbaaGreatDoor
open Go Go.Eng
theorem f10 : ∃ o : OtsV, otsV 7 = o ∧ OF o 24 4 51 := by
 obtain ⟨o, eo, ee, on, ok_, ow, op, oe, ov⟩ := f9
 obtain ⟨n, w, p, ho⟩ := okO_facts (o := o) ⟨oe, ov⟩
 have h1 := ho.hn
 have h2 := ho.hw
 have h3 := ho.hp
 obtain rfl : n = 24 := by omega
 obtain rfl : w = 4 := by omega
 obtain rfl : p = 51 := by omega
 exact ⟨o, eo, ho⟩
section
variable {G : World} {M : Mem} {L : Own}
end
end Go.Proofs.YtiimjodbaogjbaaGreatDoor
set_option linter.unusedVariables false
set_option linter.unusedSimpArgs false
set_option linter.constructorNameAsVariable false
namespace Go.Proofs.YtiimjodbaogjbaaGreatDoor
open Go Go.Eng
section
variable {G : World} {M : Mem} {L : Own} {PA TA A : Option Addr} {pl pc tl tc m c : Nat} {pub text sig : List UInt8}
theorem RPair_spec {A : Option Addr} {m c : Nat} {bs : List UInt8} (h : Bytes M A m c bs) (hmb : m ≤ 1000000000000) :
  Con Tryz.prog 39 #[.slice A m c] G M L (fun v M' L' => M = M' ∧ L' = L ∧ v = .tuple #[.agg (List.toArray (pairX bs).cells), .int .i64 (pairE bs)]) noPanic := by
 have hm := h.size
 have hc := h.le
 refine enter (args := [_]) (fn := Tryz.f39) ⟨Tryz.func39, rfl, by kernel_rfl, by kernel_rfl⟩ 55 rfl <| zr <| tl_e rfl <| e_alloc <| fun b1 => as0 rfl rfl <| zq <| zr2 <| mvS rfl rfl <| tl_y rfl (y_len rfl) <| tl_y rfl (y_lss rfl rfl) <| zq ?_
 refine x_cond rfl (fun hc1 => ?_) (fun hc1 => ?_)
 ·
  refine zr <| tl_y rfl (y_build rfl) <| tl_e rfl <| e_st rfl rfl (by rfl) (by rfl) <| as0 rfl rfl <| zq <| .s2 2 3 rfl rfl <| x_ret (.then_ret (retRV (L' := L) (rv2 rfl (rc_cellAgg (by rfl) rfl (.own inferInstance inferInstance)) (rc_tmp (by rfl))) inferInstance (Le.refl _) (by
   have e : pairE bs = 2 := by rw [pairE, if_pos (by omega)]
   exact ⟨rfl, rfl, by rw [pairX, e]; rfl⟩)))
 ·
  have h8 : 8 ≤ m := by omega
  have hs4 : Bytes M (sl A 4 c 1) 4 (c - 4) ((bs.drop 4).take 4) := Bytes.sub h 4 8 (by omega) h8
  refine x_skip <| .then_normal <| .s2 0 2 rfl rfl <| zr <| mvS rfl rfl <| tl_y rfl (y_sliceH rfl rfl (by omega) (by omega)) <| tl_e rfl <| e_call' rfl (RGet_spec (Bytes.take h 4 (by omega)) (by omega)) ?_
  rintro _ _ _ _ ⟨rfl, rfl, x, hx, rfl⟩
  have hgl := getB_lt (bs.take 4)
  rw [List.length_take, Nat.min_eq_left (by omega)] at hgl
  have hcv : ((pairC bs).t.toNat : Int) = (x.toNat : Int) := by rw [pairC, UInt32.toNat_ofNat', hx, Nat.mod_eq_of_lt (by omega)]
  refine mvU rfl rfl <| zx rfl rfl <| zx rfl rfl <| asI rfl rfl <| asB rfl rfl <| zq <| .s3 0 2 4 rfl rfl rfl <| zr <| mvS rfl rfl <| tl_y rfl (y_sliceLH rfl rfl rfl (by omega) (by omega)) ?_
  refine tl_e rfl <| e_call' rfl (RGet_spec hs4 (by omega)) ?_
  rintro _ _ _ _ ⟨rfl, rfl, y, hy, rfl⟩
  have hgl2 := getB_lt ((bs.drop 4).take 4)
  rw [List.length_take, List.length_drop, Nat.min_eq_left (by omega)] at hgl2
  have hcv2 : ((pairC bs).o.toNat : Int) = (y.toNat : Int) := by rw [pairC, UInt32.toNat_ofNat', hy, Nat.mod_eq_of_lt (by omega)]
  refine mvU rfl rfl <| zx rfl rfl <| zx rfl rfl <| asI rfl rfl <| asB rfl rfl <| zq <| .s4 0 2 4 6 rfl rfl rfl rfl <| zr <| mvI rfl rfl <| tl_y rfl (y_convE (b := ((pairC bs).o.toNat : Int)) rfl (by rw [wrapU32, hcv2]; omega)) ?_
  refine mvI rfl rfl <| tl_y rfl (y_convE (b := ((pairC bs).t.toNat : Int)) rfl (by rw [wrapU32, hcv]; omega)) <| tl_y rfl (y_build rfl) <| tl_e rfl <| e_alloc <| fun b2 => tl_e rfl <| e_st rfl rfl (by rfl) (by rfl) <| zq <| .s3 0 2 8 rfl rfl rfl <| zr <| tl_y rfl (y_lg rfl rfl) <| tl_e rfl <| e_call' rfl (RSets12_spec (pairC bs)) ?_
  rintro _ _ _ _ ⟨rfl, rfl, rfl⟩
  refine mvU rfl rfl <| zx rfl rfl <| zx rfl rfl <| zx rfl rfl <| tl_e rfl <| e_alloc <| fun b3 => tl_e rfl <| e_alloc <| fun b4 => tl_e rfl <| e_st rfl rfl (by rfl) (by rfl) <| tl_e rfl <| e_st rfl rfl (by rfl) (by rfl) <| asB rfl rfl <| zq ?_
  refine .s4 0 2 8 11 rfl rfl rfl rfl <| zr2 <| mvB rfl rfl <| tl_y rfl (y_notd rfl) <| zq <| x_cond rfl (fun hc2 => ?_) (fun hc2 => ?_)
  ·
   refine zr <| tl_y rfl (y_build rfl) <| tl_e rfl <| e_st rfl rfl (by rfl) (by rfl) <| as0 rfl rfl <| zq <| .s2 2 3 rfl rfl <| x_ret (.then_ret (retRV (L' := L) (rv2 rfl (rc_cellAgg (by rfl) rfl (.own inferInstance inferInstance)) (rc_tmp (by rfl))) inferInstance (Le.refl _) (by
    have e : pairE bs = 4 := by rw [pairE, if_neg (by omega), if_pos hc2]
    exact ⟨rfl, rfl, by rw [pairX, e]; rfl⟩)))
  ·
   have hok : okP (pairC bs) := Classical.not_not.1 hc2
   have hsz : szP (pairC bs) = pubN (pairC bs) := by rw [szP, if_pos hok]
   refine x_skip <| .then_normal <| zr <| tl_y rfl (y_lg rfl rfl) <| tl_e rfl <| e_call' rfl (RSizes_spec (pairC bs)) ?_
   rintro _ _ _ _ ⟨rfl, rfl, rfl⟩
   rw [hsz]
   refine mvU rfl rfl <| zx rfl rfl <| zx rfl rfl <| asI rfl rfl <| asI rfl rfl <| zq <| .s4 0 2 8 12 rfl rfl rfl rfl <| zr2 <| mvS rfl rfl <| tl_y rfl (y_len rfl) ?_
   refine mvI rfl rfl <| tl_y rfl (y_neq rfl rfl) <| zq <| .s3 2 8 52 rfl rfl rfl <| x_cond rfl (fun hc3 => ?_) (fun hc3 => ?_)
   ·
    refine zr <| tl_y rfl (y_build rfl) <| tl_e rfl <| e_st rfl rfl (by rfl) (by rfl) <| as0 rfl rfl <| zq <| x_ret (.then_ret (retRV (L' := L) (rv2 rfl (rc_cellAgg (by rfl) rfl (.own inferInstance inferInstance)) (rc_tmp (by rfl))) inferInstance (Le.refl _) (by
     have e : pairE bs = 5 := by rw [pairE, if_neg (by omega), if_neg hc2, if_pos (by omega)]
     exact ⟨rfl, rfl, by rw [pairX, e]; rfl⟩)))
   ·
    refine x_skip <| .then_normal <| zr <| tl_y rfl (y_lg rfl rfl) <| tl_e rfl <| e_st rfl rfl (by rfl) (by rfl) <| as0 rfl rfl <| zq <| x_ret (retRV (L' := L) (rv2 rfl (rc_cellAgg (by rfl) rfl (.own inferInstance inferInstance)) (rc_tmp (by rfl))) inferInstance (Le.refl _) (by
     have e : pairE bs = 0 := by rw [pairE, if_neg (by omega), if_neg hc2, if_neg (by omega)]
     exact ⟨rfl, rfl, by rw [pairX, e]; rfl⟩))
theorem RFits_lspec (hpub : Bytes M PA pl pc pub) (htext : Bytes M TA tl tc text) (hsig : Bytes M A m c sig) (hpb : pl ≤ 1000000000000) (hmb : m ≤ 1000000000000) :
    Con Tryz.prog 42 #[.slice PA pl pc, .slice TA tl tc, .slice A m c] G M L (fun v M' L' => L' = L ∧ v = .bool (decide (fitK pub tl text sig))) noPanic := by
  have hps := hpub.size
  have hpc := hpub.le
  have hms := hsig.size
  have hmc := hsig.le
  have hfalse : ¬ fitK pub tl text sig → (Value.bool false) = .bool (decide (fitK pub tl text sig)) := fun h => congrArg Value.bool (decide_eq_false h).symm
  refine enter (args := [_, _, _]) (fn := Tryz.f42) ⟨Tryz.func42, rfl, by kernel_rfl, by kernel_rfl⟩ 135 rfl <| zr <| as0 rfl rfl <| zq <| zr <| mvS rfl rfl <| tl_e rfl <| e_call' rfl (RPair_spec hpub hpb) ?_
  rintro _ _ L _ ⟨rfl, rfl, rfl⟩
  refine mvU rfl rfl <| zx rfl rfl <| zx rfl rfl <| tl_e rfl <| e_alloc <| fun b1 => tl_e rfl <| e_st rfl rfl (by rfl) (by rfl) <| asI rfl rfl <| zq <| .s5 0 1 2 7 8 rfl rfl rfl rfl rfl <| zr2 <| mvI rfl rfl ?_
  refine tl_y rfl (y_neq rfl rfl) <| mvB rfl rfl <| tl_cases (s := 30) rfl (fun hk1 => ?_) (fun hk1 => ?_)
  ·
    refine tl_skip rfl <| tl_skip rfl <| tl_skip rfl <| tl_y rfl (y_pickT rfl rfl) <| zq <| .s5 0 1 2 7 34 rfl rfl rfl rfl rfl <| x_true rfl rfl <| zr <| as0 rfl rfl <| zq ?_
    refine .s1 6 rfl <| x_ret (.then_ret (.dropTo L inferInstance (ret1 rfl rfl (Le.refl _) ⟨rfl, hfalse (fun h => hk1 h.1)⟩)))
  ·
    refine mvS rfl rfl <| tl_y rfl (y_len rfl) <| tl_y rfl (y_gtr rfl rfl) <| tl_y rfl (y_pickF rfl rfl) <| zq <| .s5 0 1 2 7 34 rfl rfl rfl rfl rfl <| x_cond rfl (fun hc1 => ?_) (fun hc1 => ?_)
    ·
      refine zr <| as0 rfl rfl <| zq <| .s1 6 rfl <| x_ret (.then_ret (.dropTo L inferInstance (ret1 rfl rfl (Le.refl _) ⟨rfl, hfalse (fun h => by
        have := h.2.1.2.2.2.1
        rw [staE, if_pos (.inr (by omega))] at this
        cases this)⟩)))
    ·
      have h0 : pairE pub = 0 := Classical.not_not.1 hk1
      have htl : tl ≤ 65536 := by omega
      obtain ⟨h8, hok, hlen⟩ := pairE_zero h0
      have hx0 : pairX pub = pairC pub := by rw [pairX, if_pos h0]
      rw [hx0]
      obtain ⟨x, hxe⟩ : ∃ x, x = pairC pub := ⟨_, rfl⟩
      rw [← hxe] at hok hlen ⊢
      obtain ⟨n, w, p, H, hx⟩ := okP_facts hok
      obtain ⟨z1, z2, z3, z4, z5⟩ := hx.sizes
      have hn32 := hx.o.n32
      have hnm : Bytes M (sl PA 8 pc 1) 16 (pc - 8) (nameP pub) := Bytes.sub hpub 8 24 (by omega) (by omega)
      have hsz : szS x = sigN x := by rw [szS, if_pos hok]
      have hp48 : Bytes M (sl PA 4 pc 1) 4 (pc - 4) ((pub.drop 4).take 4) := Bytes.sub hpub 4 8 (by omega) (by omega)
      have hp04 : Bytes M (sl PA 0 pc 1) 4 pc (pub.take 4) := Bytes.take hpub 4 (by omega)
      have ho4 : putB x.o.toNat 4 = (pub.drop 4).take 4 := by rw [hxe, pairC]; exact putB_get4 (by rw [List.length_take, List.length_drop]; omega)
      have ht4 : putB x.t.toNat 4 = pub.take 4 := by rw [hxe, pairC]; exact putB_get4 (by rw [List.length_take]; omega)
      have hfx : ∀ {tl' : Nat} {text' sig' : List UInt8}, fitK pub tl' text' sig' ↔ (fitL x tl' (nameP pub) text' sig' ∧ fitR x tl' (nameP pub) text' sig' = pub.drop 24) := by
        intro tl' text' sig'
        rw [fitK, ← hxe]
        exact ⟨fun h => h.2, fun h => ⟨h0, h⟩⟩
      refine x_skip <| .then_normal <| zr <| tl_y rfl (y_lg rfl rfl) <| tl_e rfl <| e_call' rfl (RSets12_spec x) ?_
      rintro _ _ _ _ ⟨rfl, rfl, rfl⟩
      refine mvU rfl rfl <| zx rfl rfl <| zx rfl rfl <| zx rfl rfl <| tl_e rfl <| e_alloc <| fun b2 => tl_e rfl <| e_alloc <| fun b3 => tl_e rfl <| e_st rfl rfl (by rfl) (by rfl) <| tl_e rfl <| e_st rfl rfl (by rfl) (by rfl) <| asB rfl rfl <| zq ?_
      refine .s6 0 1 2 7 9 10 rfl rfl rfl rfl rfl rfl <| zr <| tl_y rfl (y_lg rfl rfl) <| tl_e rfl <| e_call' rfl (RSizes_spec x) ?_
      rintro _ _ _ _ ⟨rfl, rfl, rfl⟩
      rw [hsz]
      refine mvU rfl rfl <| zx rfl rfl <| zx rfl rfl <| asI rfl rfl <| asI rfl rfl <| zq <| .s6 0 1 2 9 10 13 rfl rfl rfl rfl rfl rfl <| zr2 <| mvS rfl rfl <| tl_y rfl (y_len rfl) ?_
      refine mvI rfl rfl <| tl_y rfl (y_neq rfl rfl) <| zq <| .s6 0 1 2 9 10 49 rfl rfl rfl rfl rfl rfl <| x_cond rfl (fun hc2 => ?_) (fun hc2 => ?_)
      ·
        refine zr <| as0 rfl rfl <| zq <| .s1 6 rfl <| x_ret (.then_ret (.dropTo L inferInstance (ret1 rfl rfl (Le.refl _) ⟨rfl, hfalse (fun h => by have := (hfx.1 h).1.1; omega)⟩)))
      ·
        have hml : m = sigN x := by omega
        obtain ⟨S, hS⟩ : ∃ S, S = sizeN (otsV x.o) := ⟨_, rfl⟩
        rw [← hS] at z2 z4 z5
        have h04 := Bytes.take hsig 4 (by omega)
        have h48 : Bytes M (sl A 4 c 1) 4 (c - 4) ((sig.drop 4).take 4) := Bytes.sub hsig 4 8 (by omega) (by omega)
        have ht48 : Bytes M (sl A (4 + S) c 1) 4 (c - (4 + S)) ((sig.drop (4 + S)).take 4) := by
          have := Bytes.sub hsig (4 + S) (4 + S + 4) (by omega) (by omega)
          rwa [show 4 + S + 4 - (4 + S) = 4 by omega] at this
        have hsg : Bytes M (sl A 4 c 1) S (c - 4) ((sig.drop 4).take S) := by
          have := Bytes.sub hsig 4 (4 + S) (by omega) (by omega)
          rwa [show 4 + S - 4 = S by omega] at this
        have hgl := getB_lt (sig.take 4)
        rw [List.length_take, Nat.min_eq_left (by omega)] at hgl
        obtain ⟨q, hq⟩ : ∃ q : UInt32, q.toNat = getB (sig.take 4) := ⟨UInt32.ofNat (getB (sig.take 4)), by rw [UInt32.toNat_ofNat', Nat.mod_eq_of_lt (by omega)]⟩
        have hfl : fitL x tl (nameP pub) text sig ↔ ((sig.drop 4).take 4 = (pub.drop 4).take 4 ∧ (sig.drop (4 + S)).take 4 = pub.take 4 ∧ staE 16 tl ((sig.drop 4).take S) = 0 ∧ climbE (treeV x.t) 16 q.toNat (fitWay x sig) = 0) := by
          rw [fitL, ho4, ht4, ← hS, hq]
          exact ⟨fun h => h.2, fun h => ⟨by omega, h⟩⟩
        refine x_skip <| .then_normal <| zr <| tl_y rfl (y_lg rfl rfl) <| tl_e rfl <| e_call' rfl (RoSizeW_spec (otsV x.o)) ?_
        rintro _ _ _ _ ⟨rfl, rfl, rfl⟩
        rw [sizeW_of hx.o, ← hS]
        refine tl_y rfl (y_addI rfl rfl (by omega)) <| asI rfl rfl <| zq <| .s5 0 1 2 10 14 rfl rfl rfl rfl rfl <| zr <| mvS rfl rfl <| tl_y rfl (y_sliceH rfl rfl (by omega) (by omega)) <| tl_e rfl <| e_call' rfl (RGet_spec h04 (by omega)) ?_
        rintro _ _ _ _ ⟨rfl, rfl, y, hy, rfl⟩
        refine mvU rfl rfl <| zx rfl rfl <| zx rfl rfl <| asI rfl rfl <| asB rfl rfl <| zq <| .s6 0 1 2 10 14 15 rfl rfl rfl rfl rfl rfl <| x_seq <| x_seq <| x_draw 17 hmix rfl <| zp 0 rfl rfl (y_move (v := .slice _ _ _) rfl) ?_
        refine zp 1 rfl rfl (y_sliceLH rfl rfl rfl (by omega) (by omega)) <| zp 2 rfl rfl (y_move (v := .slice _ _ _) rfl) <| zp 3 rfl rfl (y_sliceLH rfl rfl rfl (by omega) (by omega)) <| ze 4 rfl rfl <| e_call' rfl (same_spec h48 hp48) ?_
        rintro _ _ _ _ ⟨rfl, rfl, rfl⟩
        refine ⟨⟨(by first | exact Le.refl _ | assumption), Keeps.mem⟩, ?_⟩
        refine zp 5 rfl rfl (y_notd rfl) <| zp 6 rfl rfl (y_move (v := .bool _) rfl) <| to_cases (s := 65) rfl (fun hk2 => ?_) (fun hk2 => ?_)
        ·
          refine zs 7 rfl rfl <| zs 8 rfl rfl <| zs 9 rfl rfl <| zs 10 rfl rfl <| zs 11 rfl rfl <| zs 12 rfl rfl <| zs 13 rfl rfl <| zs 14 rfl rfl <| zs 15 rfl rfl <| zp 16 rfl rfl (y_pickT rfl rfl) ?_
          refine zz <| .then_normal <| .s7 0 1 2 10 14 15 75 rfl rfl rfl rfl rfl rfl rfl <| x_true rfl rfl <| zr <| as0 rfl rfl <| zq <| .s1 6 rfl <| x_ret (.then_ret (.dropTo L inferInstance (ret1 rfl rfl (Le.refl _) ⟨rfl, hfalse (fun h => hk2 (hfl.1 (hfx.1 h).1).1)⟩)))
        ·
          refine zp 7 rfl rfl (y_move (v := .slice _ _ _) rfl) <| zp 8 rfl rfl (y_move (v := .int _ _) rfl) <| zp 9 rfl rfl (y_move (v := .int _ _) rfl) <| zp 10 rfl rfl (y_addI rfl rfl (by omega)) <| zp 11 rfl rfl (y_sliceLH rfl rfl rfl (by omega) (by omega)) ?_
          rw [show ((4 : Int) + (S : Int)).toNat = 4 + S by omega, show ((4 : Int) + (S : Int) + 4).toNat - (4 + S) = 4 by omega]
          refine zp 12 rfl rfl (y_move (v := .slice _ _ _) rfl) <| zp 13 rfl rfl (y_sliceH rfl rfl (by omega) (by omega)) <| ze 14 rfl rfl <| e_call' rfl (same_spec ht48 hp04) ?_
          rintro _ _ _ _ ⟨rfl, rfl, rfl⟩
          refine ⟨⟨(by first | exact Le.refl _ | assumption), Keeps.mem⟩, ?_⟩
          refine zp 15 rfl rfl (y_notd rfl) <| zp 16 rfl rfl (y_pickF rfl rfl) <| zz <| .then_normal <| .s7 0 1 2 10 14 15 75 rfl rfl rfl rfl rfl rfl rfl <| x_cond rfl (fun hc3 => ?_) (fun hc3 => ?_)
          ·
            refine zr <| as0 rfl rfl <| zq <| .s1 6 rfl <| x_ret (.then_ret (.dropTo L inferInstance (ret1 rfl rfl (Le.refl _) ⟨rfl, hfalse (fun h => hc3 (hfl.1 (hfx.1 h).1).2.1)⟩)))
          ·
            refine x_skip <| .then_normal <| x_seq <| x_draw 14 hmix rfl <| zp 0 rfl rfl (y_move (v := .slice _ _ _) rfl) <| zp 1 rfl rfl (y_sliceLH rfl rfl rfl (by omega) (by omega)) <| zp 2 rfl rfl (y_move (v := .int _ _) rfl) <| zp 3 rfl rfl (y_convE (b := (q.toNat : Int)) rfl (by rw [wrapU32, hq]; omega)) <| zp 4 rfl rfl (y_move (v := .slice _ _ _) rfl) <| zp 5 rfl rfl (y_move (v := .slice _ _ _) rfl) <| zp 6 rfl rfl (y_move (v := .int _ _) rfl) ?_
            refine zp 7 rfl rfl (y_sliceLH rfl rfl rfl (by omega) (by omega)) ?_
            rw [show ((4 : Int) + (S : Int)).toNat - (4 : Int).toNat = S by omega]
            refine ze 8 rfl rfl <| e_call' rfl (RoStands_spec hnm q htext hsg) ?_
            rintro _ M4 _ hM4 ⟨rfl, A4, m4, c4, rfl, hA4⟩
            have hm4 := hA4.size
            have hm4' := staV_le (nl := 16) (tl := tl) (name := nameP pub) (q := q.toNat) (text := text) (sig := (sig.drop 4).take S)
            refine ⟨⟨(by first | exact Le.refl _ | assumption), Keeps.mem⟩, ?_⟩
            refine zp 9 rfl rfl (y_move (v := .tuple _) rfl) <| zp 10 rfl rfl (y_extract rfl) <| zp 11 rfl rfl (y_extract rfl) <| zp 12 rfl rfl (y_assign (v := .slice _ _ _) rfl) <| zp 13 rfl rfl (y_assign (v := .int _ _) rfl) <| zz <| .then_normal <| .s7 0 2 10 14 15 17 18 rfl rfl rfl rfl rfl rfl rfl <| zr2 <| mvI rfl rfl <| tl_y rfl (y_neq rfl rfl) ?_
            refine zq <| x_cond rfl (fun hc4 => ?_) (fun hc4 => ?_)
            ·
              refine zr <| as0 rfl rfl <| zq <| .s1 6 rfl <| x_ret (.then_ret (.dropTo L inferInstance (ret1 rfl rfl hM4 ⟨rfl, hfalse (fun h => hc4 (hfl.1 (hfx.1 h).1).2.2.1)⟩)))
            ·
              have hst : staE 16 tl ((sig.drop 4).take S) = 0 := Classical.not_not.1 hc4
              refine x_skip <| .then_normal <| zr <| as0 rfl rfl <| zq <| zr2 <| as0 rfl rfl <| zq <| x_block ?_
              refine x_loop (I := fun m' F D M5 L5 => ∃ (i : Nat) (AW : Option Addr) (cW : Nat) (E : Own) (ws : List Value), m' = H - i ∧ i ≤ H ∧ Le M4 M5 ∧ OwnRow 35 1 AW i cW ws E ∧ BRows M5 ws (wayS sig (8 + S) n i) ∧ D = [] ∧ L5 = E ++ ((b3, .cells (List.toArray (treeV x.t).cells) 29 (0, 0)) :: (b2, .cells (List.toArray (otsV x.o).cells) 27 (0, 0)) :: (b1, .cells (List.toArray x.cells) 24 (0, 0)) :: L) ∧ F = [(0, .slice PA pl pc), (2, .slice A m c), (10, .pointer (some ⟨b3, 0, none⟩)), (14, .int .i64 (4 + (S : Int))), (15, .int .u64 (y.toNat : Int)), (17, .slice A4 m4 c4), (19, .slice AW i cW), (20, .int .i64 i)]) (H) (F0 := [(0, _), (2, _), (10, _), (14, _), (15, _), (17, _), (19, _), (20, _)]) ?_ (.cons rfl (.cons rfl (.cons rfl (.cons rfl (.cons rfl (.cons rfl (.cons rfl (.cons rfl .nil)))))))) ?_  -- slots [0, 2, 10, 14, 15, 17, 19, 20], written [19, 20]
              · exact ⟨0, none, 0, [], [], rfl, by omega, Le.refl _, .nil, .nil, rfl, rfl, rfl⟩
              rintro m _ _ M5 _ ⟨i, AW, cW, E, ws, rfl, hi, hM5, hE, hW, rfl, rfl, rfl⟩
              have hHb := hx.h2
              refine zr2 <| mvI rfl rfl <| tl_y rfl (y_fieldAddr rfl) <| tl_y rfl (y_load (v := .int .i64 (H : Int)) rfl rfl (by rw [← hx.th]; exact .own inferInstance inferInstance)) <| tl_y rfl (y_lss rfl rfl) <| zq <| x_cond rfl (fun hc5 => ?_) (fun hc5 => ?_)
              ·
                have hiH : i < H := by omega
                have hin : i * n + n ≤ n * H := by
                  have := Nat.mul_le_mul_left n (show i + 1 ≤ H from hiH)
                  rw [Nat.mul_succ, Nat.mul_comm n i] at this
                  omega
                have hm1 : (i : Int) * (n : Int) = ((i * n : Nat) : Int) := by push_cast; rfl
                have hm2 : ((i : Int) + 1) * (n : Int) = ((i * n + n : Nat) : Int) := by rw [Int.add_mul, Int.one_mul, hm1]; push_cast; rfl
                have hsub := Bytes.sub (hsig.mono (hM4.trans hM5)) (8 + S + i * n) (8 + S + i * n + n) (by omega) (by omega)
                rw [show 8 + S + i * n + n - (8 + S + i * n) = n by omega] at hsub
                refine x_skip <| .then_normal <| .s8 0 2 10 14 15 17 19 20 rfl rfl rfl rfl rfl rfl rfl rfl <| x_seq <| x_block <| x_region <| mvS rfl rfl <| mvS rfl rfl <| mvI rfl rfl <| tl_y rfl (y_addI rfl rfl (by omega)) <| mvI rfl rfl ?_
                refine tl_y rfl (y_fieldAddr rfl) <| tl_y rfl (y_load (v := .int .i64 (n : Int)) rfl rfl (by rw [← hx.tn]; exact .own inferInstance inferInstance)) <| tl_y rfl (y_mulI rfl rfl (by rw [hm1]; omega)) ?_
                rw [hm1]
                refine tl_y rfl (y_addI rfl rfl (by omega)) <| mvI rfl rfl <| tl_y rfl (y_addI rfl rfl (by omega)) <| mvI rfl rfl <| tl_y rfl (y_addI rfl rfl (by omega)) <| tl_y rfl (y_fieldAddr rfl) <| tl_y rfl (y_load (v := .int .i64 (n : Int)) rfl rfl (by rw [← hx.tn]; exact .own inferInstance inferInstance)) <| tl_y rfl (y_mulI rfl rfl (by rw [hm2]; omega)) ?_
                rw [hm2]
                refine tl_y rfl (y_addI rfl rfl (by omega)) <| tl_y rfl (y_sliceLH rfl rfl rfl (by omega) (by omega)) ?_
                rw [show ((4 : Int) + (S : Int) + 4 + ((i * n : Nat) : Int)).toNat = 8 + S + i * n by omega, show ((4 : Int) + (S : Int) + 4 + ((i * n + n : Nat) : Int)).toNat - (8 + S + i * n) = n by omega]
                refine tl_e rfl <| e_buildSlice rfl (by decide) <| fun b4 => .pub b4 inferInstance <| fun M6 hM6 hb6 => tl_e rfl <| e_append (by decide) rfl rfl hE (.row (Row.whole (s := 1) hb6 rfl (by omega))) rfl (by omega) (by omega) <| fun A7 c7 E7 hE7 => asS rfl rfl <| tl_nil <| .block_normal <| .then_normal <| .s8 0 2 10 14 15 17 19 20 rfl rfl rfl rfl rfl rfl rfl rfl <| x_region <| mvI rfl rfl <| tl_y rfl (y_addI rfl rfl (by omega)) ?_
                refine asI rfl rfl <| tl_nil <| .loop_next (m' := H - (i + 1)) (by omega) (F' := [(0, _), (2, _), (10, _), (14, _), (15, _), (17, _), (19, _), (20, _)]) (.cons rfl (.cons rfl (.cons rfl (.cons rfl (.cons rfl (.cons rfl (.cons rfl (.cons rfl .nil)))))))) ?_
                exact ⟨i + 1, A7, c7, E7, _, rfl, by omega, hM5.trans hM6, hE7, by rw [wayS_succ]; exact (hW.mono hM6).snoc (hsub.mono hM6), rfl, rfl, rfl⟩
              ·
                obtain rfl : i = H := by omega
                refine .pubRow hE <| fun M6 hM6 hrow6 => ?_
                have hd6 := hM4.trans (hM5.trans hM6)
                have hway : fitWay x sig = wayS sig (8 + S) n i := by rw [fitWay, hx.tn, hx.th, hS]; rfl
                have hkey : staV 16 tl (nameP pub) q.toNat text ((sig.drop 4).take S) = fitKey x tl (nameP pub) text sig := by rw [fitKey, hq, hS]
                refine x_exit <| .then_exit <| .loop_exit <| .block_exit <| .then_normal <| .s5 0 10 15 17 19 rfl rfl rfl rfl rfl <| x_seq <| x_draw 13 hmix rfl <| zy 0 rfl rfl (y_lg rfl rfl) <| zp 1 rfl rfl (y_move (v := .slice _ _ _) rfl) <| zp 2 rfl rfl (y_sliceLH rfl rfl rfl (by omega) (by omega)) <| zp 3 rfl rfl (y_move (v := .int _ _) rfl) <| zp 4 rfl rfl (y_convE (b := (q.toNat : Int)) rfl (by rw [wrapU32, hq]; omega)) <| zp 5 rfl rfl (y_move (v := .slice _ _ _) rfl) ?_
                refine zp 6 rfl rfl (y_move (v := .slice _ _ _) rfl) <| ze 7 rfl rfl <| e_call' rfl (RClimb_spec (treeV x.t) (hnm.mono hd6) q (hA4.mono (hM5.trans hM6)) (by omega) hrow6 (hW.mono hM6)) ?_
                rintro _ M7 _ hM7 ⟨rfl, A7, m7, c7, rfl, hA7⟩
                have hd7 := hd6.trans hM7
                rw [hkey, ← hway] at hA7
                rw [← hway]
                have hR : climbB (treeV x.t) (nameP pub) q.toNat (fitKey x tl (nameP pub) text sig) (fitWay x sig) = fitR x tl (nameP pub) text sig := by rw [fitR, hq]
                rw [hR] at hA7
                refine ⟨⟨(by first | exact Le.refl _ | assumption), Keeps.mem⟩, ?_⟩
                refine zp 8 rfl rfl (y_move (v := .tuple _) rfl) <| zp 9 rfl rfl (y_extract rfl) <| zp 10 rfl rfl (y_extract rfl) <| zp 11 rfl rfl (y_assign (v := .slice _ _ _) rfl) <| zp 12 rfl rfl (y_assign (v := .int _ _) rfl) <| zz <| .then_normal <| .s3 0 21 22 rfl rfl rfl <| zr <| mvI rfl rfl <| tl_y rfl (y_eql rfl rfl) ?_
                refine mvB rfl rfl <| tl_cases (s := 129) rfl (fun hk3 => ?_) (fun hk3 => ?_)
                ·
                  refine mvS rfl rfl <| mvS rfl rfl <| tl_y rfl (y_sliceL rfl rfl (by omega)) <| tl_e rfl <| e_call' rfl (same_spec hA7 (Bytes.drop (hpub.mono hd7) 24 (by omega))) ?_
                  rintro _ _ _ _ ⟨rfl, rfl, rfl⟩
                  refine tl_y rfl (y_pickT rfl rfl) <| asB rfl rfl <| zq <| .s1 6 rfl <| x_ret (.dropTo L inferInstance (ret1 rfl rfl hd7 ⟨rfl, by
                    congr 1
                    rw [decide_eq_decide, hfx, hfl]
                    exact ⟨fun h => ⟨⟨Classical.not_not.1 hk2, Classical.not_not.1 hc3, hst, hk3⟩, h⟩, fun h => h.2⟩⟩))
                ·
                  refine tl_skip rfl <| tl_skip rfl <| tl_skip rfl <| tl_skip rfl <| tl_y rfl (y_pickF rfl rfl) <| asB rfl rfl <| zq <| .s1 6 rfl <| x_ret (.dropTo L inferInstance (ret1 rfl rfl hd7 ⟨rfl, hfalse (fun h => hk3 (hfl.1 (hfx.1 h).1).2.2.2)⟩))
end
end Go.Proofs.YtiimjodbaogjbaaGreatDoor
