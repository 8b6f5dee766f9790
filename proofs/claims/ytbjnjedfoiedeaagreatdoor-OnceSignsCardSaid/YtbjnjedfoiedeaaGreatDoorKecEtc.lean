/-
Contracts of functions, each proved by a walk through its code.
-/
import Derived.Test.YtbjnjedfoiedeaaGreatDoorEngWEtc
import Derived.Test.YtbjnjedfoiedeaaGreatDoorTypes1Etc
import Derived.Test.YtbjnjedfoiedeaaGreatDoorEngIEtc
set_option linter.unusedVariables false
set_option linter.unusedSimpArgs false
namespace Go.Proofs.YtbjnjedfoiedeaaGreatDoor
open Go Go.Eng
section
variable {G : World} {M : Mem} {L : Own}
theorem get_u64' (w : List UInt64) (i : Nat) (h : i < w.length) : (w.map u64v)[i]? = some (u64v (w.getD i 0)) := by
  rw [List.getElem?_map, List.getD_eq_getElem?_getD, List.getElem?_eq_getElem h]; rfl
theorem u64_one (w : List UInt64) : (w.map u64v).all one = true := by simp [one, Value.oneCell']
theorem rl64_a : ∀ n : Fin 64, (UInt64.ofInt (n.val : Int) &&& 63).toNat = n.val ∧ (64 - (UInt64.ofInt (n.val : Int) &&& 63)).toNat = 64 - n.val := by decide +kernel
theorem rotl64_spec (x : UInt64) (n : Nat) (hn : n < 64) :
    Con Tryz.prog 106 #[.int .u64 (x.toNat : Int), .int .i64 (n : Int)] G M L (fun r M' L' => M = M' ∧ L = L' ∧ r = .int .u64 ((rotl x n).toNat : Int)) noPanic := by
  obtain ⟨h1, h2⟩ := rl64_a ⟨n, hn⟩
  refine enter (args := [_, _]) (fn := Tryz.f106) ⟨Tryz.func106, rfl, by kernel_rfl, by kernel_rfl⟩ 17 rfl ?_
  refine x_seq (x_region ?_)
  refine tl_y rfl (y_assign rfl) ?_
  refine tl_nil (.then_normal ?_)
  refine x_seq (x_region ?_)
  refine tl_y rfl (y_move (v := .int _ _) rfl) ?_
  refine tl_y rfl (y_of64 rfl) ?_
  refine tl_y rfl (y_and64 (b := 63) rfl rfl) ?_
  refine tl_y rfl (y_assign (v := .int _ _) rfl) ?_
  refine tl_nil (.then_normal ?_)
  refine .sub (F' := [(0, _), (5, _)]) (.cons rfl (.cons rfl .nil)) ?_
  refine x_seq (x_region ?_)
  refine tl_y rfl (y_move (v := .int _ _) rfl) ?_
  refine tl_y rfl (y_move (v := .int _ _) rfl) ?_
  refine tl_y rfl (y_shl64 rfl rfl) ?_
  refine tl_y rfl (y_move (v := .int _ _) rfl) ?_
  refine tl_y rfl (y_move (v := .int _ _) rfl) ?_
  refine tl_y rfl (y_sub64 (a := 64) rfl rfl) ?_
  refine tl_y rfl (y_shr64 rfl rfl) ?_
  refine tl_y rfl (y_or64 rfl rfl) ?_
  refine tl_y rfl (y_assign (v := .int _ _) rfl) ?_
  refine tl_nil (.then_normal ?_)
  refine .sub (F' := [(4, _)]) (.cons rfl .nil) ?_
  refine x_ret (ret1 rfl rfl (Le.refl _) ⟨rfl, rfl, by
    have e1 : (UInt64.ofInt (n : Int) &&& 63).toNat = n := h1
    have e2 : (64 - (UInt64.ofInt (n : Int) &&& 63)).toNat = 64 - n := h2
    rw [e1, e2]; rfl⟩)
abbrev kB (b : Nat) (a : List UInt64) : Nat × Obj := (b, .cells (a.map u64v).toArray 95 (0, 0))
theorem theta_spec {b : Nat} {a : List UInt64} (hl : a.length = 25) :
    Con Tryz.prog 105 #[.pointer (some ⟨b, 0, none⟩)] G M (kB b a :: L) (fun r M' L' => M = M' ∧ L' = kB b (kThetaA a) :: L) noPanic := by
  refine enter (args := [_]) (fn := Tryz.f105) ⟨Tryz.func105, rfl, by kernel_rfl, by kernel_rfl⟩ 48 rfl ?_
  refine x_seq (x_region ?_)
  refine tl_e rfl (e_alloc (fun b1 => ?_))
  refine tl_nil (.then_normal ?_)
  refine x_seq (x_seq (x_region ?_))
  refine tl_y rfl (y_move (v := .pointer _) rfl) ?_
  refine tl_y rfl (y_move rfl) ?_
  refine tl_nil (.then_normal ?_)
  refine x_block ?_
  refine x_loop (I := fun m' F D M2 L1 => ∃ k : Nat, m' = 25 - k ∧ k ≤ 25 ∧ D = [] ∧ M = M2 ∧ L1 = (b1, .cells ((kCols a k).map u64v).toArray 123 (0, 0)) :: kB b a :: L ∧ F = [(0, .pointer (some ⟨b, 0, none⟩)), (2, .pointer (some ⟨b1, 0, none⟩)), (7, .pointer (some ⟨b, 0, none⟩)), (8, .int .i64 k)]) (25) (F0 := [(0, _), (2, _), (7, _), (8, _)]) ?_ (.cons rfl (.cons rfl (.cons rfl (.cons rfl .nil)))) ?_  -- slots [0, 2, 7, 8], written [8]
  · exact ⟨0, rfl, by omega, rfl, rfl, rfl, rfl⟩
  rintro m _ _ M2 L1 ⟨k, rfl, hk, rfl, rfl, rfl, rfl⟩
  refine x_seq (x_region ?_)
  refine tl_y rfl (y_lss rfl rfl) ?_
  refine tl_nil (.then_normal ?_)
  refine x_seq ?_
  refine x_cond rfl (fun hc1 => ?_) (fun hc1 => ?_)
  ·
    refine x_skip (.then_normal ?_)
    refine x_seq ?_
    refine x_block ?_
    refine x_seq ?_
    refine x_draw 6 hmix rfl ?_
    refine to_p 0 rfl (by kernel_rfl) rfl (y_move (v := .int _ _) rfl) ?_
    refine to_p 1 rfl (by kernel_rfl) rfl (y_nilCheck rfl) ?_
    refine to_p 2 rfl (by kernel_rfl) rfl (y_indexArr rfl rfl (by omega)) ?_
    refine to_y 3 rfl (by kernel_rfl) rfl (y_load rfl rfl (.at_ (.ownAt (i := k) (c := a.map u64v) inferInstance (get_u64' _ _ (by omega))) (by omega))) ?_
    refine to_p 4 rfl (by kernel_rfl) rfl (y_assign (v := .int _ _) rfl) ?_
    refine to_p 5 rfl (by kernel_rfl) rfl (y_assign (v := .int _ _) rfl) ?_
    refine to_nil (by kernel_rfl) (.then_normal ?_)
    refine .sub (F' := [(0, _), (2, _), (3, _), (4, _), (7, _), (8, _)]) (.cons rfl (.cons rfl (.cons rfl (.cons rfl (.cons rfl (.cons rfl .nil)))))) ?_
    refine x_region ?_
    refine tl_y rfl (y_move (v := .int _ _) rfl) ?_
    refine tl_y rfl (y_remI rfl rfl (by omega)) ?_
    refine tl_y rfl (y_indexArr rfl rfl (by omega)) ?_
    refine tl_y rfl (y_load rfl rfl (.at_ (.ownAt (i := k % 5) (c := (kCols a k).map u64v) inferInstance (get_u64' _ _ (by rw [kCols_length]; omega))) (by omega))) ?_
    refine tl_y rfl (y_move (v := .int _ _) rfl) ?_
    refine tl_y rfl (y_xor64 rfl rfl) ?_
    refine tl_y rfl (y_indexArr rfl rfl (by omega)) ?_
    refine tl_e rfl (e_storeAt (c := (kCols a k).map u64v) rfl rfl rfl inferInstance (by rw [List.length_map, kCols_length]; omega) inferInstance ?_)
    rw [show 0 + ((k : Int) % 5).toNat * 1 = k % 5 by omega, ← List.map_set]
    refine tl_nil (.block_normal (.then_normal ?_))
    refine .sub (F' := [(0, _), (2, _), (7, _), (8, _)]) (.cons rfl (.cons rfl (.cons rfl (.cons rfl .nil)))) ?_
    refine x_region ?_
    refine tl_y rfl (y_addI rfl rfl (by omega)) ?_
    refine tl_y rfl (y_move (v := .int _ _) rfl) ?_
    refine tl_nil (.loop_next (m' := 25 - (k + 1)) (by omega) (F' := [(0, _), (2, _), (7, _), (8, _)]) (.cons rfl (.cons rfl (.cons rfl (.cons rfl .nil)))) ?_)
    exact ⟨k + 1, rfl, by omega, rfl, rfl, rfl, rfl⟩
  ·
    obtain rfl : k = 25 := by omega
    refine x_exit (.then_exit (.loop_exit (.block_exit (.then_normal ?_))))
    refine x_seq (x_region ?_)
    refine tl_y rfl (y_move rfl) ?_
    refine tl_nil (.then_normal ?_)
    refine x_block ?_
    refine x_loop (I := fun m' F D M2 L1 => ∃ k : Nat, m' = 25 - k ∧ k ≤ 25 ∧ D = [] ∧ M = M2 ∧ L1 = (b1, .cells ((kCols a 25).map u64v).toArray 123 (0, 0)) :: kB b (kTheta (kCols a 25) a k) :: L ∧ F = [(0, .pointer (some ⟨b, 0, none⟩)), (2, .pointer (some ⟨b1, 0, none⟩)), (22, .int .i64 k)]) (25) (F0 := [(0, _), (2, _), (22, _)]) ?_ (.cons rfl (.cons rfl (.cons rfl .nil))) ?_  -- slots [0, 2, 22], written [22]
    · exact ⟨0, rfl, by omega, rfl, rfl, rfl, rfl⟩
    rintro m _ _ M2 L1 ⟨k, rfl, hk, rfl, rfl, rfl, rfl⟩
    refine x_seq (x_region ?_)
    refine tl_y rfl (y_lss rfl rfl) ?_
    refine tl_nil (.then_normal ?_)
    refine x_seq ?_
    refine x_cond rfl (fun hc2 => ?_) (fun hc2 => ?_)
    ·
      refine x_skip (.then_normal ?_)
      refine x_seq ?_
      refine x_block ?_
      refine x_seq (x_region ?_)
      refine tl_y rfl (y_move (v := .int _ _) rfl) ?_
      refine tl_y rfl (y_assign (v := .int _ _) rfl) ?_
      refine tl_nil (.then_normal ?_)
      refine x_seq (x_region ?_)
      refine tl_y rfl (y_move (v := .int _ _) rfl) ?_
      refine tl_y rfl (y_remI rfl rfl (by omega)) ?_
      refine tl_y rfl (y_assign (v := .int _ _) rfl) ?_
      refine tl_nil (.then_normal ?_)
      refine .sub (F' := [(0, _), (2, _), (5, _), (6, _), (22, _)]) (.cons rfl (.cons rfl (.cons rfl (.cons rfl (.cons rfl .nil))))) ?_
      refine x_draw 20 hmix rfl ?_
      refine to_p 0 rfl (by kernel_rfl) rfl (y_move (v := .pointer _) rfl) ?_
      refine to_p 1 rfl (by kernel_rfl) rfl (y_move (v := .int _ _) rfl) ?_
      refine to_p 2 rfl (by kernel_rfl) rfl (y_nilCheck rfl) ?_
      refine to_p 3 rfl (by kernel_rfl) rfl (y_indexArr rfl rfl (by omega)) ?_
      refine to_y 4 rfl (by kernel_rfl) rfl (y_load rfl rfl (.at_ (.ownAt (i := k) (c := (kTheta (kCols a 25) a k).map u64v) inferInstance (get_u64' _ _ (by rw [kTheta_length]; omega))) (by omega))) ?_
      refine to_p 5 rfl (by kernel_rfl) rfl (y_move (v := .int _ _) rfl) ?_
      refine to_p 6 rfl (by kernel_rfl) rfl (y_addI rfl rfl (by omega)) ?_
      refine to_p 7 rfl (by kernel_rfl) rfl (y_remI rfl rfl (by omega)) ?_
      refine to_p 8 rfl (by kernel_rfl) rfl (y_indexArr rfl rfl (by omega)) ?_
      refine to_y 9 rfl (by kernel_rfl) rfl (y_load rfl rfl (.at_ (.ownAt (i := (k % 5 + 4) % 5) (c := (kCols a 25).map u64v) inferInstance (get_u64' _ _ (by rw [kCols_length]; omega))) (by omega))) ?_
      refine to_p 10 rfl (by kernel_rfl) rfl (y_move (v := .int _ _) rfl) ?_
      refine to_p 11 rfl (by kernel_rfl) rfl (y_addI rfl rfl (by omega)) ?_
      refine to_p 12 rfl (by kernel_rfl) rfl (y_remI rfl rfl (by omega)) ?_
      refine to_p 13 rfl (by kernel_rfl) rfl (y_indexArr rfl rfl (by omega)) ?_
      refine to_y 14 rfl (by kernel_rfl) rfl (y_load rfl rfl (.at_ (.ownAt (i := (k % 5 + 1) % 5) (c := (kCols a 25).map u64v) inferInstance (get_u64' _ _ (by rw [kCols_length]; omega))) (by omega))) ?_
      refine to_p 18 rfl (by kernel_rfl) rfl (y_nilCheck rfl) ?_
      refine to_e 15 rfl (by kernel_rfl) rfl (e_call' rfl (rotl64_spec _ 1 (by omega)) ?_)
      rintro _ _ _ _ ⟨rfl, rfl, rfl⟩
      refine ⟨⟨(by first | exact Le.refl _ | assumption), Keeps.mem⟩, ?_⟩
      refine to_p 16 rfl (by kernel_rfl) rfl (y_xor64 rfl rfl) ?_
      refine to_p 17 rfl (by kernel_rfl) rfl (y_xor64 rfl rfl) ?_
      refine to_p 19 rfl (by kernel_rfl) rfl (y_indexArr rfl rfl (by omega)) ?_
      refine to_t 20 rfl (by kernel_rfl) (by kernel_rfl) rfl (e_storeAt (c := (kTheta (kCols a 25) a k).map u64v) rfl rfl rfl inferInstance (by rw [List.length_map, kTheta_length]; omega) inferInstance ?_)
      rw [show 0 + ((k : Int)).toNat * 1 = k by omega, ← List.map_set]
      refine to_nil (by kernel_rfl) (.block_normal (.then_normal ?_))
      refine .sub (F' := [(0, _), (2, _), (22, _)]) (.cons rfl (.cons rfl (.cons rfl .nil))) ?_
      refine x_region ?_
      refine tl_y rfl (y_addI rfl rfl (by omega)) ?_
      refine tl_y rfl (y_move (v := .int _ _) rfl) ?_
      refine tl_nil (.loop_next (m' := 25 - (k + 1)) (by omega) (F' := [(0, _), (2, _), (22, _)]) (.cons rfl (.cons rfl (.cons rfl .nil))) ?_)
      exact ⟨k + 1, rfl, by omega, rfl, rfl, rfl, rfl⟩
    ·
      obtain rfl : k = 25 := by omega
      refine x_exit (.then_exit (.loop_exit (.block_exit (.dropTo (kB b (kTheta (kCols a 25) a 25) :: L) inferInstance (end0 rfl (Le.refl _) ⟨rfl, rfl⟩)))))
/-- The constants of Keccak, as they lie. -/
structure KecG (M : Mem) : Prop where
  rc : ∃ c T fr, M 6 = some (.cells c T fr) ∧ ∀ j, j < 24 → c[j]? = some (u64v (kRc.getD j 0))
  turns : ∃ c T fr, M 5 = some (.cells c T fr) ∧ ∀ j, j < 25 → c[j]? = some (.int .i64 ((kTurns.getD j 0 : Nat) : Int))
theorem KecG.mono {M M' : Mem} (h : KecG M) (hle : Le M M') : KecG M' := ⟨let ⟨c, T, fr, a, b⟩ := h.rc; ⟨c, T, fr, hle _ _ a, b⟩, let ⟨c, T, fr, a, b⟩ := h.turns; ⟨c, T, fr, hle _ _ a, b⟩⟩
theorem rho_at (k : Nat) : 0 + ((k : Int) / 5 + 5 * ((2 * ((k : Int) % 5) + 3 * ((k : Int) / 5)) % 5)).toNat * 1 = k / 5 + 5 * ((2 * (k % 5) + 3 * (k / 5)) % 5) := by
  have : ((k : Int) / 5 + 5 * ((2 * ((k : Int) % 5) + 3 * ((k : Int) / 5)) % 5)) = ((k / 5 + 5 * ((2 * (k % 5) + 3 * (k / 5)) % 5) : Nat) : Int) := by simp
  rw [this, Int.toNat_natCast]; omega
theorem turns_lt : ∀ k : Fin 25, kTurns.getD k.val 0 < 64 := by decide +kernel
theorem Round_spec (hg : KecG M) {a : List UInt64} (hl : a.length = 25) (i : Nat) (hi : i < 24) :
    Con Tryz.prog 103 #[.agg (a.map u64v).toArray, .int .i64 (i : Int)] G M L (fun r M' L' => M = M' ∧ L = L' ∧ r = .agg ((kRound a (kRc.getD i 0)).map u64v).toArray) noPanic := by
  obtain ⟨rc, rct, rcf, hrc1, hrc2⟩ := hg.rc
  obtain ⟨tc, tt, tf, ht1, ht2⟩ := hg.turns
  have htl : (kThetaA a).length = 25 := by rw [kThetaA, kTheta_length, hl]
  refine enter (args := [_, _]) (fn := Tryz.f103) ⟨Tryz.func103, rfl, by kernel_rfl, by kernel_rfl⟩ 85 rfl ?_
  refine x_seq (x_region ?_)
  refine tl_e rfl (e_box rfl (fun b1 => ?_))
  refine tl_e rfl (e_alloc (fun b2 => ?_))
  refine tl_nil (.then_normal ?_)
  refine x_seq (x_seq (x_region ?_))
  refine tl_y rfl (y_move (v := .int _ _) rfl) ?_
  refine tl_y rfl (y_lss rfl rfl) ?_
  refine tl_y rfl (y_move (v := .bool _) rfl) ?_
  refine tl_set (s := 15) (u := .bool false) rfl (by rw [decide_eq_false]; omega) ?_
  refine tl_y rfl (y_move (v := .int _ _) rfl) ?_
  refine tl_y rfl (y_geq rfl rfl) ?_
  refine tl_y rfl (y_pickF rfl rfl) ?_
  refine tl_nil (.then_normal ?_)
  refine .sub (F' := [(1, _), (2, _), (4, _), (18, _)]) (.cons rfl (.cons rfl (.cons rfl (.cons rfl .nil)))) ?_
  refine x_false rfl (by rw [decide_eq_false]; omega) ?_
  refine x_skip (.then_normal ?_)
  refine x_seq (x_region ?_)
  refine tl_e rfl (e_call' rfl (Con.bring b1 inferInstance (theta_spec hl)) ?_)
  rintro _ _ _ _ ⟨rfl, rfl⟩
  refine tl_nil (.then_normal ?_)
  refine x_seq (x_region ?_)
  refine tl_e rfl (e_alloc (fun b3 => ?_))
  refine tl_nil (.then_normal ?_)
  refine x_seq (x_seq (x_region ?_))
  refine tl_y rfl (y_loadAgg rfl rfl (.whole inferInstance (by simp [htl]))) ?_
  refine tl_y rfl (y_move rfl) ?_
  refine tl_nil (.then_normal ?_)
  refine x_block ?_
  refine x_loop (I := fun m' F D M2 L1 => ∃ k : Nat, m' = 25 - k ∧ k ≤ 25 ∧ D = [] ∧ M = M2 ∧ L1 = (b3, .cells ((kRho (kThetaA a) k).map u64v).toArray 95 (0, 0)) :: kB b1 (kThetaA a) :: kB b2 (List.replicate 25 0) :: L ∧ F = [(1, .int .i64 i), (2, .pointer (some ⟨b1, 0, none⟩)), (4, .pointer (some ⟨b2, 0, none⟩)), (5, .pointer (some ⟨b3, 0, none⟩)), (21, .agg ((kThetaA a).map u64v).toArray), (22, .int .i64 k)]) (25) (F0 := [(1, _), (2, _), (4, _), (5, _), (21, _), (22, _)]) ?_ (.cons rfl (.cons rfl (.cons rfl (.cons rfl (.cons rfl (.cons rfl .nil)))))) ?_  -- slots [1, 2, 4, 5, 21, 22], written [22]
  · exact ⟨0, rfl, by omega, rfl, rfl, rfl, rfl⟩
  rintro m _ _ M2 L1 ⟨k, rfl, hk, rfl, rfl, rfl, rfl⟩
  refine x_seq (x_region ?_)
  refine tl_y rfl (y_lss rfl rfl) ?_
  refine tl_nil (.then_normal ?_)
  refine x_seq ?_
  refine x_cond rfl (fun hc2 => ?_) (fun hc2 => ?_)
  ·
    refine x_skip (.then_normal ?_)
    refine x_seq ?_
    refine x_block ?_
    refine x_seq (x_region ?_)
    refine tl_y rfl (y_move (v := .int _ _) rfl) ?_
    refine tl_y rfl (y_index rfl rfl (by omega) rfl (by rw [List.getElem?_toArray]; show ((kThetaA a).map u64v)[(k : Int).toNat * 1]? = _; rw [show (k : Int).toNat * 1 = k by omega]; exact get_u64' _ _ (by rw [htl]; omega))) ?_
    refine tl_y rfl (y_assign (v := .int _ _) rfl) ?_
    refine tl_y rfl (y_assign (v := .int _ _) rfl) ?_
    refine tl_nil (.then_normal ?_)
    refine x_seq (x_region ?_)
    refine tl_y rfl (y_move (v := .int _ _) rfl) ?_
    refine tl_y rfl (y_remI rfl rfl (by omega)) ?_
    refine tl_y rfl (y_move (v := .int _ _) rfl) ?_
    refine tl_y rfl (y_quoI rfl rfl (by omega)) ?_
    refine tl_y rfl (y_assign (v := .int _ _) rfl) ?_
    refine tl_y rfl (y_assign (v := .int _ _) rfl) ?_
    refine tl_nil (.then_normal ?_)
    refine .sub (F' := [(1, _), (2, _), (4, _), (5, _), (6, _), (7, _), (8, _), (9, _), (21, _), (22, _)]) (.cons rfl (.cons rfl (.cons rfl (.cons rfl (.cons rfl (.cons rfl (.cons rfl (.cons rfl (.cons rfl (.cons rfl .nil)))))))))) ?_
    refine x_region ?_
    refine tl_y rfl (y_move (v := .int _ _) rfl) ?_
    refine tl_y rfl (y_move (v := .int _ _) rfl) ?_
    refine tl_y rfl (y_mulI rfl rfl (by omega)) ?_
    refine tl_y rfl (y_move (v := .int _ _) rfl) ?_
    refine tl_y rfl (y_mulI rfl rfl (by omega)) ?_
    refine tl_y rfl (y_addI rfl rfl (by omega)) ?_
    refine tl_y rfl (y_remI rfl rfl (by omega)) ?_
    refine tl_y rfl (y_mulI rfl rfl (by omega)) ?_
    refine tl_y rfl (y_addI rfl rfl (by omega)) ?_
    refine tl_y rfl (y_move (v := .int _ _) rfl) ?_
    refine tl_y rfl (y_move (v := .int _ _) rfl) ?_
    refine tl_y rfl (y_indexArr rfl rfl (by omega)) ?_
    refine tl_y rfl (y_load rfl rfl (.at_ (.ro ht1 (ht2 k (by omega))) (by omega))) ?_
    refine tl_e rfl (e_call' rfl (rotl64_spec _ (kTurns.getD k 0) (turns_lt ⟨k, by omega⟩)) ?_)
    rintro _ _ _ _ ⟨rfl, rfl, rfl⟩
    refine tl_y rfl (y_indexArr rfl rfl (by omega)) ?_
    refine tl_e rfl (e_storeAt (c := (kRho (kThetaA a) k).map u64v) rfl rfl rfl inferInstance (by rw [List.length_map, kRho_length]; omega) inferInstance ?_)
    rw [rho_at, ← List.map_set]
    refine tl_nil (.block_normal (.then_normal ?_))
    refine .sub (F' := [(1, _), (2, _), (4, _), (5, _), (21, _), (22, _)]) (.cons rfl (.cons rfl (.cons rfl (.cons rfl (.cons rfl (.cons rfl .nil)))))) ?_
    refine x_region ?_
    refine tl_y rfl (y_addI rfl rfl (by omega)) ?_
    refine tl_y rfl (y_move (v := .int _ _) rfl) ?_
    refine tl_nil (.loop_next (m' := 25 - (k + 1)) (by omega) (F' := [(1, _), (2, _), (4, _), (5, _), (21, _), (22, _)]) (.cons rfl (.cons rfl (.cons rfl (.cons rfl (.cons rfl (.cons rfl .nil)))))) ?_)
    exact ⟨k + 1, rfl, by omega, rfl, rfl, rfl, rfl⟩
  ·
    obtain rfl : k = 25 := by omega
    refine x_exit (.then_exit (.loop_exit (.block_exit (.then_normal ?_))))
    refine x_seq (x_seq (x_region ?_))
    refine tl_y rfl (y_move rfl) ?_
    refine tl_nil (.then_normal ?_)
    refine x_block ?_
    refine x_loop (I := fun m' F D M2 L1 => ∃ k : Nat, m' = 25 - k ∧ k ≤ 25 ∧ D = [] ∧ M = M2 ∧ L1 = (b3, .cells ((kRho (kThetaA a) 25).map u64v).toArray 95 (0, 0)) :: kB b1 (kChi (kRho (kThetaA a) 25) (kThetaA a) k) :: kB b2 (List.replicate 25 0) :: L ∧ F = [(1, .int .i64 i), (2, .pointer (some ⟨b1, 0, none⟩)), (4, .pointer (some ⟨b2, 0, none⟩)), (5, .pointer (some ⟨b3, 0, none⟩)), (46, .int .i64 k)]) (25) (F0 := [(1, _), (2, _), (4, _), (5, _), (46, _)]) ?_ (.cons rfl (.cons rfl (.cons rfl (.cons rfl (.cons rfl .nil))))) ?_  -- slots [1, 2, 4, 5, 46], written [46]
    · exact ⟨0, rfl, by omega, rfl, rfl, rfl, rfl⟩
    rintro m _ _ M2 L1 ⟨k, rfl, hk, rfl, rfl, rfl, rfl⟩
    refine x_seq (x_region ?_)
    refine tl_y rfl (y_lss rfl rfl) ?_
    refine tl_nil (.then_normal ?_)
    refine x_seq ?_
    refine x_cond rfl (fun hc3 => ?_) (fun hc3 => ?_)
    ·
      refine x_skip (.then_normal ?_)
      refine x_seq ?_
      refine x_block ?_
      refine x_seq (x_region ?_)
      refine tl_y rfl (y_move (v := .int _ _) rfl) ?_
      refine tl_y rfl (y_assign (v := .int _ _) rfl) ?_
      refine tl_nil (.then_normal ?_)
      refine x_seq (x_region ?_)
      refine tl_y rfl (y_move (v := .int _ _) rfl) ?_
      refine tl_y rfl (y_remI rfl rfl (by omega)) ?_
      refine tl_y rfl (y_move (v := .int _ _) rfl) ?_
      refine tl_y rfl (y_quoI rfl rfl (by omega)) ?_
      refine tl_y rfl (y_mulI rfl rfl (by omega)) ?_
      refine tl_y rfl (y_assign (v := .int _ _) rfl) ?_
      refine tl_y rfl (y_assign (v := .int _ _) rfl) ?_
      refine tl_nil (.then_normal ?_)
      refine .sub (F' := [(1, _), (2, _), (4, _), (5, _), (10, _), (11, _), (12, _), (46, _)]) (.cons rfl (.cons rfl (.cons rfl (.cons rfl (.cons rfl (.cons rfl (.cons rfl (.cons rfl .nil)))))))) ?_
      refine x_draw 22 hmix rfl ?_
      refine to_p 0 rfl (by kernel_rfl) rfl (y_move (v := .int _ _) rfl) ?_
      refine to_p 1 rfl (by kernel_rfl) rfl (y_move (v := .int _ _) rfl) ?_
      refine to_p 2 rfl (by kernel_rfl) rfl (y_indexArr rfl rfl (by omega)) ?_
      refine to_y 3 rfl (by kernel_rfl) rfl (y_load rfl rfl (.at_ (.ownAt (i := k) (c := (kRho (kThetaA a) 25).map u64v) inferInstance (get_u64' _ _ (by rw [kRho_length]; omega))) (by omega))) ?_
      refine to_p 4 rfl (by kernel_rfl) rfl (y_move (v := .int _ _) rfl) ?_
      refine to_p 5 rfl (by kernel_rfl) rfl (y_move (v := .int _ _) rfl) ?_
      refine to_p 6 rfl (by kernel_rfl) rfl (y_addI rfl rfl (by omega)) ?_
      refine to_p 7 rfl (by kernel_rfl) rfl (y_remI rfl rfl (by omega)) ?_
      refine to_p 8 rfl (by kernel_rfl) rfl (y_addI rfl rfl (by omega)) ?_
      refine to_p 9 rfl (by kernel_rfl) rfl (y_indexArr rfl rfl (by omega)) ?_
      refine to_y 10 rfl (by kernel_rfl) rfl (y_load rfl rfl (.at_ (.ownAt (i := k / 5 * 5 + (k % 5 + 1) % 5) (c := (kRho (kThetaA a) 25).map u64v) inferInstance (get_u64' _ _ (by rw [kRho_length]; omega))) (by omega))) ?_
      refine to_p 11 rfl (by kernel_rfl) rfl (y_com64 rfl) ?_
      refine to_p 12 rfl (by kernel_rfl) rfl (y_move (v := .int _ _) rfl) ?_
      refine to_p 13 rfl (by kernel_rfl) rfl (y_move (v := .int _ _) rfl) ?_
      refine to_p 14 rfl (by kernel_rfl) rfl (y_addI rfl rfl (by omega)) ?_
      refine to_p 15 rfl (by kernel_rfl) rfl (y_remI rfl rfl (by omega)) ?_
      refine to_p 16 rfl (by kernel_rfl) rfl (y_addI rfl rfl (by omega)) ?_
      refine to_p 17 rfl (by kernel_rfl) rfl (y_indexArr rfl rfl (by omega)) ?_
      refine to_y 18 rfl (by kernel_rfl) rfl (y_load rfl rfl (.at_ (.ownAt (i := k / 5 * 5 + (k % 5 + 2) % 5) (c := (kRho (kThetaA a) 25).map u64v) inferInstance (get_u64' _ _ (by rw [kRho_length]; omega))) (by omega))) ?_
      refine to_p 19 rfl (by kernel_rfl) rfl (y_and64 rfl rfl) ?_
      refine to_p 20 rfl (by kernel_rfl) rfl (y_xor64 rfl rfl) ?_
      refine to_p 21 rfl (by kernel_rfl) rfl (y_indexArr rfl rfl (by omega)) ?_
      refine to_t 22 rfl (by kernel_rfl) (by kernel_rfl) rfl (e_storeAt (c := (kChi (kRho (kThetaA a) 25) (kThetaA a) k).map u64v) rfl rfl rfl inferInstance (by rw [List.length_map, kChi_length]; omega) inferInstance ?_)
      rw [show 0 + ((k : Int)).toNat * 1 = k by omega, ← List.map_set]
      refine to_nil (by kernel_rfl) (.block_normal (.then_normal ?_))
      refine .sub (F' := [(1, _), (2, _), (4, _), (5, _), (46, _)]) (.cons rfl (.cons rfl (.cons rfl (.cons rfl (.cons rfl .nil))))) ?_
      refine x_region ?_
      refine tl_y rfl (y_addI rfl rfl (by omega)) ?_
      refine tl_y rfl (y_move (v := .int _ _) rfl) ?_
      refine tl_nil (.loop_next (m' := 25 - (k + 1)) (by omega) (F' := [(1, _), (2, _), (4, _), (5, _), (46, _)]) (.cons rfl (.cons rfl (.cons rfl (.cons rfl (.cons rfl .nil))))) ?_)
      exact ⟨k + 1, rfl, by omega, rfl, rfl, rfl, rfl⟩
    ·
      obtain rfl : k = 25 := by omega
      have hcl : (kChi (kRho (kThetaA a) 25) (kThetaA a) 25).length = 25 := by rw [kChi_length, htl]
      refine x_exit (.then_exit (.loop_exit (.block_exit (.then_normal ?_))))
      refine x_seq ?_
      refine x_draw 7 hmix rfl ?_
      refine to_p 0 rfl (by kernel_rfl) rfl (y_indexArrK 0 rfl rfl (by omega)) ?_
      refine to_y 1 rfl (by kernel_rfl) rfl (y_load rfl rfl (.at_ (.ownAt (i := 0) (c := (kChi (kRho (kThetaA a) 25) (kThetaA a) 25).map u64v) inferInstance (get_u64' _ _ (by omega))) (by omega))) ?_
      refine to_p 2 rfl (by kernel_rfl) rfl (y_move (v := .int _ _) rfl) ?_
      refine to_p 3 rfl (by kernel_rfl) rfl (y_indexArr rfl rfl (by omega)) ?_
      refine to_y 4 rfl (by kernel_rfl) rfl (y_load rfl rfl (.at_ (.ro hrc1 (hrc2 i (by omega))) (by omega))) ?_
      refine to_p 5 rfl (by kernel_rfl) rfl (y_xor64 rfl rfl) ?_
      refine to_p 6 rfl (by kernel_rfl) rfl (y_indexArrK 0 rfl rfl (by omega)) ?_
      refine to_t 7 rfl (by kernel_rfl) (by kernel_rfl) rfl (e_storeAt (c := (kChi (kRho (kThetaA a) 25) (kThetaA a) 25).map u64v) rfl rfl rfl inferInstance (by rw [List.length_map]; omega) inferInstance ?_)
      rw [← List.map_set]
      rw [show (kChi (kRho (kThetaA a) 25) (kThetaA a) 25).set 0 ((kChi (kRho (kThetaA a) 25) (kThetaA a) 25).getD 0 0 ^^^ kRc.getD i 0) = kRound a (kRc.getD i 0) from rfl]
      refine to_nil (by kernel_rfl) (.then_normal ?_)
      refine .sub (F' := [(2, _), (4, _)]) (.cons rfl (.cons rfl .nil)) ?_
      refine x_seq (x_region ?_)
      refine tl_y rfl (y_loadAgg rfl rfl (.whole inferInstance (by simp [kRound_length, hl]))) ?_
      refine tl_e rfl (e_store rfl rfl (by simp [kRound_length, hl]) (u64_one _) inferInstance (.whole (by simp [kRound_length, hl])) inferInstance ?_)
      refine tl_nil (.then_normal ?_)
      refine x_ret (retRV (L' := L) (rv1 rfl (rc_cellAgg (by rfl) rfl (.whole inferInstance (by simp [kRound_length, hl])))) inferInstance (Le.refl _) ⟨rfl, rfl, rfl⟩)
theorem Permute_spec (hg : KecG M) {a : List UInt64} (hl : a.length = 25) :
    Con Tryz.prog 98 #[.agg (a.map u64v).toArray] G M L (fun r M' L' => M = M' ∧ L = L' ∧ r = .agg ((kPerm a 24).map u64v).toArray) noPanic := by
  refine enter (args := [_]) (fn := Tryz.f98) ⟨Tryz.func98, rfl, by kernel_rfl, by kernel_rfl⟩ 12 rfl ?_
  refine x_seq (x_region ?_)
  refine tl_e rfl (e_box rfl (fun b1 => ?_))
  refine tl_e rfl (e_alloc (fun b2 => ?_))
  refine tl_nil (.then_normal ?_)
  refine x_seq (x_seq (x_region ?_))
  refine tl_y rfl (y_move rfl) ?_
  refine tl_nil (.then_normal ?_)
  refine x_block ?_
  refine x_loop (I := fun m' F D M2 L1 => ∃ k : Nat, m' = 24 - k ∧ k ≤ 24 ∧ D = [] ∧ M = M2 ∧ L1 = kB b2 (List.replicate 25 0) :: kB b1 (kPerm a k) :: L ∧ F = [(1, .pointer (some ⟨b1, 0, none⟩)), (2, .pointer (some ⟨b2, 0, none⟩)), (4, .int .i64 k)]) (24) (F0 := [(1, _), (2, _), (4, _)]) ?_ (.cons rfl (.cons rfl (.cons rfl .nil))) ?_  -- slots [1, 2, 4], written [4]
  · exact ⟨0, rfl, by omega, rfl, rfl, rfl, rfl⟩
  rintro m _ _ M2 L1 ⟨k, rfl, hk, rfl, rfl, rfl, rfl⟩
  refine x_seq (x_region ?_)
  refine tl_y rfl (y_lss rfl rfl) ?_
  refine tl_nil (.then_normal ?_)
  refine x_seq ?_
  refine x_cond rfl (fun hc1 => ?_) (fun hc1 => ?_)
  ·
    refine x_skip (.then_normal ?_)
    refine x_seq ?_
    refine x_block ?_
    refine x_seq (x_region ?_)
    refine tl_y rfl (y_move (v := .int _ _) rfl) ?_
    refine tl_y rfl (y_assign (v := .int _ _) rfl) ?_
    refine tl_nil (.then_normal ?_)
    refine x_region ?_
    refine tl_y rfl (y_loadAgg rfl rfl (.whole inferInstance (by simp [kPerm_length, hl]))) ?_
    refine tl_y rfl (y_move (v := .int _ _) rfl) ?_
    refine tl_e rfl (e_call' rfl (Round_spec hg (show (kPerm a k).length = 25 by rw [kPerm_length, hl]) k (by omega)) ?_)
    rintro _ _ _ _ ⟨rfl, rfl, rfl⟩
    refine tl_e rfl (e_store rfl rfl (by simp [kRound_length, kPerm_length, hl]) (u64_one _) inferInstance (.whole (by simp [kRound_length, kPerm_length, hl])) inferInstance ?_)
    refine tl_nil (.block_normal (.then_normal ?_))
    refine .sub (F' := [(1, _), (2, _), (4, _)]) (.cons rfl (.cons rfl (.cons rfl .nil))) ?_
    refine x_region ?_
    refine tl_y rfl (y_addI rfl rfl (by omega)) ?_
    refine tl_y rfl (y_move (v := .int _ _) rfl) ?_
    refine tl_nil (.loop_next (m' := 24 - (k + 1)) (by omega) (F' := [(1, _), (2, _), (4, _)]) (.cons rfl (.cons rfl (.cons rfl .nil))) ?_)
    exact ⟨k + 1, rfl, by omega, rfl, rfl, rfl, rfl⟩
  ·
    obtain rfl : k = 24 := by omega
    refine x_exit (.then_exit (.loop_exit (.block_exit (.then_normal ?_))))
    refine x_seq (x_region ?_)
    refine tl_y rfl (y_loadAgg rfl rfl (.whole inferInstance (by simp [kPerm_length, hl]))) ?_
    refine tl_e rfl (e_store rfl rfl (by simp [kPerm_length, hl]) (u64_one _) inferInstance (.whole (by simp [kPerm_length, hl])) inferInstance ?_)
    refine tl_nil (.then_normal ?_)
    refine .sub (F' := [(2, _)]) (.cons rfl .nil) ?_
    refine x_ret (retRV (L' := L) (rv1 rfl (rc_cellAgg (by rfl) rfl (.whole inferInstance (by simp [kPerm_length, hl])))) inferInstance (Le.refl _) ⟨rfl, rfl, rfl⟩)
end
end Go.Proofs.YtbjnjedfoiedeaaGreatDoor
set_option linter.unusedVariables false
set_option linter.unusedSimpArgs false
namespace Go.Eng
/-! ### Numbers as bytes -/
def putB (v : Nat) : Nat → List UInt8
  | 0 => []
  | n + 1 => putB (v / 256) n ++ [UInt8.ofNat (v % 256)]
theorem putB_length : ∀ (n v : Nat), (putB v n).length = n
  | 0, _ => rfl
  | n + 1, v => by simp [putB, putB_length n]
theorem putB_get : ∀ (n v i : Nat), i < n → (putB v n)[n - 1 - i]? = some (UInt8.ofNat (v / 256 ^ i % 256))
  | 0, _, _, h => by omega
  | n + 1, v, 0, _ => by
    have hl := putB_length n (v / 256)
    rw [putB, Nat.add_sub_cancel, Nat.sub_zero, List.getElem?_append_right (by omega), hl, Nat.sub_self]
    simp
  | n + 1, v, i + 1, h => by
    have hl := putB_length n (v / 256)
    rw [putB, show n + 1 - 1 - (i + 1) = n - 1 - i by omega, List.getElem?_append_left (by omega), putB_get n (v / 256) i (by omega), Nat.pow_succ, Nat.div_div_eq_div_mul, Nat.mul_comm 256]
def getB (bs : List UInt8) : Nat := bs.foldl (fun v b => v * 256 + b.toNat) 0
theorem getB_snoc (bs : List UInt8) (b : UInt8) : getB (bs ++ [b]) = getB bs * 256 + b.toNat := by simp [getB]
theorem snoc_ind {α : Type} {p : List α → Prop} (h0 : p []) (h1 : ∀ l a, p l → p (l ++ [a])) (l : List α) : p l := by
  rw [← List.reverse_reverse l]
  generalize l.reverse = r
  induction r with
  | nil => exact h0
  | cons a r ih => rw [List.reverse_cons]; exact h1 _ _ ih
theorem getB_lt (bs : List UInt8) : getB bs < 256 ^ bs.length := by
  refine snoc_ind (p := fun bs => getB bs < 256 ^ bs.length) (by simp [getB]) (fun l a ih => ?_) bs
  have := a.toNat_lt
  rw [getB_snoc, List.length_append, List.length_singleton, Nat.pow_succ]
  omega
theorem getB_put : ∀ (n v : Nat), getB (putB v n) = v % 256 ^ n
  | 0, v => by simp [getB, putB, Nat.mod_one]
  | n + 1, v => by
    rw [putB, getB_snoc, getB_put n, Nat.pow_succ, UInt8.toNat_ofNat']
    rw [Nat.mul_comm (256 ^ n) 256, Nat.mod_mul]
    omega
theorem put_get (bs : List UInt8) : putB (getB bs) bs.length = bs := by
  refine snoc_ind (p := fun bs => putB (getB bs) bs.length = bs) rfl (fun l a ih => ?_) bs
  have ha := a.toNat_lt
  rw [getB_snoc, List.length_append, List.length_singleton, putB]
  rw [show (getB l * 256 + a.toNat) / 256 = getB l by omega, show (getB l * 256 + a.toNat) % 256 = a.toNat by omega, ih]
  simp
theorem get_step (x : UInt64) (c : UInt8) (h : x.toNat < 72057594037927936) : (shl64 x 8 ||| c.toUInt64).toNat = x.toNat * 256 + c.toNat := by
  have hc := c.toNat_lt
  have h1 : (shl64 x 8).toNat = x.toNat * 256 := by rw [shl64, UInt64.toNat_ofNat']; omega
  rw [UInt64.toNat_or, h1, UInt8.toNat_toUInt64]
  have h2 := Nat.shiftLeft_add_eq_or_of_lt (a := x.toNat) (b := c.toNat) (i := 8) hc
  rw [Nat.shiftLeft_eq, show (2 : Nat) ^ 8 = 256 by rfl] at h2
  omega
/-- Where the last bytes were written. -/
theorem put_step (v n k : Nat) (h : k < n) : (List.replicate (n - k) (0 : UInt8) ++ (putB v n).drop (n - k)).set (n - 1 - k) (UInt8.ofNat (v / 256 ^ k % 256)) = List.replicate (n - (k + 1)) 0 ++ (putB v n).drop (n - (k + 1)) := by
  have hl := putB_length n v
  have hg := putB_get n v k h
  obtain ⟨d, rfl⟩ : ∃ d, n = k + 1 + d := ⟨n - (k + 1), by omega⟩
  rw [show k + 1 + d - k = d + 1 by omega, show k + 1 + d - 1 - k = d by omega, show k + 1 + d - (k + 1) = d by omega] at *
  have hd : (putB v (k + 1 + d)).drop d = UInt8.ofNat (v / 256 ^ k % 256) :: (putB v (k + 1 + d)).drop (d + 1) := by
    obtain ⟨hlt, he⟩ := List.getElem?_eq_some_iff.1 hg
    rw [List.drop_eq_getElem_cons hlt, he]
  rw [hd, List.replicate_succ', List.append_assoc, List.set_append_right _ _ (by simp)]
  simp
end Go.Eng
set_option linter.unusedVariables false
set_option linter.unusedSimpArgs false
namespace Go.Proofs.YtbjnjedfoiedeaaGreatDoor
open Go Go.Eng
/-! ### SHAKE256, as the program does it -/
def sMix (s : List UInt64) (b : List UInt8) : Nat → List UInt64
  | 0 => s
  | k + 1 => updL (sMix s b k) (k / 8) (· ^^^ shl64 (b.getD k 0).toUInt64 (8 * (k % 8)))
theorem sMix_length (s : List UInt64) (b : List UInt8) (k : Nat) : (sMix s b k).length = s.length := by
  induction k with
  | zero => rfl
  | succ k ih => rw [sMix, updL_length, ih]
def sByte (s : List UInt64) (i : Nat) : UInt8 := (shr64 (s.getD (i / 8) 0) (8 * (i % 8))).toUInt8
def sGive (s : List UInt64) (n : Nat) : List UInt8 := (List.range n).map (sByte s)
theorem sGive_length (s : List UInt64) (n : Nat) : (sGive s n).length = n := by simp [sGive]
theorem sGive_succ (s : List UInt64) (n : Nat) : sGive s (n + 1) = sGive s n ++ [sByte s n] := by simp [sGive, List.range_succ]
def sPadZ (bs : List UInt8) : Nat := 135 - bs.length % 136
def sPad0 (bs : List UInt8) : List UInt8 := bs ++ 31 :: List.replicate (sPadZ bs) 0
def sPad (bs : List UInt8) : List UInt8 := (sPad0 bs).set (bs.length + sPadZ bs) ((sPad0 bs).getD (bs.length + sPadZ bs) 0 ^^^ 128)
theorem sPad0_length (bs : List UInt8) : (sPad0 bs).length = bs.length + 1 + sPadZ bs := by simp [sPad0]; omega
theorem sPad_length (bs : List UInt8) : (sPad bs).length = bs.length + 1 + sPadZ bs := by rw [sPad, List.length_set, sPad0_length]
theorem sPad_blocks (bs : List UInt8) : bs.length + 1 + sPadZ bs = 136 * (bs.length / 136 + 1) := by unfold sPadZ; omega
def sAbs (t : List UInt8) : Nat → List UInt64
  | 0 => List.replicate 25 0
  | k + 1 => kPerm (sMix (sAbs t k) ((t.drop (136 * k)).take 136) 136) 24
theorem sAbs_length (t : List UInt8) (k : Nat) : (sAbs t k).length = 25 := by
  cases k with
  | zero => simp [sAbs]
  | succ k => rw [sAbs, kPerm_length, sMix_length]; exact sAbs_length t k
def shk0 (bs : List UInt8) : List UInt64 := sAbs (sPad bs) (bs.length / 136 + 1)
def shk (bs : List UInt8) (n : Nat) : List UInt8 := (sGive (shk0 bs) 136).take n
theorem shk_length (bs : List UInt8) {n : Nat} (h : n ≤ 136) : (shk bs n).length = n := by rw [shk, List.length_take, sGive_length]; omega
/-! ### and as the reference does it -/
def rW (b : List UInt8) (i : Nat) : Nat → UInt64
  | 0 => 0
  | k + 1 => rW b i k * 256 + (b.getD (8 * i + (7 - k)) 0).toUInt64
def rMix (s : List UInt64) (b : List UInt8) : Nat → List UInt64
  | 0 => s
  | i + 1 => updL (rMix s b i) i (· ^^^ rW b i 8)
theorem rMix_length (s : List UInt64) (b : List UInt8) (k : Nat) : (rMix s b k).length = s.length := by
  induction k with
  | zero => rfl
  | succ k ih => rw [rMix, updL_length, ih]
theorem bit_join (a : BitVec 64) (c : BitVec 8) : a * 256#64 + c.setWidth 64 = (a <<< 8) ^^^ c.setWidth 64 := by
  have e1 : a * 256#64 = a <<< 8 := by
    apply BitVec.eq_of_toNat_eq
    simp [BitVec.toNat_mul, BitVec.toNat_shiftLeft, Nat.shiftLeft_eq]
  have hand : (a <<< 8) &&& c.setWidth 64 = 0#64 := by
    apply BitVec.eq_of_getLsbD_eq
    intro i hi
    simp only [BitVec.getLsbD_and, BitVec.getLsbD_shiftLeft, BitVec.getLsbD_setWidth, BitVec.getLsbD_zero]
    by_cases h : i < 8
    · simp [h]
    · rw [BitVec.getLsbD_of_ge c i (by omega)]; simp
  rw [e1, BitVec.add_eq_or_of_and_eq_zero _ _ hand]
  apply BitVec.eq_of_getLsbD_eq
  intro i hi
  simp only [BitVec.getLsbD_or, BitVec.getLsbD_xor, BitVec.getLsbD_shiftLeft, BitVec.getLsbD_setWidth]
  by_cases h : i < 8
  · simp [h]
  · rw [BitVec.getLsbD_of_ge c i (by omega)]; simp
theorem shl64_bits (x : UInt64) (s : Nat) : (shl64 x s).toBitVec = x.toBitVec <<< s := by
  apply BitVec.eq_of_toNat_eq
  rw [shl64, BitVec.toNat_shiftLeft, Nat.shiftLeft_eq]
  show (UInt64.ofNat _).toNat = _
  rw [UInt64.toNat_ofNat']; rfl
theorem word_join (x : UInt64) (c : UInt8) : x * 256 + c.toUInt64 = shl64 x 8 ^^^ c.toUInt64 := by
  apply UInt64.toBitVec_inj.1
  rw [UInt64.toBitVec_add, UInt64.toBitVec_mul, UInt64.toBitVec_xor, shl64_bits]
  exact bit_join x.toBitVec c.toBitVec
theorem shl64_xor (x y : UInt64) (s : Nat) : shl64 (x ^^^ y) s = shl64 x s ^^^ shl64 y s := by
  apply UInt64.toBitVec_inj.1
  rw [UInt64.toBitVec_xor, shl64_bits, shl64_bits, shl64_bits, UInt64.toBitVec_xor, BitVec.shiftLeft_xor_distrib]
theorem shl64_shl64 (x : UInt64) (s t : Nat) : shl64 (shl64 x s) t = shl64 x (s + t) := by
  apply UInt64.toBitVec_inj.1
  rw [shl64_bits, shl64_bits, shl64_bits, BitVec.shiftLeft_add]
theorem shl64_zero (x : UInt64) : shl64 x 0 = x := by
  apply UInt64.toBitVec_inj.1
  rw [shl64_bits, BitVec.shiftLeft_zero]
theorem shl64_of0 (s : Nat) : shl64 0 s = 0 := by
  apply UInt64.toBitVec_inj.1
  rw [shl64_bits]; simp
theorem updL_updL (l : List UInt64) (i : Nat) (f g : UInt64 → UInt64) (h : i < l.length) : updL (updL l i f) i g = updL l i fun x => g (f x) := by
  unfold updL
  rw [List.set_set, List.getD_eq_getElem?_getD (l := l.set i _), List.getElem?_set_self h]
  rfl
theorem rW8 (b : List UInt8) (i : Nat) : rW b i 8 = (b.getD (8 * i) 0).toUInt64 ^^^ shl64 (b.getD (8 * i + 1) 0).toUInt64 8 ^^^ shl64 (b.getD (8 * i + 2) 0).toUInt64 16 ^^^ shl64 (b.getD (8 * i + 3) 0).toUInt64 24 ^^^ shl64 (b.getD (8 * i + 4) 0).toUInt64 32 ^^^ shl64 (b.getD (8 * i + 5) 0).toUInt64 40 ^^^ shl64 (b.getD (8 * i + 6) 0).toUInt64 48 ^^^ shl64 (b.getD (8 * i + 7) 0).toUInt64 56 := by
  simp only [rW, word_join, shl64_xor, shl64_shl64, shl64_of0, UInt64.zero_xor, Nat.sub_zero, Nat.reduceSub, Nat.reduceAdd, Nat.add_zero, Nat.sub_self]
  generalize shl64 (b.getD (8 * i + 7) 0).toUInt64 56 = x7
  generalize shl64 (b.getD (8 * i + 6) 0).toUInt64 48 = x6
  generalize shl64 (b.getD (8 * i + 5) 0).toUInt64 40 = x5
  generalize shl64 (b.getD (8 * i + 4) 0).toUInt64 32 = x4
  generalize shl64 (b.getD (8 * i + 3) 0).toUInt64 24 = x3
  generalize shl64 (b.getD (8 * i + 2) 0).toUInt64 16 = x2
  generalize shl64 (b.getD (8 * i + 1) 0).toUInt64 8 = x1
  generalize (b.getD (8 * i) 0).toUInt64 = x0
  ac_rfl
theorem sMix_word (s : List UInt64) (b : List UInt8) (i : Nat) (h : i < s.length) : sMix s b (8 * (i + 1)) = updL (sMix s b (8 * i)) i (· ^^^ rW b i 8) := by
  have hl := sMix_length s b (8 * i)
  rw [show 8 * (i + 1) = 8 * i + 1 + 1 + 1 + 1 + 1 + 1 + 1 + 1 by omega]
  simp only [sMix]
  rw [show (8 * i) / 8 = i by omega, show (8 * i + 1) / 8 = i by omega, show (8 * i + 1 + 1) / 8 = i by omega, show (8 * i + 1 + 1 + 1) / 8 = i by omega, show (8 * i + 1 + 1 + 1 + 1) / 8 = i by omega, show (8 * i + 1 + 1 + 1 + 1 + 1) / 8 = i by omega, show (8 * i + 1 + 1 + 1 + 1 + 1 + 1) / 8 = i by omega, show (8 * i + 1 + 1 + 1 + 1 + 1 + 1 + 1) / 8 = i by omega]
  rw [show 8 * i % 8 = 0 by omega, show (8 * i + 1) % 8 = 1 by omega, show (8 * i + 1 + 1) % 8 = 2 by omega, show (8 * i + 1 + 1 + 1) % 8 = 3 by omega, show (8 * i + 1 + 1 + 1 + 1) % 8 = 4 by omega, show (8 * i + 1 + 1 + 1 + 1 + 1) % 8 = 5 by omega, show (8 * i + 1 + 1 + 1 + 1 + 1 + 1) % 8 = 6 by omega, show (8 * i + 1 + 1 + 1 + 1 + 1 + 1 + 1) % 8 = 7 by omega]
  rw [updL_updL _ _ _ _ (by first | omega | (simp only [updL_length]; omega)), updL_updL _ _ _ _ (by first | omega | (simp only [updL_length]; omega)), updL_updL _ _ _ _ (by first | omega | (simp only [updL_length]; omega)), updL_updL _ _ _ _ (by first | omega | (simp only [updL_length]; omega)), updL_updL _ _ _ _ (by first | omega | (simp only [updL_length]; omega)), updL_updL _ _ _ _ (by first | omega | (simp only [updL_length]; omega)), updL_updL _ _ _ _ (by first | omega | (simp only [updL_length]; omega))]
  congr 1
  funext x
  rw [rW8, shl64_zero]
  simp only [Nat.add_assoc, Nat.reduceAdd, Nat.reduceMul]
  ac_rfl
theorem sMix_eq {s : List UInt64} (b : List UInt8) (h : s.length = 25) : ∀ i, i ≤ 17 → rMix s b i = sMix s b (8 * i)
  | 0, _ => rfl
  | i + 1, hi => by rw [rMix, sMix_eq b h i (by omega), sMix_word s b i (by omega)]
/-- What a word's bytes are, in the order of the reference. -/
theorem div256 (w : UInt64) (k : Nat) (hk : k < 8) : UInt8.ofNat (w.toNat / 256 ^ k % 256) = (shr64 w (8 * k)).toUInt8 := by
  rw [shr64]
  apply UInt8.toNat_inj.1
  rw [UInt8.toNat_ofNat', UInt64.toNat_toUInt8, UInt64.toNat_ofNat', show (256 : Nat) ^ k = 2 ^ (8 * k) by rw [Nat.pow_mul]]
  have hw := w.toNat_lt
  have := Nat.div_le_self w.toNat (2 ^ (8 * k))
  generalize w.toNat / 2 ^ (8 * k) = q at *
  rw [Nat.mod_eq_of_lt (a := q) (b := 2 ^ 64) (by omega)]
  omega
end Go.Proofs.YtbjnjedfoiedeaaGreatDoor
set_option linter.unusedVariables false
set_option linter.unusedSimpArgs false
namespace Go.Proofs.YtbjnjedfoiedeaaGreatDoor
open Go Go.Eng
section
variable {G : World} {M : Mem} {L : Own}
theorem mix_spec (hg : KecG M) {s : List UInt64} (hs : s.length = 25) {A : Option Addr} {c : Nat} {bs : List UInt8} (h : Bytes M A 136 c bs) :
    Con Tryz.prog 96 #[.agg (s.map u64v).toArray, .slice A 136 c] G M L (fun r M' L' => M = M' ∧ L = L' ∧ r = .agg ((kPerm (sMix s bs 136) 24).map u64v).toArray) noPanic := by
  have hbl := h.size
  obtain ⟨g, o, rfl, hca⟩ := h.byte (by omega)
  refine enter (args := [_, _]) (fn := Tryz.f96) ⟨Tryz.func96, rfl, by kernel_rfl, by kernel_rfl⟩ 29 rfl ?_
  refine x_seq (x_region ?_)
  refine tl_e rfl (e_box rfl (fun b1 => ?_))
  refine tl_e rfl (e_alloc (fun b2 => ?_))
  refine tl_nil (.then_normal ?_)
  refine x_seq (x_seq (x_region ?_))
  refine tl_y rfl (y_move (v := .slice _ _ _) rfl) ?_
  refine tl_y rfl (y_len rfl) ?_
  refine tl_y rfl (y_move rfl) ?_
  refine tl_nil (.then_normal ?_)
  refine x_block ?_
  refine x_loop (I := fun m' F D M2 L1 => ∃ k : Nat, m' = 136 - k ∧ k ≤ 136 ∧ D = [] ∧ M = M2 ∧ L1 = kB b2 (List.replicate 25 0) :: kB b1 (sMix s bs k) :: L ∧ F = [(2, .pointer (some ⟨b1, 0, none⟩)), (4, .pointer (some ⟨b2, 0, none⟩)), (7, .slice (some ⟨g, o, none⟩) 136 c), (8, .int .i64 136), (9, .int .i64 k)]) (136) (F0 := [(2, _), (4, _), (7, _), (8, _), (9, _)]) ?_ (.cons rfl (.cons rfl (.cons rfl (.cons rfl (.cons rfl .nil))))) ?_  -- slots [2, 4, 7, 8, 9], written [9]
  · exact ⟨0, rfl, by omega, rfl, rfl, rfl, rfl⟩
  rintro m _ _ M2 L1 ⟨k, rfl, hk, rfl, rfl, rfl, rfl⟩
  refine x_seq (x_region ?_)
  refine tl_y rfl (y_lss rfl rfl) ?_
  refine tl_nil (.then_normal ?_)
  refine x_seq ?_
  refine x_cond rfl (fun hc1 => ?_) (fun hc1 => ?_)
  ·
    refine x_skip (.then_normal ?_)
    refine x_seq ?_
    refine x_block ?_
    refine x_seq (x_region ?_)
    refine tl_y rfl (y_move (v := .int _ _) rfl) ?_
    refine tl_y rfl (y_indexAddr rfl rfl (by omega)) ?_
    refine tl_y rfl (y_load rfl rfl (.at_ (hca _ k (by omega)) (by omega))) ?_
    refine tl_y rfl (y_assign (v := .int _ _) rfl) ?_
    refine tl_y rfl (y_assign (v := .int _ _) rfl) ?_
    refine tl_nil (.then_normal ?_)
    refine .sub (F' := [(2, _), (4, _), (5, _), (6, _), (7, _), (8, _), (9, _)]) (.cons rfl (.cons rfl (.cons rfl (.cons rfl (.cons rfl (.cons rfl (.cons rfl .nil))))))) ?_
    refine x_draw 12 hmix rfl ?_
    refine to_p 0 rfl (by kernel_rfl) rfl (y_move (v := .int _ _) rfl) ?_
    refine to_p 1 rfl (by kernel_rfl) rfl (y_quoI rfl rfl (by omega)) ?_
    refine to_p 2 rfl (by kernel_rfl) rfl (y_indexArr rfl rfl (by omega)) ?_
    refine to_y 3 rfl (by kernel_rfl) rfl (y_load rfl rfl (.at_ (.ownAt (i := k / 8) (c := (sMix s bs k).map u64v) inferInstance (get_u64' _ _ (by rw [sMix_length]; omega))) (by omega))) ?_
    refine to_p 4 rfl (by kernel_rfl) rfl (y_move (v := .int _ _) rfl) ?_
    refine to_p 5 rfl (by kernel_rfl) rfl (y_u8u64 rfl) ?_
    refine to_p 6 rfl (by kernel_rfl) rfl (y_move (v := .int _ _) rfl) ?_
    refine to_p 7 rfl (by kernel_rfl) rfl (y_remI rfl rfl (by omega)) ?_
    refine to_p 8 rfl (by kernel_rfl) rfl (y_mulI rfl rfl (by omega)) ?_
    rw [show (8 * ((k : Int) % 8)) = ((8 * (k % 8) : Nat) : Int) by omega]
    refine to_p 9 rfl (by kernel_rfl) rfl (y_shl64 rfl rfl) ?_
    refine to_p 10 rfl (by kernel_rfl) rfl (y_xor64 rfl rfl) ?_
    refine to_p 11 rfl (by kernel_rfl) rfl (y_indexArr rfl rfl (by omega)) ?_
    refine to_t 12 rfl (by kernel_rfl) (by kernel_rfl) rfl (e_storeAt (c := (sMix s bs k).map u64v) rfl rfl rfl inferInstance (by rw [List.length_map, sMix_length]; omega) inferInstance ?_)
    rw [show 0 + ((k : Int) / 8).toNat * 1 = k / 8 by omega, ← List.map_set]
    refine to_nil (by kernel_rfl) (.block_normal (.then_normal ?_))
    refine .sub (F' := [(2, _), (4, _), (7, _), (8, _), (9, _)]) (.cons rfl (.cons rfl (.cons rfl (.cons rfl (.cons rfl .nil))))) ?_
    refine x_region ?_
    refine tl_y rfl (y_addI rfl rfl (by omega)) ?_
    refine tl_y rfl (y_move (v := .int _ _) rfl) ?_
    refine tl_nil (.loop_next (m' := 136 - (k + 1)) (by omega) (F' := [(2, _), (4, _), (7, _), (8, _), (9, _)]) (.cons rfl (.cons rfl (.cons rfl (.cons rfl (.cons rfl .nil))))) ?_)
    exact ⟨k + 1, rfl, by omega, rfl, rfl, rfl, rfl⟩
  ·
    obtain rfl : k = 136 := by omega
    have hml : (sMix s bs 136).length = 25 := by rw [sMix_length, hs]
    refine x_exit (.then_exit (.loop_exit (.block_exit (.then_normal ?_))))
    refine .sub (F' := [(2, _), (4, _)]) (.cons rfl (.cons rfl .nil)) ?_
    refine x_seq (x_region ?_)
    refine tl_y rfl (y_loadAgg rfl rfl (.whole inferInstance (by simp [hml]))) ?_
    refine tl_e rfl (e_call' rfl (Permute_spec hg hml) ?_)
    rintro _ _ _ _ ⟨rfl, rfl, rfl⟩
    refine tl_e rfl (e_store rfl rfl (by simp [kPerm_length, hml]) (u64_one _) inferInstance (.whole (by simp [kPerm_length, hml])) inferInstance ?_)
    refine tl_nil (.then_normal ?_)
    refine x_ret (retRV (L' := L) (rv1 rfl (rc_cellAgg (by rfl) rfl (.whole inferInstance (by simp [kPerm_length, hml])))) inferInstance (Le.refl _) ⟨rfl, rfl, rfl⟩)
theorem give_spec {s : List UInt64} (hs : s.length = 25) :
    Con Tryz.prog 97 #[.agg (s.map u64v).toArray] G M L (fun r M' L' => L = L' ∧ ∃ A c, r = .slice A 136 c ∧ Bytes M' A 136 c (sGive s 136)) noPanic := by
  refine enter (args := [_]) (fn := Tryz.f97) ⟨Tryz.func97, rfl, by kernel_rfl, by kernel_rfl⟩ 25 rfl ?_
  refine x_seq (x_region ?_)
  refine tl_e rfl (e_box rfl (fun b1 => ?_))
  refine tl_y rfl (y_assign rfl) ?_
  refine tl_nil (.then_normal ?_)
  refine x_seq (x_region ?_)
  refine tl_e rfl (e_make1 rfl rfl (by omega) (by omega) (by omega) (by omega) (fun b2 => ?_))
  refine tl_y rfl (y_assign (v := .slice _ _ _) rfl) ?_
  refine tl_nil (.then_normal ?_)
  refine x_seq (x_seq (x_region ?_))
  refine tl_y rfl (y_move (v := .slice _ _ _) rfl) ?_
  refine tl_y rfl (y_len rfl) ?_
  refine tl_y rfl (y_move rfl) ?_
  refine tl_nil (.then_normal ?_)
  refine .sub (F' := [(1, _), (3, _), (7, _), (8, _)]) (.cons rfl (.cons rfl (.cons rfl (.cons rfl .nil)))) ?_
  refine x_block ?_
  refine x_loop (I := fun m' F D M2 L1 => ∃ k : Nat, m' = 136 - k ∧ k ≤ 136 ∧ D = [] ∧ M = M2 ∧ L1 = (b2, .cells ((sGive s k).map bv ++ List.replicate (136 - k) (Value.int .u8 0)).toArray 5 (0, 0)) :: kB b1 s :: L ∧ F = [(1, .pointer (some ⟨b1, 0, none⟩)), (3, .slice (some ⟨b2, 0, none⟩) 136 136), (7, .int .i64 136), (8, .int .i64 k)]) (136) (F0 := [(1, _), (3, _), (7, _), (8, _)]) ?_ (.cons rfl (.cons rfl (.cons rfl (.cons rfl .nil)))) ?_  -- slots [1, 3, 7, 8], written [8]
  · exact ⟨0, rfl, by omega, rfl, rfl, rfl, rfl⟩
  rintro m _ _ M2 L1 ⟨k, rfl, hk, rfl, rfl, rfl, rfl⟩
  refine x_seq (x_region ?_)
  refine tl_y rfl (y_lss rfl rfl) ?_
  refine tl_nil (.then_normal ?_)
  refine x_seq ?_
  refine x_cond rfl (fun hc1 => ?_) (fun hc1 => ?_)
  ·
    refine x_skip (.then_normal ?_)
    refine x_seq ?_
    refine x_block ?_
    refine x_seq (x_region ?_)
    refine tl_y rfl (y_move (v := .int _ _) rfl) ?_
    refine tl_y rfl (y_assign (v := .int _ _) rfl) ?_
    refine tl_nil (.then_normal ?_)
    refine x_region ?_
    refine tl_y rfl (y_move (v := .slice _ _ _) rfl) ?_
    refine tl_y rfl (y_move (v := .int _ _) rfl) ?_
    refine tl_y rfl (y_move (v := .int _ _) rfl) ?_
    refine tl_y rfl (y_quoI rfl rfl (by omega)) ?_
    refine tl_y rfl (y_indexArr rfl rfl (by omega)) ?_
    refine tl_y rfl (y_load rfl rfl (.at_ (.ownAt (i := k / 8) (c := s.map u64v) inferInstance (get_u64' _ _ (by omega))) (by omega))) ?_
    refine tl_y rfl (y_move (v := .int _ _) rfl) ?_
    refine tl_y rfl (y_remI rfl rfl (by omega)) ?_
    refine tl_y rfl (y_mulI rfl rfl (by omega)) ?_
    rw [show (8 * ((k : Int) % 8)) = ((8 * (k % 8) : Nat) : Int) by omega]
    refine tl_y rfl (y_shr64 rfl rfl) ?_
    refine tl_y rfl (y_u64u8 rfl) ?_
    refine tl_y rfl (y_indexAddr rfl rfl (by omega)) ?_
    refine tl_e rfl (e_storeAt (c := (sGive s k).map bv ++ List.replicate (136 - k) (.int .u8 0)) rfl rfl rfl inferInstance (by simp [sGive_length]; omega) inferInstance ?_)
    have hset := set_zero (a := sGive s k) (m := 136) (v := sByte s k) (by rw [sGive_length]; omega)
    rw [sGive_length] at hset
    rw [show 0 + ((k : Int)).toNat * 1 = k by omega, show (u8v (shr64 (s.getD (k / 8) 0) (8 * (k % 8))).toUInt8) = .int .u8 ((sByte s k).toNat : Int) from rfl, hset, ← sGive_succ]
    refine tl_nil (.block_normal (.then_normal ?_))
    refine .sub (F' := [(1, _), (3, _), (7, _), (8, _)]) (.cons rfl (.cons rfl (.cons rfl (.cons rfl .nil)))) ?_
    refine x_region ?_
    refine tl_y rfl (y_addI rfl rfl (by omega)) ?_
    refine tl_y rfl (y_move (v := .int _ _) rfl) ?_
    refine tl_nil (.loop_next (m' := 136 - (k + 1)) (by omega) (F' := [(1, _), (3, _), (7, _), (8, _)]) (.cons rfl (.cons rfl (.cons rfl (.cons rfl .nil)))) ?_)
    exact ⟨k + 1, rfl, by omega, rfl, rfl, rfl, rfl⟩
  ·
    obtain rfl : k = 136 := by omega
    rw [show (sGive s 136).map bv ++ List.replicate (136 - 136) (Value.int .u8 0) = (sGive s 136).map bv by simp]
    refine x_exit (.then_exit (.loop_exit (.block_exit (.then_normal ?_))))
    refine .sub (F' := [(3, _)]) (.cons rfl .nil) ?_
    refine x_seq (x_region ?_)
    refine tl_y rfl (y_move (v := .slice _ _ _) rfl) ?_
    refine tl_y rfl (y_assign (v := .slice _ _ _) rfl) ?_
    refine tl_nil (.then_normal ?_)
    refine x_ret (.pub b2 inferInstance (fun M1 hM1 hb2 => .dropTo L inferInstance (ret1 rfl rfl hM1 ⟨rfl, _, _, rfl, Row.whole hb2 (by simp [sGive_length]) (by omega)⟩)))
theorem pad31_snoc (bs : List UInt8) (k : Nat) : (bs ++ 31 :: List.replicate (k + 1) 0).map bv = (bs ++ 31 :: List.replicate k 0).map bv ++ [Value.int .u8 0] := by rw [List.replicate_succ']; simp [bv]
theorem pad31_first (bs : List UInt8) : (bs ++ 31 :: List.replicate 0 0).map bv = bs.map bv ++ [Value.int .u8 31] := by simp [bv]
abbrev rdL (p : Nat) (s : List UInt64) (A : Option Addr) (n c : Nat) : Nat × Obj := (p, .cells (s.map u64v ++ [Value.slice A n c]).toArray 118 (0, 0))
theorem ShNew_spec (hg : KecG M) {A : Option Addr} {n c : Nat} {bs : List UInt8} (h : Bytes M A n c bs) (hn : n ≤ 1099511627776) :
    Con Tryz.prog 85 #[.slice A n c] G M L (fun r M' L' => ∃ p A' c', r = .pointer (some ⟨p, 0, none⟩) ∧ L' = rdL p (shk0 bs) A' 136 c' :: L ∧ Bytes M' A' 136 c' (sGive (shk0 bs) 136)) noPanic := by
  have hbl := h.size
  have hz : sPadZ bs = 135 - n % 136 := by rw [sPadZ, hbl]
  refine enter (args := [_]) (fn := Tryz.f85) ⟨Tryz.func85, rfl, by kernel_rfl, by kernel_rfl⟩ 54 rfl ?_
  refine x_seq (x_region ?_)
  refine tl_y rfl (y_assign rfl) ?_
  refine tl_nil (.then_normal ?_)
  refine x_seq (x_region ?_)
  refine tl_y rfl (y_move (v := .slice _ _ _) rfl) ?_
  refine tl_e rfl (e_call' rfl (bytesClone_own h.in_ (by omega)) ?_)
  rintro _ _ _ _ ⟨rfl, A1, c1, E1, rfl, hE1, rfl⟩
  refine tl_e rfl (e_buildSlice rfl (by decide) (fun b2 => ?_))
  refine .to (E1 ++ ((b2, .cells (List.toArray [.int .u8 31]) 5 (0, 0)) :: L)) inferInstance ?_
  refine tl_e rfl (e_append (by decide) rfl rfl hE1 (.own inferInstance rfl) rfl (by omega) (by omega) (fun A2 c2 E2 hE2 => ?_))
  refine tl_y rfl (y_assign (v := .slice _ _ _) rfl) ?_
  refine tl_nil (.then_normal ?_)
  refine .sub (F' := [(3, _)]) (.cons rfl .nil) ?_
  refine x_seq ?_
  refine x_block ?_
  refine x_loop (I := fun m' F D M1 L1 => ∃ (k : Nat) (A2 : Option Addr) (c2 : Nat) (E2 : Own), m' = sPadZ bs - k ∧ k ≤ sPadZ bs ∧ OwnRow 5 1 A2 (n + 1 + k) c2 ((bs ++ 31 :: List.replicate k 0).map bv) E2 ∧ D = [] ∧ M = M1 ∧ DropTo L1 (E2 ++ L) ∧ F = [(3, .slice A2 (n + 1 + k) c2)]) (sPadZ bs) (F0 := [(3, _)]) ?_ (.cons rfl .nil) ?_  -- slots [3], written [3]
  · exact ⟨0, A2, c2, E2, rfl, by omega, by rw [pad31_first]; exact hE2, rfl, rfl, inferInstance, rfl⟩
  rintro m _ _ M1 L1 ⟨k, A2, c2, E2, rfl, hk, hE2, rfl, rfl, hdr, rfl⟩
  refine x_seq (x_seq (x_region ?_))
  refine tl_y rfl (y_move (v := .slice _ _ _) rfl) ?_
  refine tl_y rfl (y_len rfl) ?_
  refine tl_y rfl (y_remI rfl rfl (by omega)) ?_
  refine tl_y rfl (y_neq rfl rfl) ?_
  refine tl_nil (.then_normal ?_)
  refine x_cond rfl (fun hc1 => ?_) (fun hc1 => ?_)
  ·
    have hkn : k < sPadZ bs := by omega
    refine .dropTo _ hdr ?_
    refine x_skip (.then_normal ?_)
    refine .sub (F' := [(3, _)]) (.cons rfl .nil) ?_
    refine x_block ?_
    refine x_region ?_
    refine tl_y rfl (y_move (v := .slice _ _ _) rfl) ?_
    refine tl_e rfl (e_buildSlice rfl (by decide) (fun b3 => ?_))
    refine .to (E2 ++ ((b3, .cells (List.toArray [.int .u8 0]) 5 (0, 0)) :: L)) inferInstance ?_
    refine tl_e rfl (e_append (by decide) rfl rfl hE2 (.own inferInstance rfl) rfl (by omega) (by omega) (fun A3 c3 E3 hE3 => ?_))
    refine tl_y rfl (y_assign (v := .slice _ _ _) rfl) ?_
    refine tl_nil (.block_normal (.loop_next (m' := sPadZ bs - (k + 1)) (by omega) (F' := [(3, _)]) (.cons rfl .nil) ?_))
    exact ⟨k + 1, A3, c3, E3, rfl, by omega, by rw [pad31_snoc]; exact hE3, rfl, rfl, inferInstance, rfl⟩
  ·
    obtain rfl : k = sPadZ bs := by omega
    refine .dropTo _ hdr ?_
    have hpl := sPad0_length bs
    have hbk := sPad_blocks bs
    rw [hbl] at hpl hbk
    change OwnRow _ _ _ _ _ ((sPad0 bs).map bv) _ at hE2
    obtain ⟨g, pre, slack, rfl, rfl⟩ := hE2.pos (by omega)
    simp only [List.cons_append, List.nil_append]
    refine x_exit (.then_exit (.loop_exit (.block_exit (.then_normal ?_))))
    refine .sub (F' := [(3, _)]) (.cons rfl .nil) ?_
    refine x_seq (x_region ?_)
    refine tl_y rfl (y_move (v := .slice _ _ _) rfl) ?_
    refine tl_y rfl (y_move (v := .slice _ _ _) rfl) ?_
    refine tl_y rfl (y_len rfl) ?_
    refine tl_y rfl (y_subI rfl rfl (by omega)) ?_
    refine tl_y rfl (y_indexAddr rfl rfl (by omega)) ?_
    refine tl_y rfl (y_load rfl rfl (.at_ (.ownAt (i := pre.length + (n + sPadZ bs)) (c := pre ++ ((sPad0 bs).map bv ++ slack)) inferInstance (get_mid (by omega))) (by omega))) ?_
    refine tl_y rfl (y_xor8 (b := 128) rfl rfl) ?_
    refine tl_y rfl (y_indexAddr rfl rfl (by omega)) ?_
    refine tl_e rfl (e_storeAt (c := pre ++ ((sPad0 bs).map bv ++ slack)) rfl rfl rfl inferInstance (by simp; omega) inferInstance ?_)
    rw [show pre.length + (((n + 1 + sPadZ bs : Nat) : Int) - 1).toNat * 1 = pre.length + (n + sPadZ bs) by omega]
    have hE3 := hE2.set (n + sPadZ bs) (.int .u8 (((sPad0 bs).getD (n + sPadZ bs) 0 ^^^ 128).toNat : Int)) (by rw [List.length_map]; omega)
    rw [show ((sPad0 bs).map bv).set (n + sPadZ bs) (.int .u8 (((sPad0 bs).getD (n + sPadZ bs) 0 ^^^ 128).toNat : Int)) = (sPad bs).map bv by rw [sPad, hbl, List.map_set]; rfl] at hE3
    generalize hgo : (pre ++ ((sPad0 bs).map bv ++ slack)).set (pre.length + (n + sPadZ bs)) (.int .u8 (((sPad0 bs).getD (n + sPadZ bs) 0 ^^^ 128).toNat : Int)) = whole at hE3
    refine .eqL (L' := [(g, .cells whole.toArray 5 (0, 0))] ++ L) rfl ?_
    refine .pubRow hE3 (fun M1 hM1 hT => ?_)
    rw [hbk] at hT
    rw [hbk]
    refine tl_nil (.then_normal ?_)
    refine .sub (F' := [(3, _)]) (.cons rfl .nil) ?_
    refine x_seq (x_region ?_)
    refine tl_y rfl (y_build rfl) ?_
    refine tl_e rfl (e_box rfl (fun b3 => ?_))
    refine .eqL (L' := rdL b3 (List.replicate 25 0) none 0 0 :: L) rfl ?_
    refine tl_y rfl (y_assign (v := .pointer _) rfl) ?_
    refine tl_nil (.then_normal ?_)
    refine x_seq ?_
    refine x_block ?_
    refine x_loop (I := fun m' F D M2 L2 => ∃ (k : Nat) (A3 : Option Addr) (c3 : Nat), m' = n / 136 + 1 - k ∧ k ≤ n / 136 + 1 ∧ Bytes M2 A3 (136 * (n / 136 + 1) - 136 * k) c3 ((sPad bs).drop (136 * k)) ∧ D = [] ∧ M1 = M2 ∧ L2 = rdL b3 (sAbs (sPad bs) k) none 0 0 :: L ∧ F = [(3, .slice A3 (136 * (n / 136 + 1) - 136 * k) c3), (4, .pointer (some ⟨b3, 0, none⟩))]) (n / 136 + 1) (F0 := [(3, _), (4, _)]) ?_ (.cons rfl (.cons rfl .nil)) ?_  -- slots [3, 4], written [3]
    · exact ⟨0, _, _, rfl, by omega, by simpa using hT, rfl, rfl, rfl, rfl⟩
    rintro m _ _ M2 L2 ⟨k, A3, c3, rfl, hk, hA3, rfl, rfl, rfl, rfl⟩
    refine x_seq (x_seq (x_region ?_))
    refine tl_y rfl (y_move (v := .slice _ _ _) rfl) ?_
    refine tl_y rfl (y_len rfl) ?_
    refine tl_y rfl (y_gtr rfl rfl) ?_
    refine tl_nil (.then_normal ?_)
    refine x_cond rfl (fun hc2 => ?_) (fun hc2 => ?_)
    ·
      have hkn : k < n / 136 + 1 := by omega
      have hA3l := hA3.le
      have hsl := sAbs_length (sPad bs) k
      refine x_skip (.then_normal ?_)
      refine x_seq ?_
      refine x_block ?_
      refine x_draw 10 hmix rfl ?_
      refine to_p 0 rfl (by kernel_rfl) rfl (y_move (v := .pointer _) rfl) ?_
      refine to_p 1 rfl (by kernel_rfl) rfl (y_move (v := .pointer _) rfl) ?_
      refine to_p 2 rfl (by kernel_rfl) rfl (y_nilCheck rfl) ?_
      refine to_p 3 rfl (by kernel_rfl) rfl (y_fieldAddr rfl) ?_
      refine to_y 4 rfl (by kernel_rfl) rfl (y_loadAgg rfl rfl (.own inferInstance (cutLeft (by simp [hsl])))) ?_
      refine to_p 5 rfl (by kernel_rfl) rfl (y_move (v := .slice _ _ _) rfl) ?_
      refine to_p 6 rfl (by kernel_rfl) rfl (y_slice3 rfl rfl rfl (by omega) (by omega)) ?_
      refine to_e 7 rfl (by kernel_rfl) rfl (e_call' rfl (mix_spec (hg.mono hM1) hsl (Bytes.take3 hA3 136 136 (by omega) (by omega) (by omega))) ?_)
      rintro _ _ _ _ ⟨rfl, rfl, rfl⟩
      refine ⟨⟨(by first | exact Le.refl _ | assumption), Keeps.mem⟩, ?_⟩
      refine to_p 8 rfl (by kernel_rfl) rfl (y_nilCheck rfl) ?_
      refine to_p 9 rfl (by kernel_rfl) rfl (y_fieldAddr rfl) ?_
      refine to_t 10 rfl (by kernel_rfl) (by kernel_rfl) rfl (e_store rfl rfl (by simp [kPerm_length, sMix_length, hsl]) (u64_one _) inferInstance (putLeft (by simp [kPerm_length, sMix_length, hsl])) inferInstance ?_)
      refine to_nil (by kernel_rfl) (.block_normal (.then_normal ?_))
      refine .sub (F' := [(3, _), (4, _)]) (.cons rfl (.cons rfl .nil)) ?_
      refine x_region ?_
      refine tl_y rfl (y_move (v := .slice _ _ _) rfl) ?_
      refine tl_y rfl (y_move (v := .slice _ _ _) rfl) ?_
      refine tl_y rfl (y_len rfl) ?_
      refine tl_y rfl (y_move (v := .slice _ _ _) rfl) ?_
      refine tl_y rfl (y_len rfl) ?_
      refine tl_y rfl (y_slice3L rfl rfl rfl rfl (by omega) (by omega)) ?_
      refine tl_y rfl (y_assign (v := .slice _ _ _) rfl) ?_
      refine tl_nil (.loop_next (m' := n / 136 + 1 - (k + 1)) (by omega) (F' := [(3, _), (4, _)]) (.cons rfl (.cons rfl .nil)) ?_)
      exact ⟨k + 1, _, _, rfl, by omega, by
        have h1 := Bytes.sub3 hA3 136 (136 * (n / 136 + 1) - 136 * k) (by omega) (Nat.le_refl _) (by omega)
        rw [List.drop_drop] at h1
        rw [show 136 * (k + 1) = 136 * k + 136 by omega, ← Nat.sub_sub]
        exact h1, rfl, rfl, rfl, by rw [show 136 * (k + 1) = 136 * k + 136 by omega, ← Nat.sub_sub]; rfl⟩
    ·
      obtain rfl : k = n / 136 + 1 := by omega
      have hsl := sAbs_length (sPad bs) (n / 136 + 1)
      refine x_exit (.then_exit (.loop_exit (.block_exit (.then_normal ?_))))
      refine .sub (F' := [(4, _)]) (.cons rfl .nil) ?_
      refine x_seq (x_region ?_)
      refine tl_y rfl (y_move (v := .pointer _) rfl) ?_
      refine tl_y rfl (y_move (v := .pointer _) rfl) ?_
      refine tl_y rfl (y_nilCheck rfl) ?_
      refine tl_y rfl (y_fieldAddr rfl) ?_
      refine tl_y rfl (y_loadAgg rfl rfl (.own inferInstance (cutLeft (by simp [hsl])))) ?_
      refine tl_e rfl (e_call' rfl (give_spec hsl) ?_)
      rintro _ M3 _ hM3 ⟨rfl, A4, c4, rfl, hA4⟩
      refine tl_y rfl (y_nilCheck rfl) ?_
      refine tl_y rfl (y_fieldAddr rfl) ?_
      refine tl_e rfl (e_store rfl rfl (by rfl) (by rfl) inferInstance (putRight (n := 25) (by simp [hsl]) inferInstance) inferInstance ?_)
      refine tl_nil (.then_normal ?_)
      refine .sub (F' := [(4, _)]) (.cons rfl .nil) ?_
      refine x_seq (x_region ?_)
      refine tl_y rfl (y_move (v := .pointer _) rfl) ?_
      refine tl_y rfl (y_assign (v := .pointer _) rfl) ?_
      refine tl_nil (.then_normal ?_)
      refine x_ret (ret1 rfl rfl (hM1.trans hM3) ⟨_, A4, c4, rfl, by rw [shk0, hbl], by rw [shk0, hbl]; exact hA4⟩)
theorem ShRead_spec {p : Nat} {s : List UInt64} (hs : s.length = 25) {A : Option Addr} {c : Nat} {bs : List UInt8} (h : Bytes M A 136 c bs) (n : Nat) (hn : n ≤ 136) :
    Con Tryz.prog 86 #[.pointer (some ⟨p, 0, none⟩), .int .i64 (n : Int)] G M (rdL p s A 136 c :: L) (fun r M' L' => ∃ A' c', r = .slice A' n c' ∧ Bytes M' A' n c' (bs.take n) ∧ L' = L) noPanic := by
  have hbl := h.size
  have hcl := h.le
  refine enter (args := [_, _]) (fn := Tryz.f86) ⟨Tryz.func86, rfl, by kernel_rfl, by kernel_rfl⟩ 63 rfl ?_
  refine x_seq (x_region ?_)
  refine tl_y rfl (y_assign rfl) ?_
  refine tl_nil (.then_normal ?_)
  refine x_seq (x_seq (x_region ?_))
  refine tl_y rfl (y_move (v := .int _ _) rfl) ?_
  refine tl_y rfl (y_lss rfl rfl) ?_
  refine tl_y rfl (y_move (v := .bool _) rfl) ?_
  refine tl_set (s := 9) (u := .bool false) rfl (by rw [decide_eq_false]; omega) ?_
  refine tl_y rfl (y_move (v := .int _ _) rfl) ?_
  refine tl_y rfl (y_gtr rfl rfl) ?_
  refine tl_y rfl (y_pickF rfl rfl) ?_
  refine tl_nil (.then_normal ?_)
  refine .sub (F' := [(0, _), (1, _), (4, _), (12, _)]) (.cons rfl (.cons rfl (.cons rfl (.cons rfl .nil)))) ?_
  refine x_false rfl (by rw [decide_eq_false]; omega) ?_
  refine x_skip (.then_normal ?_)
  refine x_seq (x_region ?_)
  refine tl_y rfl (y_move (v := .int _ _) rfl) ?_
  refine tl_e rfl (e_make1 rfl rfl (by omega) (by omega) (by omega) (by omega) (fun b1 => ?_))
  refine tl_y rfl (y_assign (v := .slice _ _ _) rfl) ?_
  refine tl_nil (.then_normal ?_)
  refine x_block ?_
  refine x_loop (I := fun m' F D M2 L2 => m' = 0 ∧ D = [] ∧ M = M2 ∧ L2 = (b1, .cells (List.replicate n (Value.int .u8 0)).toArray 5 (0, 0)) :: rdL p s A 136 c :: L ∧ F = [(0, .pointer (some ⟨p, 0, none⟩)), (1, .int .i64 n), (4, .slice none 0 0), (5, .slice (some ⟨b1, 0, none⟩) 0 n)]) (0) (F0 := [(0, _), (1, _), (4, _), (5, _)]) ?_ (.cons rfl (.cons rfl (.cons rfl (.cons rfl .nil)))) ?_  -- slots [0, 1, 4, 5], written [4, 5]
  · exact ⟨rfl, rfl, rfl, rfl, rfl⟩
  rintro m _ _ M2 L2 ⟨rfl, rfl, rfl, rfl, rfl⟩
  refine x_block ?_
  refine x_seq (x_region ?_)
  refine tl_y rfl (y_move (v := .int _ _) rfl) ?_
  refine tl_y rfl (y_move (v := .slice _ _ _) rfl) ?_
  refine tl_y rfl (y_len rfl) ?_
  refine tl_y rfl (y_subI rfl rfl (by omega)) ?_
  refine tl_y rfl (y_move (v := .pointer _) rfl) ?_
  refine tl_y rfl (y_nilCheck rfl) ?_
  refine tl_y rfl (y_fieldAddr rfl) ?_
  refine tl_y rfl (y_load rfl rfl (.at_ (.ownAt (i := 25) (c := s.map u64v ++ [Value.slice A 136 c]) inferInstance (getRight (i := 0) (by simp [hs]))) (by omega))) ?_
  refine tl_y rfl (y_len rfl) ?_
  refine tl_y rfl (y_min rfl rfl) ?_
  rw [show (if ((136 : Nat) : Int) < (n : Int) - ((0 : Nat) : Int) then ((136 : Nat) : Int) else (n : Int) - ((0 : Nat) : Int)) = (n : Int) by rw [if_neg (by omega)]; omega]
  refine tl_y rfl (y_assign (v := .int _ _) rfl) ?_
  refine tl_nil (.then_normal ?_)
  refine .sub (F' := [(0, _), (1, _), (4, _), (5, _), (6, _)]) (.cons rfl (.cons rfl (.cons rfl (.cons rfl (.cons rfl .nil))))) ?_
  refine x_seq ?_
  refine x_draw0 18 ([rdL p s A 136 c]) Keeps.mem hmix rfl ?_
  refine to_p 0 rfl (by kernel_rfl) rfl (y_move (v := .pointer _) rfl) ?_
  refine to_p 1 rfl (by kernel_rfl) rfl (y_move (v := .slice _ _ _) rfl) ?_
  refine to_p 2 rfl (by kernel_rfl) rfl (y_move (v := .pointer _) rfl) ?_
  refine to_p 3 rfl (by kernel_rfl) rfl (y_nilCheck rfl) ?_
  refine to_p 4 rfl (by kernel_rfl) rfl (y_fieldAddr rfl) ?_
  refine to_y 5 rfl (by kernel_rfl) rfl (y_load rfl rfl (.at_ (.ownAt (i := 25) (c := s.map u64v ++ [Value.slice A 136 c]) inferInstance (getRight (i := 0) (by simp [hs]))) (by omega))) ?_
  refine to_p 6 rfl (by kernel_rfl) rfl (y_move (v := .int _ _) rfl) ?_
  refine to_p 7 rfl (by kernel_rfl) rfl (y_sliceH rfl rfl (by omega) (by omega)) ?_
  refine to_p 9 rfl (by kernel_rfl) rfl (y_move (v := .pointer _) rfl) ?_
  refine to_p 10 rfl (by kernel_rfl) rfl (y_nilCheck rfl) ?_
  refine to_p 11 rfl (by kernel_rfl) rfl (y_fieldAddr rfl) ?_
  refine to_y 12 rfl (by kernel_rfl) rfl (y_load rfl rfl (.at_ (.ownAt (i := 25) (c := s.map u64v ++ [Value.slice A 136 c]) inferInstance (getRight (i := 0) (by simp [hs]))) (by omega))) ?_
  refine to_p 13 rfl (by kernel_rfl) rfl (y_move (v := .int _ _) rfl) ?_
  refine to_p 14 rfl (by kernel_rfl) rfl (y_sliceL rfl rfl (by omega)) ?_
  refine to_e 8 rfl (by kernel_rfl) rfl (e_append1 (by decide) rfl rfl (OwnRow.made0 (n := n) (vs := List.replicate n (Value.int .u8 0)) (by simp) (by omega)) (.row (Bytes.take h n hn)) (all_one_bv _) (by omega) (by omega) (fun A2 c2 E2 hE2 => ?_))
  rw [Nat.zero_add, List.nil_append] at hE2
  rw [Nat.zero_add]
  refine ⟨⟨(by first | exact Le.refl _ | assumption), Keeps.mem⟩, ?_⟩
  refine to_p 15 rfl (by kernel_rfl) rfl (y_assign (v := .slice _ _ _) rfl) ?_
  refine to_p 16 rfl (by kernel_rfl) rfl (y_nilCheck rfl) ?_
  refine to_p 17 rfl (by kernel_rfl) rfl (y_fieldAddr rfl) ?_
  refine to_t 18 rfl (by kernel_rfl) (by kernel_rfl) rfl (e_store rfl rfl (by rfl) (by rfl) inferInstance (putRight (n := 25) (by simp [hs]) inferInstance) inferInstance ?_)
  refine to_nil (by kernel_rfl) (.then_normal ?_)
  refine .sub (F' := [(0, _), (1, _), (4, _), (5, _)]) (.cons rfl (.cons rfl (.cons rfl (.cons rfl .nil)))) ?_
  refine x_seq (x_seq (x_region ?_))
  refine tl_y rfl (y_move (v := .slice _ _ _) rfl) ?_
  refine tl_y rfl (y_len rfl) ?_
  refine tl_y rfl (y_move (v := .int _ _) rfl) ?_
  refine tl_y rfl (y_eql rfl rfl) ?_
  refine tl_nil (.then_normal ?_)
  refine x_true rfl (by simp) ?_
  refine x_seq (x_region ?_)
  refine tl_y rfl (y_move (v := .slice _ _ _) rfl) ?_
  refine tl_y rfl (y_assign (v := .slice _ _ _) rfl) ?_
  refine tl_nil (.then_normal ?_)
  refine .sub (F' := [(0, _), (1, _), (4, _), (5, _)]) (.cons rfl (.cons rfl (.cons rfl (.cons rfl .nil)))) ?_
  refine x_ret (.then_ret (.block_ret (.loop_ret (.block_ret (.pubRow hE2 (fun M' hM' hr => .dropTo L inferInstance (ret1 rfl rfl hM' ⟨_, _, rfl, hr, rfl⟩)))))))
theorem ShSum_spec (hg : KecG M) {A : Option Addr} {m c : Nat} {bs : List UInt8} (h : Bytes M A m c bs) (hm : m ≤ 1099511627776) (n : Nat) (hn : n ≤ 136) :
    Con Tryz.prog 70 #[.slice A m c, .int .i64 (n : Int)] G M L (fun r M' L' => ∃ A' c', r = .slice A' n c' ∧ Bytes M' A' n c' (shk bs n) ∧ L' = L) noPanic := by
  refine enter (args := [_, _]) (fn := Tryz.f70) ⟨Tryz.func70, rfl, by kernel_rfl, by kernel_rfl⟩ 9 rfl ?_
  refine x_seq (x_region ?_)
  refine tl_y rfl (y_assign rfl) ?_
  refine tl_nil (.then_normal ?_)
  refine x_seq (x_region ?_)
  refine tl_y rfl (y_move (v := .slice _ _ _) rfl) ?_
  refine tl_e rfl (e_call' rfl (ShNew_spec hg h hm) ?_)
  rintro _ M1 _ hM1 ⟨p, A1, c1, rfl, rfl, hA1⟩
  refine tl_y rfl (y_move (v := .int _ _) rfl) ?_
  refine tl_e rfl (e_call' rfl (ShRead_spec (sAbs_length _ _) hA1 n hn) ?_)
  rintro _ M2 _ hM2 ⟨A2, c2, rfl, hA2, rfl⟩
  refine tl_y rfl (y_assign (v := .slice _ _ _) rfl) ?_
  refine tl_nil (.then_normal ?_)
  refine .sub (F' := [(4, _)]) (.cons rfl .nil) ?_
  refine x_ret (ret1 rfl rfl (hM1.trans hM2) ⟨_, _, rfl, hA2, rfl⟩)
end
end Go.Proofs.YtbjnjedfoiedeaaGreatDoor
set_option linter.unusedVariables false
set_option linter.unusedSimpArgs false
namespace Go.Proofs.YtbjnjedfoiedeaaGreatDoor
open Go Go.Eng
section
variable {G : World} {M : Mem} {L : Own}
end
end Go.Proofs.YtbjnjedfoiedeaaGreatDoor
