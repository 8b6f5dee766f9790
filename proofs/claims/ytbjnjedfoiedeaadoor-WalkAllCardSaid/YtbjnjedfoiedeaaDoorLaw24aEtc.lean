/-
Contracts of functions, each proved by a walk through its code.
-/
import Derived.Test.YtbjnjedfoiedeaaDoorRef8bEtc
import Derived.Test.YtbjnjedfoiedeaaDoorWalk5Etc
set_option linter.unusedVariables false
set_option linter.unusedSimpArgs false
set_option linter.constructorNameAsVariable false
namespace Go.Proofs.YtbjnjedfoiedeaaDoor
open Go Go.Eng
/-- How many leaves change so many sums, for each number below 14. -/
def cntL (m : Nat) : List Nat := (List.range 14).map (cnt m)
theorem cntL_at (m : Nat) {c : Nat} (h : c < 14) : ((cntL m).map fun (x : Nat) => Value.int .i64 (x : Int))[c]? = some (.int .i64 ((cnt m c : Nat) : Int)) := by
  rw [List.getElem?_map, cntL, List.getElem?_map, List.getElem?_range h]; rfl
theorem cntL_len (m : Nat) : (cntL m).length = 14 := by simp [cntL]
theorem cntL_step (m : Nat) (h : chg m < 14) : ((cntL m).map fun (x : Nat) => Value.int .i64 (x : Int)).set (chg m) (.int .i64 ((cnt m (chg m) + 1 : Nat) : Int)) = (cntL (m + 1)).map fun (x : Nat) => Value.int .i64 (x : Int) := by
  refine List.ext_getElem? fun c => ?_
  rw [List.getElem?_set]
  by_cases hc : c < 14
  · rw [cntL_at (m + 1) hc, cnt_succ]
    by_cases he : chg m = c
    · subst he
      rw [if_pos rfl, if_pos (by simp [cntL]; exact h), if_pos rfl]
    · rw [if_neg he, cntL_at m hc, if_neg he, Nat.add_zero]
  · rw [if_neg (by omega), List.getElem?_eq_none (by simp [cntL]; omega), List.getElem?_eq_none (by simp [cntL]; omega)]
theorem cnt_le (m c : Nat) : cnt m c ≤ m := by
  induction m with
  | zero => exact Nat.le_refl _
  | succ m ih => rw [cnt_succ]; split <;> omega
section
variable {G : World} {M : Mem} {L : Own}
theorem WalkChanges_spec (hg : WkG M) (n : UInt8) :
    Con Tryd.prog 4 #[.int .u8 (n.toNat : Int)] G M L (fun v M' L' => v = .bool true) noPanic := by
  have hn := n.toNat_lt
  obtain ⟨k, hk⟩ : ∃ k, k = n.toNat % 12 := ⟨_, rfl⟩
  have hk12 : k < 12 := by omega
  have hpw := pw2_le (j := k) (k := 11) (by omega)
  rw [show pw2 11 = 2048 from rfl] at hpw
  have hsh : ∀ j : Fin 12, IntKind.i64.wrap (1 * 2 ^ (min ((j.val : Nat) : Int).toNat IntKind.i64.bits)) = ((pw2 j.val : Nat) : Int) := by decide +kernel
  obtain ⟨hcn1, hcn2⟩ := cnt_pw2 k
  refine enter (args := [_]) (fn := Tryd.f4) ⟨Tryd.func4, rfl, by kernel_rfl, by kernel_rfl⟩ 57 rfl ?_
  refine x_seq (x_region ?_)
  refine tl_y rfl (y_assign rfl) ?_
  refine tl_nil (.then_normal ?_)
  refine x_seq (x_seq (x_region ?_))
  refine tl_e rfl (e_call' rfl (awake24_spec hg) ?_)
  rintro _ M1 _ hM1 ⟨rfl, rfl⟩
  refine tl_y rfl (y_not rfl) ?_
  refine tl_nil (.then_normal ?_)
  refine x_false rfl (rfl) ?_
  refine x_skip (.then_normal ?_)
  refine x_seq (x_region ?_)
  refine tl_y rfl (y_move (v := .int _ _) rfl) ?_
  refine tl_y rfl (y_convN64 rfl (by omega)) ?_
  refine tl_y rfl (y_remI rfl rfl (by omega)) ?_
  rw [show (n.toNat : Int) % 12 = ((k : Nat) : Int) by omega]
  refine tl_y rfl (y_assign (v := .int _ _) rfl) ?_
  refine tl_nil (.then_normal ?_)
  refine .sub (F' := [(2, _), (3, _)]) (.cons rfl (.cons rfl .nil)) ?_
  refine x_seq (x_region ?_)
  refine tl_e rfl (e_make1 rfl rfl (by omega) (by omega) (by omega) (by omega) (fun b1 => ?_))
  rw [show ((b1, .cells (List.replicate (14 : Int).toNat (.int .i64 0)).toArray 3 (0, 0)) : Nat × Obj) = (b1, .cells ((cntL 0).map fun (x : Nat) => Value.int .i64 (x : Int)).toArray 3 (0, 0)) from rfl]
  refine tl_y rfl (y_assign (v := .slice _ _ _) rfl) ?_
  refine tl_nil (.then_normal ?_)
  refine x_seq (x_seq (x_region ?_))
  refine tl_y rfl (y_assign rfl) ?_
  refine tl_nil (.then_normal ?_)
  refine x_block ?_
  refine x_loop (I := fun m' F D M2 L2 => ∃ q : Nat, m' = pw2 k - q ∧ q ≤ pw2 k ∧ D = [] ∧ M1 = M2 ∧ (b1, .cells ((cntL q).map fun (x : Nat) => Value.int .i64 (x : Int)).toArray 3 (0, 0)) :: L = L2 ∧ F = [(2, .bool false), (3, .int .u64 (k : Int)), (4, .slice (some ⟨b1, 0, none⟩) 14 14), (5, .int .u32 (q : Int))]) (pw2 k) (F0 := [(2, _), (3, _), (4, _), (5, _)]) ?_ (.cons rfl (.cons rfl (.cons rfl (.cons rfl .nil)))) ?_  -- slots [2, 3, 4, 5], written [2, 5]
  · exact ⟨0, rfl, by omega, rfl, rfl, rfl, rfl⟩
  rintro m _ _ _ _ ⟨q, rfl, hq, rfl, rfl, rfl, rfl⟩
  refine x_seq (x_seq (x_region ?_))
  refine tl_y rfl (y_move (v := .int _ _) rfl) ?_
  refine tl_y rfl (y_move (v := .int _ _) rfl) ?_
  refine tl_y rfl (y_shl32 (a := 1) rfl rfl) ?_
  rw [show u32v (shl32 1 k) = .int .u32 ((pw2 k : Nat) : Int) from congrArg (fun (x : Nat) => Value.int .u32 (x : Int)) (shl32_h (by omega))]
  refine tl_y rfl (y_lss rfl rfl) ?_
  refine tl_nil (.then_normal ?_)
  refine x_cond rfl (fun hc2 => ?_) (fun hc2 => ?_)
  ·
    have hql : q < pw2 k := by omega
    have hcl := chg_lt k q hql
    have hcp := chg_pos q
    have hcle := cnt_le q (chg q)
    obtain ⟨z, hz⟩ : ∃ z : UInt32, z.toNat = q := ⟨UInt32.ofNat q, by rw [UInt32.toNat_ofNat', Nat.mod_eq_of_lt (by omega)]⟩
    rw [show ((q : Nat) : Int) = ((z.toNat : Nat) : Int) by rw [hz]]
    refine x_skip (.then_normal ?_)
    refine .sub (F' := [(2, _), (3, _), (4, _), (5, _)]) (.cons rfl (.cons rfl (.cons rfl (.cons rfl .nil)))) ?_
    refine x_seq ?_
    refine x_block ?_
    refine x_seq (x_region ?_)
    refine tl_y rfl (y_move (v := .int _ _) rfl) ?_
    refine tl_e rfl (e_call' rfl (Changes_spec (hg.mono hM1).bit z) ?_)
    rintro _ _ _ _ ⟨rfl, rfl, rfl⟩
    rw [hz]
    refine tl_y rfl (y_assign (v := .int _ _) rfl) ?_
    refine tl_nil (.then_normal ?_)
    refine x_seq (x_seq (x_region ?_))
    refine tl_y rfl (y_move (v := .int _ _) rfl) ?_
    refine tl_y rfl (y_lss rfl rfl) ?_
    refine tl_y rfl (y_move (v := .bool _) rfl) ?_
    refine tl_set (s := 24) (u := .bool false) rfl (by simp; omega) ?_
    refine tl_y rfl (y_move (v := .int _ _) rfl) ?_
    refine tl_y rfl (y_move (v := .int _ _) rfl) ?_
    refine tl_y rfl (y_convI rfl (by omega)) ?_
    refine tl_y rfl (y_addI rfl rfl (by omega)) ?_
    refine tl_y rfl (y_gtr rfl rfl) ?_
    refine tl_y rfl (y_pickF rfl rfl) ?_
    refine tl_nil (.then_normal ?_)
    refine .sub (F' := [(2, _), (3, _), (4, _), (5, _), (6, _), (30, _)]) (.cons rfl (.cons rfl (.cons rfl (.cons rfl (.cons rfl (.cons rfl .nil)))))) ?_
    refine x_false rfl (decide_eq_false (by omega)) ?_
    refine x_skip (.then_normal ?_)
    refine x_region ?_
    refine tl_y rfl (y_move (v := .slice _ _ _) rfl) ?_
    refine tl_y rfl (y_move (v := .int _ _) rfl) ?_
    refine tl_y rfl (y_indexAddrK (chg q) rfl rfl (by omega)) ?_
    refine tl_y rfl (y_load rfl rfl (.ownAt (b := b1) inferInstance (cntL_at q (by omega)))) ?_
    refine tl_y rfl (y_addI rfl rfl (by omega)) ?_
    refine tl_y rfl (y_indexAddrK (chg q) rfl rfl (by omega)) ?_
    refine tl_e rfl (e_storeAt (c := (cntL q).map fun (x : Nat) => Value.int .i64 (x : Int)) rfl rfl rfl inferInstance (by rw [List.length_map, cntL_len]; omega) inferInstance ?_)
    rw [show ((cnt q (chg q) : Nat) : Int) + 1 = ((cnt q (chg q) + 1 : Nat) : Int) by omega, cntL_step q (by omega)]
    refine tl_nil (.block_normal (.then_normal ?_))
    refine .sub (F' := [(2, _), (3, _), (4, _), (5, _)]) (.cons rfl (.cons rfl (.cons rfl (.cons rfl .nil)))) ?_
    refine x_region ?_
    refine tl_y rfl (y_move (v := .int _ _) rfl) ?_
    refine tl_y rfl (y_addN32 rfl rfl (by omega)) ?_
    refine tl_y rfl (y_assign (v := .int _ _) rfl) ?_
    refine tl_nil (.loop_next (m' := pw2 k - (q + 1)) (by omega) (F' := [(2, _), (3, _), (4, _), (5, _)]) (.cons rfl (.cons rfl (.cons rfl (.cons rfl .nil)))) ?_)
    exact ⟨q + 1, rfl, by omega, rfl, rfl, rfl, rfl⟩
  ·
    obtain rfl : q = pw2 k := by omega
    refine x_exit (.then_exit (.loop_exit (.block_exit (.then_normal ?_))))
    refine .sub (F' := [(2, _), (3, _), (4, _)]) (.cons rfl (.cons rfl (.cons rfl .nil))) ?_
    refine x_seq (x_seq (x_region ?_))
    refine tl_y rfl (y_assign rfl) ?_
    refine tl_nil (.then_normal ?_)
    refine x_block ?_
    refine x_loop (I := fun m' F D M2 L2 => ∃ c : Nat, m' = k + 1 - c ∧ 1 ≤ c ∧ c ≤ k + 1 ∧ D = [] ∧ M1 = M2 ∧ (b1, .cells ((cntL (pw2 k)).map fun (x : Nat) => Value.int .i64 (x : Int)).toArray 3 (0, 0)) :: L = L2 ∧ F = [(2, .bool false), (3, .int .u64 (k : Int)), (4, .slice (some ⟨b1, 0, none⟩) 14 14), (7, .int .u64 (c : Int))]) (k) (F0 := [(2, _), (3, _), (4, _), (7, _)]) ?_ (.cons rfl (.cons rfl (.cons rfl (.cons rfl .nil)))) ?_  -- slots [2, 3, 4, 7], written [2, 7]
    · exact ⟨1, rfl, by omega, by omega, rfl, rfl, rfl, rfl⟩
    rintro m _ _ _ _ ⟨c, rfl, hcp, hc, rfl, rfl, rfl, rfl⟩
    refine x_seq (x_seq (x_region ?_))
    refine tl_y rfl (y_move (v := .int _ _) rfl) ?_
    refine tl_y rfl (y_move (v := .int _ _) rfl) ?_
    refine tl_y rfl (y_leq rfl rfl) ?_
    refine tl_nil (.then_normal ?_)
    refine x_cond rfl (fun hc4 => ?_) (fun hc4 => ?_)
    ·
      have hck : c ≤ k := by omega
      have hs := hsh ⟨k - c, by omega⟩
      simp only at hs
      refine x_skip (.then_normal ?_)
      refine x_seq ?_
      refine x_block ?_
      refine x_seq (x_region ?_)
      refine tl_y rfl (y_move (v := .slice _ _ _) rfl) ?_
      refine tl_y rfl (y_move (v := .int _ _) rfl) ?_
      refine tl_y rfl (y_indexAddrK c rfl rfl (by omega)) ?_
      refine tl_y rfl (y_load rfl rfl (.ownAt (b := b1) inferInstance (cntL_at (pw2 k) (by omega)))) ?_
      refine tl_y rfl (y_move (v := .int _ _) rfl) ?_
      refine tl_y rfl (y_move (v := .int _ _) rfl) ?_
      refine tl_y rfl (y_subN64 rfl rfl (by omega)) ?_
      rw [show ((k : Nat) : Int) - ((c : Nat) : Int) = ((k - c : Nat) : Int) by omega]
      refine tl_y rfl (y_shl rfl rfl (by omega)) ?_
      rw [hs, hcn1 c hcp hck]
      refine tl_y rfl (y_neq rfl rfl) ?_
      refine tl_nil (.then_normal ?_)
      refine .sub (F' := [(2, _), (3, _), (4, _), (7, _), (50, _)]) (.cons rfl (.cons rfl (.cons rfl (.cons rfl (.cons rfl .nil))))) ?_
      refine x_false rfl (decide_eq_false (fun h => h rfl)) ?_
      refine x_skip (.block_normal (.then_normal ?_))
      refine x_region ?_
      refine tl_y rfl (y_move (v := .int _ _) rfl) ?_
      refine tl_y rfl (y_addN64 rfl rfl (by omega)) ?_
      refine tl_y rfl (y_assign (v := .int _ _) rfl) ?_
      refine tl_nil (.loop_next (m' := k + 1 - (c + 1)) (by omega) (F' := [(2, _), (3, _), (4, _), (7, _)]) (.cons rfl (.cons rfl (.cons rfl (.cons rfl .nil)))) ?_)
      exact ⟨c + 1, rfl, by omega, by omega, rfl, rfl, rfl, rfl⟩
    ·
      refine x_exit (.then_exit (.loop_exit (.block_exit (.then_normal ?_))))
      refine .sub (F' := [(3, _), (4, _)]) (.cons rfl (.cons rfl .nil)) ?_
      refine x_seq (x_region ?_)
      refine tl_y rfl (y_move (v := .slice _ _ _) rfl) ?_
      refine tl_y rfl (y_move (v := .int _ _) rfl) ?_
      refine tl_y rfl (y_addN64 rfl rfl (by omega)) ?_
      refine tl_y rfl (y_indexAddrK (k + 1) rfl rfl (by omega)) ?_
      refine tl_y rfl (y_load rfl rfl (.ownAt (b := b1) inferInstance (cntL_at (pw2 k) (by omega)))) ?_
      rw [hcn2]
      refine tl_y rfl (y_eql rfl rfl) ?_
      refine tl_y rfl (y_assign (v := .bool _) rfl) ?_
      refine tl_nil (.then_normal ?_)
      refine .sub (F' := [(2, _)]) (.cons rfl .nil) ?_
      refine x_ret (.dropTo L inferInstance (ret1 rfl rfl hM1 rfl))
theorem sumB_le {keys : List (List UInt8)} (hs : ∀ b ∈ keys, b.length ≤ 140737488355328) (k : Nat) : (keys.take k).flatten.length ≤ k * 140737488355328 := by
  have h4 := flat_le (keys := keys.take k) (fun b hb => hs b (List.mem_of_mem_take hb))
  have h5 : (keys.take k).length ≤ k := by rw [List.length_take]; omega
  exact Nat.le_trans h4 (by omega)
theorem WalkMay_spec (hg : WkG M) (t : TreeV) {NA : Option Addr} {nl nc : Nat} {name : List UInt8} (hname : Bytes M NA nl nc name) {KA : Option Addr} {kl kc : Nat} {kvs : List Value} {keys : List (List UInt8)} (hk : Row M 1 KA kl kc kvs) (hkb : BRows M kvs keys) (hs : ∀ b ∈ keys, b.length ≤ 140737488355328) :
    Con Tryd.prog 5 #[.agg (List.toArray t.cells), .slice NA nl nc, .slice KA kl kc] G M L (fun v M' L' => v = .bool true) noPanic := by
  have hmx := hk.max
  have hle := hk.le
  have hvl := hkb.len
  have hkn : kvs.length = kl := by have := hk.len; omega
  refine enter (args := [_, _, _]) (fn := Tryd.f5) ⟨Tryd.func5, rfl, by kernel_rfl, by kernel_rfl⟩ 89 rfl ?_
  refine x_seq (x_region ?_)
  refine tl_e rfl (e_box rfl (fun b1 => ?_))
  refine tl_y rfl (y_assign rfl) ?_
  refine tl_nil (.then_normal ?_)
  refine x_seq (x_seq (x_region ?_))
  refine tl_e rfl (e_call' rfl (awake24_spec hg) ?_)
  rintro _ M1 _ hM1 ⟨rfl, rfl⟩
  refine tl_y rfl (y_not rfl) ?_
  refine tl_nil (.then_normal ?_)
  refine x_false rfl (rfl) ?_
  refine x_skip (.then_normal ?_)
  refine .sub (F' := [(1, _), (2, _), (3, _)]) (.cons rfl (.cons rfl (.cons rfl .nil))) ?_
  refine x_seq (x_region ?_)
  refine tl_y rfl (y_assign rfl) ?_
  refine tl_nil (.then_normal ?_)
  refine x_seq (x_seq (x_region ?_))
  refine tl_y rfl (y_assign rfl) ?_
  refine tl_nil (.then_normal ?_)
  refine x_block ?_
  refine x_loop (I := fun m' F D M2 L2 => ∃ k : Nat, m' = min kl 101 - k ∧ k ≤ kl ∧ k ≤ 101 ∧ D = [] ∧ M1 = M2 ∧ (b1, .cells (List.toArray t.cells) 30 (0, 0)) :: L = L2 ∧ F = [(1, .slice NA nl nc), (2, .slice KA kl kc), (3, .pointer (some ⟨b1, 0, none⟩)), (7, .int .i64 ((keys.take k).flatten.length : Nat)), (8, .int .i64 k)]) (min kl 101) (F0 := [(1, _), (2, _), (3, _), (7, _), (8, _)]) ?_ (.cons rfl (.cons rfl (.cons rfl (.cons rfl (.cons rfl .nil))))) ?_  -- slots [1, 2, 3, 7, 8], written [7, 8]
  · exact ⟨0, rfl, by omega, by omega, rfl, rfl, rfl, rfl⟩
  rintro m _ _ _ _ ⟨k, rfl, hkl, hk101, rfl, rfl, rfl, rfl⟩
  refine x_seq ?_
  refine x_join (I := fun F D M2 L2 => ∃ b : Bool, (b = true ↔ (k < kl ∧ k ≤ 100)) ∧ D = [] ∧ M1 = M2 ∧ (b1, .cells (List.toArray t.cells) 30 (0, 0)) :: L = L2 ∧ F = [(1, .slice NA nl nc), (2, .slice KA kl kc), (3, .pointer (some ⟨b1, 0, none⟩)), (7, .int .i64 ((keys.take k).flatten.length : Nat)), (8, .int .i64 k), (21, .bool b)]) ?_ (fun Jq5 => ?_)
  ·
    rintro _ _ _ _ ⟨bb, hbb, rfl, rfl, rfl, rfl⟩  -- slots [1, 2, 3, 7, 8, 21]
    refine x_condb rfl (fun hc2 => ?_) (fun hc2 => ?_)
    ·
      have hkl2 := hbb.1 hc2
      obtain ⟨g, o, rfl, hcell⟩ := (hk.mono hM1).addr (by omega)
      obtain ⟨A2, n2, c2, hv2, hb2⟩ := hkb.get k (by omega)
      have hn2 := hb2.size
      have hn2' := hs _ (getD_mem keys k [] (by omega))
      have hf2 : (keys.take (k + 1)).flatten = (keys.take k).flatten ++ keys.getD k [] := by
        rw [take_snoc keys k [] (by omega), List.flatten_append, List.flatten_singleton]
      have hf3 : (keys.take (k + 1)).flatten.length = (keys.take k).flatten.length + n2 := by rw [hf2, List.length_append, hn2]
      have hf4 := sumB_le hs k
      have hf5 := sumB_le hs (k + 1)
      refine x_skip (.then_normal ?_)
      refine x_seq ?_
      refine x_block ?_
      refine x_region ?_
      refine tl_y rfl (y_move (v := .int _ _) rfl) ?_
      refine tl_y rfl (y_move (v := .slice _ _ _) rfl) ?_
      refine tl_y rfl (y_move (v := .int _ _) rfl) ?_
      refine tl_y rfl (y_indexAddr rfl rfl (by omega)) ?_
      refine tl_y rfl (y_load rfl rfl (.at_ (hcell _ k _ hv2) (by omega))) ?_
      refine tl_y rfl (y_len rfl) ?_
      refine tl_y rfl (y_addI rfl rfl (by omega)) ?_
      rw [show (((keys.take k).flatten.length : Nat) : Int) + (n2 : Int) = (((keys.take (k + 1)).flatten.length : Nat) : Int) by omega]
      refine tl_y rfl (y_assign (v := .int _ _) rfl) ?_
      refine tl_nil (.block_normal (.then_normal ?_))
      refine .sub (F' := [(1, _), (2, _), (3, _), (7, _), (8, _)]) (.cons rfl (.cons rfl (.cons rfl (.cons rfl (.cons rfl .nil))))) ?_
      refine x_region ?_
      refine tl_y rfl (y_move (v := .int _ _) rfl) ?_
      refine tl_y rfl (y_addI rfl rfl (by omega)) ?_
      refine tl_y rfl (y_assign (v := .int _ _) rfl) ?_
      refine tl_nil (.loop_next (m' := min kl 101 - (k + 1)) (by omega) (F' := [(1, _), (2, _), (3, _), (7, _), (8, _)]) (.cons rfl (.cons rfl (.cons rfl (.cons rfl (.cons rfl .nil))))) ?_)
      exact ⟨k + 1, rfl, by omega, by omega, rfl, rfl, rfl, rfl⟩
    ·
      have hkend : ¬ (k < kl ∧ k ≤ 100) := fun h => by rw [hbb.2 h] at hc2; cases hc2
      refine x_exit (.then_exit (.loop_exit (.block_exit (.then_normal ?_))))
      refine x_seq ?_
      refine x_join (I := fun F D M2 L2 => ∃ b : Bool, (b = true ↔ (kl > 100 ∨ (keys.take k).flatten.length > 40000 ∨ nl > 100)) ∧ D = [] ∧ M1 = M2 ∧ (b1, .cells (List.toArray t.cells) 30 (0, 0)) :: L = L2 ∧ F = [(1, .slice NA nl nc), (2, .slice KA kl kc), (3, .pointer (some ⟨b1, 0, none⟩)), (42, .bool b)]) ?_ (fun Jq8 => ?_)
      ·
        rintro _ _ _ _ ⟨b8, hb8, rfl, rfl, rfl, rfl⟩  -- slots [1, 2, 3, 42]
        refine x_condb rfl (fun hc3 => ?_) (fun hc3 => ?_)
        ·
          refine x_seq (x_region ?_)
          refine tl_y rfl (y_assign rfl) ?_
          refine tl_nil (.then_normal ?_)
          refine .sub (F' := [(6, _)]) (.cons rfl .nil) ?_
          refine x_ret (.then_ret (ret1 rfl rfl hM1 rfl))
        ·
          have hsm : ¬ (kl > 100 ∨ (keys.take k).flatten.length > 40000 ∨ nl > 100) := fun h => by rw [hb8.2 h] at hc3; cases hc3
          have hks : ∀ b ∈ keys, b.length ≤ 1000000000000 := fun b hb => by
            have h1 := mem_flat hb
            rw [List.take_of_length_le (by omega)] at hsm
            omega
          refine x_skip (.then_normal ?_)
          refine x_seq (x_region ?_)
          refine tl_y rfl (y_loadAgg rfl rfl (.own inferInstance inferInstance)) ?_
          refine tl_y rfl (y_move (v := .slice _ _ _) rfl) ?_
          refine tl_y rfl (y_move (v := .slice _ _ _) rfl) ?_
          refine tl_e rfl (e_call' rfl (WNew_spec (hg.mono hM1) t (hname.mono hM1) (Row.in_ (hk.mono hM1)) (brows_in (hkb.mono hM1)) (by omega) hks) ?_)
          rintro v2 M2 L2 hM2 h2
          obtain ⟨pw, ew, E, rfl, hpw, hew, rfl, hW⟩ : ∃ (pw : Option Addr) (ew : Int) (E : Own), v2 = .tuple #[.pointer pw, .int .i64 ew] ∧ pw.isNone = !(decide (okM t nl kl)) ∧ ew = (if okM t nl kl then 0 else 1) ∧ L2 = E ++ ((b1, .cells (List.toArray t.cells) 30 (0, 0)) :: L) ∧ (okM t nl kl → ∃ b, pw = some ⟨b, 0, none⟩ ∧ WalkS M2 t t.h.toNat name keys b 0 E) := by
            by_cases hok : okM t nl kl
            · rw [if_pos hok] at h2
              obtain ⟨b, E, rfl, hW, rfl⟩ := h2
              exact ⟨_, _, E, rfl, by simp [hok], by rw [if_pos hok], rfl, fun _ => ⟨b, rfl, hW⟩⟩
            · rw [if_neg hok] at h2
              obtain ⟨rfl, rfl⟩ := h2
              exact ⟨_, _, [], rfl, by simp [hok], by rw [if_neg hok], rfl, fun h => absurd h hok⟩
          have hd := hM1.trans hM2
          refine tl_y rfl (y_move (v := .tuple _) rfl) ?_
          refine tl_y rfl (y_extract rfl) ?_
          refine tl_y rfl (y_extract rfl) ?_
          refine tl_y rfl (y_assign (v := .pointer _) rfl) ?_
          refine tl_y rfl (y_assign (v := .int _ _) rfl) ?_
          refine tl_nil (.then_normal ?_)
          refine .sub (F' := [(1, _), (2, _), (3, _), (9, _), (10, _)]) (.cons rfl (.cons rfl (.cons rfl (.cons rfl (.cons rfl .nil))))) ?_
          refine x_seq (x_region ?_)
          refine tl_y rfl (y_loadAgg rfl rfl (.own inferInstance inferInstance)) ?_
          refine tl_y rfl (y_move (v := .slice _ _ _) rfl) ?_
          refine tl_y rfl (y_move (v := .slice _ _ _) rfl) ?_
          refine tl_e rfl (e_call' rfl (RMay_spec t (by omega)) ?_)
          rintro _ _ _ _ ⟨rfl, rfl, rfl⟩
          refine tl_y rfl (y_assign (v := .bool _) rfl) ?_
          refine tl_nil (.then_normal ?_)
          refine .sub (F' := [(1, _), (2, _), (3, _), (9, _), (10, _), (11, _)]) (.cons rfl (.cons rfl (.cons rfl (.cons rfl (.cons rfl (.cons rfl .nil)))))) ?_
          refine x_seq (x_seq (x_region ?_))
          refine tl_y rfl (y_move (v := .pointer _) rfl) ?_
          refine tl_y rfl (y_neNilPtr rfl rfl) ?_
          refine tl_y rfl (y_move (v := .bool _) rfl) ?_
          refine tl_y rfl (y_neqBool rfl rfl) ?_
          refine tl_y rfl (y_move (v := .bool _) rfl) ?_
          refine tl_set (s := 58) (u := .bool false) rfl (by rw [hpw]; simp) ?_
          refine tl_y rfl (y_loadAgg rfl rfl (.own inferInstance inferInstance)) ?_
          refine tl_y rfl (y_move (v := .slice _ _ _) rfl) ?_
          refine tl_y rfl (y_move (v := .slice _ _ _) rfl) ?_
          refine tl_e rfl (e_call' rfl (May_spec (hg.mono hd).mr t (by omega)) ?_)
          rintro _ M3 _ hM3 ⟨rfl, rfl⟩
          replace hd := hd.trans hM3
          refine tl_y rfl (y_move (v := .bool _) rfl) ?_
          refine tl_y rfl (y_neqBool rfl rfl) ?_
          refine tl_y rfl (y_pickF rfl rfl) ?_
          refine tl_nil (.then_normal ?_)
          refine .sub (F' := [(3, _), (9, _), (10, _), (11, _), (65, _)]) (.cons rfl (.cons rfl (.cons rfl (.cons rfl (.cons rfl .nil))))) ?_
          refine x_false rfl (by simp) ?_
          refine x_skip (.then_normal ?_)
          refine x_seq (x_seq (x_region ?_))
          refine tl_y rfl (y_move (v := .bool _) rfl) ?_
          refine tl_y rfl (y_notd rfl) ?_
          refine tl_nil (.then_normal ?_)
          refine x_cond rfl (fun hc5 => ?_) (fun hc5 => ?_)
          ·
            refine x_seq (x_region ?_)
            refine tl_y rfl (y_move (v := .int _ _) rfl) ?_
            refine tl_y rfl (y_eql rfl rfl) ?_
            refine tl_y rfl (y_assign (v := .bool _) rfl) ?_
            refine tl_nil (.then_normal ?_)
            refine .sub (F' := [(6, _)]) (.cons rfl .nil) ?_
            refine x_ret (.then_ret (.dropTo L inferInstance (ret1 rfl rfl hd (by rw [hew, if_neg hc5]; rfl))))
          ·
            have hok : okM t nl kl := Classical.not_not.1 hc5
            obtain ⟨b, rfl, hWb⟩ := hW hok
            obtain ⟨hokc, H, hH, hH1, hH25, hlv⟩ := okS_facts hok.1
            have hH10 := hok.2.1
            have hp1 := pw2_pos H
            rw [if_pos hok] at hew
            subst hew
            rw [hH, Int.toNat_natCast] at hWb
            refine x_skip (.then_normal ?_)
            refine .sub (F' := [(3, _), (9, _), (10, _)]) (.cons rfl (.cons rfl (.cons rfl .nil))) ?_
            refine x_seq ?_
            refine x_draw0 20 ([(b1, .cells (List.toArray t.cells) 30 (0, 0))]) Keeps.mem hmix rfl ?_
            refine to_p 0 rfl (by kernel_rfl) rfl (y_move (v := .int _ _) rfl) ?_
            refine to_p 1 rfl (by kernel_rfl) rfl (y_eql rfl rfl) ?_
            refine to_p 2 rfl (by kernel_rfl) rfl (y_move (v := .bool _) rfl) ?_
            refine to_set (s := 72) (u := .bool true) rfl (rfl) ?_
            refine to_p 3 rfl (by kernel_rfl) rfl (y_move (v := .pointer _) rfl) ?_
            refine to_e 4 rfl (by kernel_rfl) rfl (e_call' rfl (Made_spec (hWb.mono hM3)) ?_)
            rintro _ _ _ _ ⟨rfl, rfl, rfl⟩
            refine ⟨⟨(by first | exact Le.refl _ | assumption), Keeps.mem⟩, ?_⟩
            refine to_p 5 rfl (by kernel_rfl) rfl (y_eql rfl rfl) ?_
            refine to_p 6 rfl (by kernel_rfl) rfl (y_pickT rfl rfl) ?_
            refine to_p 7 rfl (by kernel_rfl) rfl (y_move (v := .bool _) rfl) ?_
            refine to_set (s := 77) (u := .bool true) rfl (rfl) ?_
            refine to_p 8 rfl (by kernel_rfl) rfl (y_move (v := .pointer _) rfl) ?_
            refine to_e 9 rfl (by kernel_rfl) rfl (e_call' rfl (Skip_spec (hg.mono hd) hH (by omega) hks (Nat.zero_le _) (hWb.mono hM3) 1 (by omega)) ?_)
            rintro _ M4 _ hM4 ⟨rfl, E4, rfl, hW4⟩
            rw [show min (1 : Int).toNat (pw2 H - 0) = 1 by omega] at hW4 ⊢
            refine ⟨⟨(by first | exact Le.refl _ | assumption), Keeps.mem⟩, ?_⟩
            refine to_p 10 rfl (by kernel_rfl) rfl (y_eql rfl rfl) ?_
            refine to_p 11 rfl (by kernel_rfl) rfl (y_pickT rfl rfl) ?_
            refine to_p 12 rfl (by kernel_rfl) rfl (y_move (v := .bool _) rfl) ?_
            refine to_set (s := 82) (u := .bool true) rfl (rfl) ?_
            refine to_p 13 rfl (by kernel_rfl) rfl (y_move (v := .pointer _) rfl) ?_
            refine to_p 15 rfl (by kernel_rfl) rfl (y_fieldAddr rfl) ?_
            refine to_y 16 rfl (by kernel_rfl) rfl (y_load rfl rfl (.own inferInstance inferInstance)) ?_
            refine to_e 14 rfl (by kernel_rfl) rfl (e_call' rfl (Made_spec hW4) ?_)
            rintro _ _ _ _ ⟨rfl, rfl, rfl⟩
            refine ⟨⟨(by first | exact Le.refl _ | assumption), Keeps.mem⟩, ?_⟩
            refine to_p 17 rfl (by kernel_rfl) rfl (y_eql rfl rfl) ?_
            refine to_p 18 rfl (by kernel_rfl) rfl (y_pickT rfl rfl) ?_
            refine to_p 19 rfl (by kernel_rfl) rfl (y_assign (v := .bool _) rfl) ?_
            refine to_nil (by kernel_rfl) (.then_normal ?_)
            refine .sub (F' := [(6, _)]) (.cons rfl .nil) ?_
            refine x_ret (.dropTo L inferInstance (ret1 rfl rfl (hd.trans hM4) (by rw [hH, show madeN H (0 + 1) = H by rw [madeN, madeN, sumsN, if_pos rfl, Nat.zero_add]]; simp)))
      ·
        refine x_region ?_
        refine tl_y rfl (y_move (v := .slice _ _ _) rfl) ?_
        refine tl_y rfl (y_len rfl) ?_
        refine tl_y rfl (y_gtr rfl rfl) ?_
        refine tl_y rfl (y_move (v := .bool _) rfl) ?_
        refine tl_cases (s := 34) rfl (fun hk5 => ?_) (fun hk5 => ?_)
        ·
          refine tl_skip rfl ?_
          refine tl_skip rfl ?_
          refine tl_y rfl (y_pickT rfl rfl) ?_
          refine tl_y rfl (y_move (v := .bool _) rfl) ?_
          refine tl_skip rfl ?_
          refine tl_skip rfl ?_
          refine tl_skip rfl ?_
          refine tl_y rfl (y_pickT rfl rfl) ?_
          refine tl_nil (.then_normal (.sub (F' := [(1, _), (2, _), (3, _), (42, _)]) (.cons rfl (.cons rfl (.cons rfl (.cons rfl .nil)))) (Jq8 _ _ _ _ ?_)))
          exact ⟨_, by
            constructor
            · intro ht
              first | omega | (simp at ht; omega)
            · intro h
              first | rfl | (simp; omega) | (exfalso; omega), rfl, rfl, rfl, rfl⟩
        ·
          refine tl_y rfl (y_move (v := .int _ _) rfl) ?_
          refine tl_y rfl (y_gtr rfl rfl) ?_
          refine tl_y rfl (y_pickF rfl rfl) ?_
          refine tl_y rfl (y_move (v := .bool _) rfl) ?_
          refine tl_cases (s := 38) rfl (fun hk6 => ?_) (fun hk6 => ?_)
          ·
            refine tl_skip rfl ?_
            refine tl_skip rfl ?_
            refine tl_skip rfl ?_
            refine tl_y rfl (y_pickT rfl rfl) ?_
            refine tl_nil (.then_normal (.sub (F' := [(1, _), (2, _), (3, _), (42, _)]) (.cons rfl (.cons rfl (.cons rfl (.cons rfl .nil)))) (Jq8 _ _ _ _ ?_)))
            exact ⟨_, by
              constructor
              · intro ht
                first | omega | (simp at ht; omega)
              · intro h
                first | rfl | (simp; omega) | (exfalso; omega), rfl, rfl, rfl, rfl⟩
          ·
            refine tl_y rfl (y_move (v := .slice _ _ _) rfl) ?_
            refine tl_y rfl (y_len rfl) ?_
            refine tl_y rfl (y_gtr rfl rfl) ?_
            refine tl_y rfl (y_pickF rfl rfl) ?_
            refine tl_nil (.then_normal (.sub (F' := [(1, _), (2, _), (3, _), (42, _)]) (.cons rfl (.cons rfl (.cons rfl (.cons rfl .nil)))) (Jq8 _ _ _ _ ?_)))
            exact ⟨_, by
              constructor
              · intro ht
                first | omega | (simp at ht; omega)
              · intro h
                first | rfl | (simp; omega) | (exfalso; omega), rfl, rfl, rfl, rfl⟩
  ·
    refine x_region ?_
    refine tl_y rfl (y_move (v := .int _ _) rfl) ?_
    refine tl_y rfl (y_move (v := .slice _ _ _) rfl) ?_
    refine tl_y rfl (y_len rfl) ?_
    refine tl_y rfl (y_lss rfl rfl) ?_
    refine tl_y rfl (y_move (v := .bool _) rfl) ?_
    refine tl_cases (s := 18) rfl (fun hk7 => ?_) (fun hk7 => ?_)
    ·
      refine tl_y rfl (y_move (v := .int _ _) rfl) ?_
      refine tl_y rfl (y_leq rfl rfl) ?_
      refine tl_y rfl (y_pickT rfl rfl) ?_
      refine tl_nil (.then_normal (.sub (F' := [(1, _), (2, _), (3, _), (7, _), (8, _), (21, _)]) (.cons rfl (.cons rfl (.cons rfl (.cons rfl (.cons rfl (.cons rfl .nil)))))) (Jq5 _ _ _ _ ?_)))
      exact ⟨_, by
        constructor
        · intro ht
          first | (cases ht; done) | (simp at ht; omega)
        · rintro ⟨a1, a2⟩
          first | (simp; omega) | (exfalso; omega), rfl, rfl, rfl, rfl⟩
    ·
      refine tl_skip rfl ?_
      refine tl_skip rfl ?_
      refine tl_y rfl (y_pickF rfl rfl) ?_
      refine tl_nil (.then_normal (.sub (F' := [(1, _), (2, _), (3, _), (7, _), (8, _), (21, _)]) (.cons rfl (.cons rfl (.cons rfl (.cons rfl (.cons rfl (.cons rfl .nil)))))) (Jq5 _ _ _ _ ?_)))
      exact ⟨_, by
        constructor
        · intro ht
          first | (cases ht; done) | (simp at ht; omega)
        · rintro ⟨a1, a2⟩
          first | (simp; omega) | (exfalso; omega), rfl, rfl, rfl, rfl⟩
end
end Go.Proofs.YtbjnjedfoiedeaaDoor
set_option linter.unusedVariables false
set_option linter.unusedSimpArgs false
set_option linter.constructorNameAsVariable false
namespace Go.Proofs.YtbjnjedfoiedeaaDoor
open Go Go.Eng
/-- What Next tells, both ways at once. -/
theorem next_uni {t : TreeV} {H p b : Nat} {name : List UInt8} {keys : List (List UInt8)} {v : Value} {M' : Mem} {L' R : Own}
    (h : if p < pw2 H then
        ∃ A c vs E1 E2 E', v = .tuple #[.int .u32 (p : Int), .slice A H c, .bool true] ∧ OwnRow 22 1 A H c vs E1 ∧ OwnBs vs (wayB t name keys p H) E2 ∧ WalkS M' t H name keys b (p + 1) E' ∧ L' = E1 ++ (E2 ++ (E' ++ R))
      else v = .tuple #[.int .u32 0, .slice none 0 0, .bool false] ∧ ∃ E', WalkS M' t H name keys b p E' ∧ L' = E' ++ R) :
    ∃ (qv n : Nat) (A : Option Addr) (c : Nat) (vs : List Value) (E1 E2 E' : Own), v = .tuple #[.int .u32 (qv : Int), .slice A n c, .bool (decide (p < pw2 H))] ∧ L' = E1 ++ (E2 ++ (E' ++ R)) ∧ WalkS M' t H name keys b (if p < pw2 H then p + 1 else p) E' ∧
      (p < pw2 H → qv = p ∧ n = H ∧ OwnRow 22 1 A H c vs E1 ∧ OwnBs vs (wayB t name keys p H) E2) ∧ (¬ p < pw2 H → qv = 0 ∧ n = 0) := by
  by_cases hp : p < pw2 H
  · rw [if_pos hp] at h
    obtain ⟨A, c, vs, E1, E2, E', rfl, h1, h2, h3, rfl⟩ := h
    exact ⟨p, H, A, c, vs, E1, E2, E', by rw [decide_eq_true hp], rfl, by rw [if_pos hp]; exact h3, fun _ => ⟨rfl, rfl, h1, h2⟩, fun h => absurd hp h⟩
  · rw [if_neg hp] at h
    obtain ⟨rfl, E', h3, rfl⟩ := h
    exact ⟨0, 0, none, 0, [], [], [], E', by rw [decide_eq_false hp]; rfl, rfl, by rw [if_neg hp]; exact h3, fun h => absurd h hp, fun _ => ⟨rfl, rfl⟩⟩
section
variable {G : World} {M : Mem} {L : Own}
abbrev lawL (b1 b2 : Nat) (code : UInt8) (NA : Option Addr) (nl nc : Nat) (WA : Option Addr) (wl wc : Nat) (t : TreeV) (L : Own) : Own :=
  (b2, .cells (List.toArray t.cells) 30 (0, 0)) :: (b1, .cells (List.toArray [.int .u8 (code.toNat : Int), .slice NA nl nc, .slice WA wl wc]) 25 (0, 0)) :: L
theorem tmod5 (x : Int) : -4 ≤ x.tmod 5 ∧ x.tmod 5 ≤ 4 := by
  rcases Int.le_total 0 x with h | h
  · rw [Int.tmod_eq_emod_of_nonneg h]; omega
  · have := Int.neg_tmod (-x) 5
    rw [Int.neg_neg] at this
    rw [this, Int.tmod_eq_emod_of_nonneg (by omega)]; omega
theorem WalkTells_spec (hg : WkG M) (code : UInt8) {NA : Option Addr} {nl nc : Nat} {name : List UInt8} (hname : Bytes M NA nl nc name) {WA : Option Addr} {wl wc : Nat} {wvs : List Value} {keys : List (List UInt8)} (h : Row M 1 WA wl wc wvs) (hw : BRows M wvs keys)
    {SA : Option Addr} {sn sc : Nat} {xs : List Int} (hsk : Row M 1 SA sn sc (xs.map (Value.int .i8))) (hx8 : ∀ x ∈ xs, -128 ≤ x ∧ x ≤ 127) :
    Con Tryd.prog 3 #[.agg (List.toArray [.int .u8 (code.toNat : Int), .slice NA nl nc, .slice WA wl wc]), .slice SA sn sc] G M L (fun v M' L' => v = .bool true) noPanic := by
  have hsx := hsk.max
  have hsle := hsk.le
  have hxl : xs.length = sn := by have := hsk.len; simpa using this
  refine enter (args := [_, _]) (fn := Tryd.f3) ⟨Tryd.func3, rfl, by kernel_rfl, by kernel_rfl⟩ 150 rfl ?_
  refine x_seq (x_region ?_)
  refine tl_e rfl (e_box rfl (fun b1 => ?_))
  refine tl_y rfl (y_assign rfl) ?_
  refine tl_nil (.then_normal ?_)
  refine x_seq (x_seq (x_region ?_))
  refine tl_e rfl (e_call' rfl (awake24_spec hg) ?_)
  rintro _ M1 _ hM1 ⟨rfl, rfl⟩
  have hm := hM1
  refine tl_y rfl (y_not rfl) ?_
  refine tl_nil (.then_normal ?_)
  refine x_false rfl (rfl) ?_
  refine x_skip (.then_normal ?_)
  refine x_seq (x_region ?_)
  refine tl_y rfl (y_loadAgg rfl rfl (.own inferInstance inferInstance)) ?_
  refine tl_e rfl (e_call' rfl (wset_spec code (hname.mono hm) (h.mono hm) (hw.mono hm)) ?_)
  rintro _ _ _ _ ⟨rfl, rfl, t, ok, A1, n1, c1, A2, n2, c2, rfl, hset⟩
  refine tl_y rfl (y_move (v := .tuple _) rfl) ?_
  refine tl_y rfl (y_extract rfl) ?_
  refine tl_y rfl (y_extract rfl) ?_
  refine tl_y rfl (y_extract rfl) ?_
  refine tl_y rfl (y_extract rfl) ?_
  refine tl_e rfl (e_alloc (fun b2 => ?_))
  refine tl_e rfl (e_store rfl rfl (by rfl) (by rfl) inferInstance inferInstance inferInstance ?_)
  refine tl_y rfl (y_assign (v := .slice _ _ _) rfl) ?_
  refine tl_y rfl (y_assign (v := .slice _ _ _) rfl) ?_
  refine tl_y rfl (y_assign (v := .bool _) rfl) ?_
  refine tl_nil (.then_normal ?_)
  refine .sub (F' := [(1, _), (4, _), (5, _), (6, _), (7, _), (8, _)]) (.cons rfl (.cons rfl (.cons rfl (.cons rfl (.cons rfl (.cons rfl .nil)))))) ?_
  refine x_seq (x_seq (x_region ?_))
  refine tl_y rfl (y_move (v := .bool _) rfl) ?_
  refine tl_y rfl (y_not rfl) ?_
  refine tl_nil (.then_normal ?_)
  refine x_condb rfl (fun hc2 => ?_) (fun hc2 => ?_)
  ·
    refine x_seq (x_region ?_)
    refine tl_y rfl (y_assign rfl) ?_
    refine tl_nil (.then_normal ?_)
    refine .sub (F' := [(4, _)]) (.cons rfl .nil) ?_
    refine x_ret (.then_ret (ret1 rfl rfl hm rfl))
  ·
    obtain rfl : ok = true := by simpa using hc2
    obtain ⟨H, nm, vs2, ks, hok, hH, hH1, hH4, rfl, rfl, hn1, hr2, hb2, hle2⟩ := hset rfl
    obtain ⟨hokc, H', hH', _, _, hlv⟩ := okS_facts hok
    obtain rfl : H = H' := by omega
    have hokM : okM t 16 (pw2 H) := ⟨hok, by omega, hlv.symm⟩
    have hks : ∀ b ∈ ks, b.length ≤ 1000000000000 := fun b hb => Nat.le_trans (hle2 b hb) (by omega)
    have hp4 := pw2_le (j := H) (k := 4) (by omega)
    rw [show pw2 4 = 16 from rfl] at hp4
    refine x_skip (.then_normal ?_)
    refine x_seq (x_region ?_)
    refine tl_y rfl (y_loadAgg rfl rfl (.own inferInstance inferInstance)) ?_
    refine tl_y rfl (y_move (v := .slice _ _ _) rfl) ?_
    refine tl_y rfl (y_move (v := .slice _ _ _) rfl) ?_
    refine tl_e rfl (e_call' rfl (WNew_spec (hg.mono hm) t hn1 (Row.in_ hr2) (brows_in hb2) (by omega) hks) ?_)
    rintro _ M2 _ hM2 h7
    rw [if_pos hokM] at h7
    obtain ⟨w, E7, rfl, hW7, rfl⟩ := h7
    rw [hH, Int.toNat_natCast] at hW7
    replace hm := hm.trans hM2
    refine tl_y rfl (y_move (v := .tuple _) rfl) ?_
    refine tl_y rfl (y_extract rfl) ?_
    refine tl_y rfl (y_extract rfl) ?_
    refine tl_y rfl (y_assign (v := .pointer _) rfl) ?_
    refine tl_y rfl (y_assign (v := .int _ _) rfl) ?_
    refine tl_nil (.then_normal ?_)
    refine .sub (F' := [(1, _), (4, _), (5, _), (6, _), (7, _), (9, _), (10, _)]) (.cons rfl (.cons rfl (.cons rfl (.cons rfl (.cons rfl (.cons rfl (.cons rfl .nil))))))) ?_
    refine x_seq (x_seq (x_region ?_))
    refine tl_y rfl (y_move (v := .pointer _) rfl) ?_
    refine tl_y rfl (y_eqNilPtr rfl rfl) ?_
    refine tl_y rfl (y_move (v := .bool _) rfl) ?_
    refine tl_set (s := 40) (u := .bool false) rfl (rfl) ?_
    refine tl_y rfl (y_move (v := .int _ _) rfl) ?_
    refine tl_y rfl (y_neq rfl rfl) ?_
    refine tl_y rfl (y_pickF rfl rfl) ?_
    refine tl_nil (.then_normal ?_)
    refine .sub (F' := [(1, _), (4, _), (5, _), (6, _), (7, _), (9, _), (43, _)]) (.cons rfl (.cons rfl (.cons rfl (.cons rfl (.cons rfl (.cons rfl (.cons rfl .nil))))))) ?_
    refine x_false rfl (rfl) ?_
    refine x_skip (.then_normal ?_)
    refine x_seq (x_region ?_)
    refine tl_y rfl (y_assign rfl) ?_
    refine tl_nil (.then_normal ?_)
    refine x_seq (x_region ?_)
    refine tl_y rfl (y_assign rfl) ?_
    refine tl_nil (.then_normal ?_)
    refine x_seq (x_seq (x_region ?_))
    refine tl_y rfl (y_assign rfl) ?_
    refine tl_nil (.then_normal ?_)
    refine x_block ?_
    refine x_loop (I := fun m' F D M3 L3 => ∃ (i p : Nat) (E : Own), m' = 60 - i ∧ i ≤ 60 ∧ p ≤ pw2 H ∧ Le M2 M3 ∧ WalkS M3 t H nm ks w p E ∧ D = [] ∧ E ++ lawL b1 b2 code NA nl nc WA wl wc t L = L3 ∧ F = [(1, .slice SA sn sc), (4, .bool false), (5, .pointer (some ⟨b2, 0, none⟩)), (6, .slice A1 16 c1), (7, .slice A2 (pw2 H) c2), (9, .pointer (some ⟨w, 0, none⟩)), (11, .int .i64 (p : Int)), (12, .int .i64 ((madeN H p : Nat) : Int)), (13, .int .i64 (i : Int))]) (60) (F0 := [(1, _), (4, _), (5, _), (6, _), (7, _), (9, _), (11, _), (12, _), (13, _)]) ?_ (.cons rfl (.cons rfl (.cons rfl (.cons rfl (.cons rfl (.cons rfl (.cons rfl (.cons rfl (.cons rfl .nil))))))))) ?_  -- slots [1, 4, 5, 6, 7, 9, 11, 12, 13], written [4, 11, 12, 13]
    · exact ⟨0, 0, E7, rfl, by omega, by omega, Le.refl _, hW7, rfl, rfl, rfl⟩
    rintro m _ _ M3 _ ⟨i, p, E, rfl, hi, hp, he, hWp, rfl, rfl, rfl⟩
    have hm3 := hm.trans he
    have hmd3 := madeN_le H p
    have hmd4 : H * p ≤ 4 * 16 := Nat.mul_le_mul hH4 (by omega)
    refine x_seq ?_
    refine x_join (I := fun F D M4 L4 => ∃ b : Bool, (b = true ↔ (i < sn ∧ i < 60)) ∧ D = [] ∧ M3 = M4 ∧ E ++ lawL b1 b2 code NA nl nc WA wl wc t L = L4 ∧ F = [(1, .slice SA sn sc), (4, .bool false), (5, .pointer (some ⟨b2, 0, none⟩)), (6, .slice A1 16 c1), (7, .slice A2 (pw2 H) c2), (9, .pointer (some ⟨w, 0, none⟩)), (11, .int .i64 (p : Int)), (12, .int .i64 ((madeN H p : Nat) : Int)), (13, .int .i64 (i : Int)), (51, .bool b)]) ?_ (fun Jq12 => ?_)
    ·
      rintro _ _ _ _ ⟨bb, hbb, rfl, rfl, rfl, rfl⟩  -- slots [1, 4, 5, 6, 7, 9, 11, 12, 13, 51]
      refine x_condb rfl (fun hc4 => ?_) (fun hc4 => ?_)
      ·
        have hi2 := hbb.1 hc4
        obtain ⟨g, o, rfl, hcell⟩ := (hsk.mono hm3).addr (by omega)
        obtain ⟨x, hx⟩ : ∃ x, xs[i]? = some x := ⟨_, List.getElem?_eq_getElem (by omega)⟩
        have hx8' := hx8 x (List.mem_of_getElem? hx)
        have hxv : (xs.map (Value.int .i8))[i]? = some (.int .i8 x) := by rw [List.getElem?_map, hx]; rfl
        have hd5 := tmod5 x
        obtain ⟨d, hd⟩ : ∃ d, d = x.tmod 5 := ⟨_, rfl⟩
        rw [← hd] at hd5
        refine x_skip (.then_normal ?_)
        refine x_seq ?_
        refine x_block ?_
        refine x_seq (x_region ?_)
        refine tl_y rfl (y_move (v := .slice _ _ _) rfl) ?_
        refine tl_y rfl (y_move (v := .int _ _) rfl) ?_
        refine tl_y rfl (y_indexAddr rfl rfl (by omega)) ?_
        refine tl_y rfl (y_load rfl rfl (.at_ (hcell _ i _ hxv) (by omega))) ?_
        refine tl_y rfl (y_convI rfl (by omega)) ?_
        refine tl_y rfl (y_rem rfl rfl (by omega)) ?_
        rw [← hd]
        refine tl_y rfl (y_assign (v := .int _ _) rfl) ?_
        refine tl_nil (.then_normal ?_)
        refine .sub (F' := [(1, _), (4, _), (5, _), (6, _), (7, _), (9, _), (11, _), (12, _), (13, _), (14, _)]) (.cons rfl (.cons rfl (.cons rfl (.cons rfl (.cons rfl (.cons rfl (.cons rfl (.cons rfl (.cons rfl (.cons rfl .nil)))))))))) ?_
        refine x_seq (x_seq (x_region ?_))
        refine tl_y rfl (y_assign rfl) ?_
        refine tl_nil (.then_normal ?_)
        refine x_block ?_
        refine x_loop (I := fun m' F D M4 L4 => ∃ j : Nat, m' = pw2 H - (p + j) ∧ j ≤ d.toNat ∧ p + j ≤ pw2 H ∧ D = [] ∧ M3 = M4 ∧ E ++ lawL b1 b2 code NA nl nc WA wl wc t L = L4 ∧ F = [(1, .slice (some ⟨g, o, none⟩) sn sc), (4, .bool false), (5, .pointer (some ⟨b2, 0, none⟩)), (6, .slice A1 16 c1), (7, .slice A2 (pw2 H) c2), (9, .pointer (some ⟨w, 0, none⟩)), (11, .int .i64 ((p + j : Nat) : Int)), (12, .int .i64 ((madeN H (p + j) : Nat) : Int)), (13, .int .i64 (i : Int)), (14, .int .i64 (d - (j : Int))), (15, .int .i64 0)]) (pw2 H - p) (F0 := [(1, _), (4, _), (5, _), (6, _), (7, _), (9, _), (11, _), (12, _), (13, _), (14, _), (15, _)]) ?_ (.cons rfl (.cons rfl (.cons rfl (.cons rfl (.cons rfl (.cons rfl (.cons rfl (.cons rfl (.cons rfl (.cons rfl (.cons rfl .nil))))))))))) ?_  -- slots [1, 4, 5, 6, 7, 9, 11, 12, 13, 14, 15], written [11, 12, 14, 15]
        · exact ⟨0, rfl, by omega, by omega, rfl, rfl, rfl, by rw [show d - ((0 : Nat) : Int) = d by omega]; rfl⟩
        rintro m _ _ _ _ ⟨j, rfl, hj, hpj, rfl, rfl, rfl, rfl⟩
        refine x_seq ?_
        refine x_join (I := fun F D M4 L4 => ∃ b : Bool, (b = true ↔ (0 < d - (j : Int) ∧ p + j < pw2 H)) ∧ D = [] ∧ M3 = M4 ∧ E ++ lawL b1 b2 code NA nl nc WA wl wc t L = L4 ∧ F = [(1, .slice (some ⟨g, o, none⟩) sn sc), (4, .bool false), (5, .pointer (some ⟨b2, 0, none⟩)), (6, .slice A1 16 c1), (7, .slice A2 (pw2 H) c2), (9, .pointer (some ⟨w, 0, none⟩)), (11, .int .i64 ((p + j : Nat) : Int)), (12, .int .i64 ((madeN H (p + j) : Nat) : Int)), (13, .int .i64 (i : Int)), (14, .int .i64 (d - (j : Int))), (15, .int .i64 0), (68, .bool b)]) ?_ (fun Jq16 => ?_)
        ·
          rintro _ _ _ _ ⟨bc, hbc, rfl, rfl, rfl, rfl⟩  -- slots [1, 4, 5, 6, 7, 9, 11, 12, 13, 14, 15, 68]
          refine x_condb rfl (fun hc5 => ?_) (fun hc5 => ?_)
          ·
            have hj2 := hbc.1 hc5
            have hmd5 := madeN_le H (p + j)
            have hmd6 : H * (p + j) ≤ 4 * 16 := Nat.mul_le_mul hH4 (by omega)
            have hmd7 := sumsN_le H (p + j)
            refine x_skip (.then_normal ?_)
            refine x_seq ?_
            refine x_block ?_
            refine x_seq (x_region ?_)
            refine tl_y rfl (y_move (v := .int _ _) rfl) ?_
            refine tl_y rfl (y_loadAgg rfl rfl (.own inferInstance inferInstance)) ?_
            refine tl_y rfl (y_move (v := .int _ _) rfl) ?_
            refine tl_e rfl (e_call' rfl (lsums_spec t hH (p + j) (by omega)) ?_)
            rintro _ _ _ _ ⟨rfl, rfl, rfl⟩
            refine tl_y rfl (y_addI rfl rfl (by omega)) ?_
            refine tl_y rfl (y_assign (v := .int _ _) rfl) ?_
            refine tl_nil (.then_normal ?_)
            refine .sub (F' := [(1, _), (4, _), (5, _), (6, _), (7, _), (9, _), (11, _), (12, _), (13, _), (14, _), (15, _)]) (.cons rfl (.cons rfl (.cons rfl (.cons rfl (.cons rfl (.cons rfl (.cons rfl (.cons rfl (.cons rfl (.cons rfl (.cons rfl .nil))))))))))) ?_
            refine x_seq (x_region ?_)
            refine tl_y rfl (y_move (v := .int _ _) rfl) ?_
            refine tl_y rfl (y_addI rfl rfl (by omega)) ?_
            refine tl_y rfl (y_assign (v := .int _ _) rfl) ?_
            refine tl_nil (.then_normal ?_)
            refine x_seq (x_region ?_)
            refine tl_y rfl (y_move (v := .int _ _) rfl) ?_
            refine tl_y rfl (y_subI rfl rfl (by omega)) ?_
            refine tl_y rfl (y_assign (v := .int _ _) rfl) ?_
            refine tl_nil (.then_normal ?_)
            refine .sub (F' := [(1, _), (4, _), (5, _), (6, _), (7, _), (9, _), (11, _), (12, _), (13, _), (14, _), (15, _)]) (.cons rfl (.cons rfl (.cons rfl (.cons rfl (.cons rfl (.cons rfl (.cons rfl (.cons rfl (.cons rfl (.cons rfl (.cons rfl .nil))))))))))) ?_
            refine x_region ?_
            refine tl_y rfl (y_move (v := .int _ _) rfl) ?_
            refine tl_y rfl (y_subI rfl rfl (by omega)) ?_
            refine tl_y rfl (y_assign (v := .int _ _) rfl) ?_
            refine tl_nil (.block_normal (.then_normal ?_))
            refine x_region ?_
            refine tl_y rfl (y_move (v := .int _ _) rfl) ?_
            refine tl_y rfl (y_addI rfl rfl (by omega)) ?_
            refine tl_y rfl (y_assign (v := .int _ _) rfl) ?_
            refine tl_nil (.loop_next (m' := pw2 H - (p + (j + 1))) (by omega) (F' := [(1, _), (4, _), (5, _), (6, _), (7, _), (9, _), (11, _), (12, _), (13, _), (14, _), (15, _)]) (.cons rfl (.cons rfl (.cons rfl (.cons rfl (.cons rfl (.cons rfl (.cons rfl (.cons rfl (.cons rfl (.cons rfl (.cons rfl .nil))))))))))) ?_)
            exact ⟨j + 1, rfl, by omega, by omega, rfl, rfl, rfl, by
              rw [show p + (j + 1) = p + j + 1 by omega, madeN, show d - (((j + 1 : Nat)) : Int) = d - (j : Int) - 1 by omega]; rfl⟩
          ·
            have hjend : ¬ (0 < d - (j : Int) ∧ p + j < pw2 H) := fun h => by rw [hbc.2 h] at hc5; cases hc5
            have hjm : j = min d.toNat (pw2 H - p) := by omega
            have hmx1 : (if (0 : Int) > d then (0 : Int) else d) = (d.toNat : Int) := by split <;> omega
            have hmx2 : (if (0 : Int) > d - (j : Int) then (0 : Int) else d - (j : Int)) = ((d.toNat - j : Nat) : Int) := by split <;> omega
            refine x_exit (.then_exit (.loop_exit (.block_exit (.then_normal ?_))))
            refine x_seq (x_region ?_)
            refine tl_y rfl (y_move (v := .slice _ _ _) rfl) ?_
            refine tl_y rfl (y_move (v := .int _ _) rfl) ?_
            refine tl_y rfl (y_indexAddr rfl rfl (by omega)) ?_
            refine tl_y rfl (y_load rfl rfl (.at_ (hcell _ i _ hxv) (by omega))) ?_
            refine tl_y rfl (y_convI rfl (by omega)) ?_
            refine tl_y rfl (y_rem rfl rfl (by omega)) ?_
            refine tl_y rfl (y_max rfl rfl) ?_
            rw [← hd, hmx1]
            refine tl_y rfl (y_assign (v := .int _ _) rfl) ?_
            refine tl_nil (.then_normal ?_)
            refine .sub (F' := [(1, _), (4, _), (5, _), (6, _), (7, _), (9, _), (11, _), (12, _), (13, _), (14, _), (16, _)]) (.cons rfl (.cons rfl (.cons rfl (.cons rfl (.cons rfl (.cons rfl (.cons rfl (.cons rfl (.cons rfl (.cons rfl (.cons rfl .nil))))))))))) ?_
            refine x_seq (x_seq (x_region ?_))
            refine tl_y rfl (y_move (v := .pointer _) rfl) ?_
            refine tl_y rfl (y_move (v := .slice _ _ _) rfl) ?_
            refine tl_y rfl (y_move (v := .int _ _) rfl) ?_
            refine tl_y rfl (y_indexAddr rfl rfl (by omega)) ?_
            refine tl_y rfl (y_load rfl rfl (.at_ (hcell _ i _ hxv) (by omega))) ?_
            refine tl_y rfl (y_convI rfl (by omega)) ?_
            refine tl_y rfl (y_rem rfl rfl (by omega)) ?_
            rw [← hd]
            refine tl_e rfl (e_call' rfl (Skip_spec (hg.mono hm3) hH (by omega) hks hp hWp d (by omega)) ?_)
            rintro _ M5 _ hM5 ⟨rfl, E5, rfl, hW5⟩
            rw [← hjm] at hW5 ⊢
            refine tl_y rfl (y_move (v := .int _ _) rfl) ?_
            refine tl_y rfl (y_move (v := .int _ _) rfl) ?_
            refine tl_y rfl (y_max rfl rfl) ?_
            rw [hmx2]
            refine tl_y rfl (y_subI rfl rfl (by omega)) ?_
            refine tl_y rfl (y_neq rfl rfl) ?_
            refine tl_nil (.then_normal ?_)
            refine .sub (F' := [(1, _), (4, _), (5, _), (6, _), (7, _), (9, _), (11, _), (12, _), (13, _), (101, _)]) (.cons rfl (.cons rfl (.cons rfl (.cons rfl (.cons rfl (.cons rfl (.cons rfl (.cons rfl (.cons rfl (.cons rfl .nil)))))))))) ?_
            refine x_false rfl (decide_eq_false (by omega)) ?_
            refine x_skip (.then_normal ?_)
            refine x_seq (x_region ?_)
            refine tl_y rfl (y_move (v := .pointer _) rfl) ?_
            refine tl_e rfl (e_call' rfl (Next_spec (hg.mono (hm3.trans hM5)) hH (by omega) hks hpj hW5) ?_)
            rintro v6 M6 L6 hM6 h6
            obtain ⟨qv, n6, A6, c6, vs6, E6, F6, E8, rfl, rfl, hW8, hy, hn⟩ := next_uni h6
            have he6 := he.trans (hM5.trans hM6)
            have hm6 := hm.trans he6
            refine tl_y rfl (y_move (v := .tuple _) rfl) ?_
            refine tl_y rfl (y_extract rfl) ?_
            refine tl_y rfl (y_extract rfl) ?_
            refine tl_y rfl (y_extract rfl) ?_
            refine tl_y rfl (y_assign (v := .int _ _) rfl) ?_
            refine tl_y rfl (y_assign (v := .slice _ _ _) rfl) ?_
            refine tl_y rfl (y_assign (v := .bool _) rfl) ?_
            refine tl_nil (.then_normal ?_)
            refine .sub (F' := [(1, _), (4, _), (5, _), (6, _), (7, _), (9, _), (11, _), (12, _), (13, _), (17, _), (18, _), (19, _)]) (.cons rfl (.cons rfl (.cons rfl (.cons rfl (.cons rfl (.cons rfl (.cons rfl (.cons rfl (.cons rfl (.cons rfl (.cons rfl (.cons rfl .nil)))))))))))) ?_
            refine x_seq (x_seq (x_region ?_))
            refine tl_y rfl (y_move (v := .bool _) rfl) ?_
            refine tl_y rfl (y_move (v := .int _ _) rfl) ?_
            refine tl_y rfl (y_move (v := .slice _ _ _) rfl) ?_
            refine tl_y rfl (y_len rfl) ?_
            refine tl_y rfl (y_lss rfl rfl) ?_
            refine tl_y rfl (y_neqBool rfl rfl) ?_
            refine tl_nil (.then_normal ?_)
            refine .sub (F' := [(1, _), (4, _), (5, _), (6, _), (7, _), (9, _), (11, _), (12, _), (13, _), (17, _), (18, _), (19, _), (113, _)]) (.cons rfl (.cons rfl (.cons rfl (.cons rfl (.cons rfl (.cons rfl (.cons rfl (.cons rfl (.cons rfl (.cons rfl (.cons rfl (.cons rfl (.cons rfl .nil))))))))))))) ?_
            refine x_false rfl (by simp; omega) ?_
            refine x_skip (.then_normal ?_)
            refine x_seq (x_seq (x_region ?_))
            refine tl_y rfl (y_move (v := .bool _) rfl) ?_
            refine tl_y rfl (y_notd rfl) ?_
            refine tl_nil (.then_normal ?_)
            refine x_cond rfl (fun hc8 => ?_) (fun hc8 => ?_)
            ·
              obtain ⟨rfl, rfl⟩ := hn hc8
              rw [if_neg hc8] at hW8
              refine .dropTo (E8 ++ lawL b1 b2 code NA nl nc WA wl wc t L) inferInstance ?_
              refine x_seq (x_seq (x_region ?_))
              refine tl_y rfl (y_move (v := .int _ _) rfl) ?_
              refine tl_y rfl (y_neq rfl rfl) ?_
              refine tl_y rfl (y_move (v := .bool _) rfl) ?_
              refine tl_set (s := 118) (u := .bool false) rfl (rfl) ?_
              refine tl_y rfl (y_move (v := .slice _ _ _) rfl) ?_
              refine tl_y rfl (y_len rfl) ?_
              refine tl_y rfl (y_neq rfl rfl) ?_
              refine tl_y rfl (y_pickF rfl rfl) ?_
              refine tl_nil (.then_normal ?_)
              refine .sub (F' := [(1, _), (4, _), (5, _), (6, _), (7, _), (9, _), (11, _), (12, _), (13, _), (17, _), (18, _), (122, _)]) (.cons rfl (.cons rfl (.cons rfl (.cons rfl (.cons rfl (.cons rfl (.cons rfl (.cons rfl (.cons rfl (.cons rfl (.cons rfl (.cons rfl .nil)))))))))))) ?_
              refine x_false rfl (rfl) ?_
              refine x_skip (.then_normal ?_)
              refine x_exit (.then_exit (.block_exit (.then_normal ?_)))
              refine x_region ?_
              refine tl_y rfl (y_move (v := .int _ _) rfl) ?_
              refine tl_y rfl (y_addI rfl rfl (by omega)) ?_
              refine tl_y rfl (y_assign (v := .int _ _) rfl) ?_
              refine tl_nil (.loop_next (m' := 60 - (i + 1)) (by omega) (F' := [(1, _), (4, _), (5, _), (6, _), (7, _), (9, _), (11, _), (12, _), (13, _)]) (.cons rfl (.cons rfl (.cons rfl (.cons rfl (.cons rfl (.cons rfl (.cons rfl (.cons rfl (.cons rfl .nil))))))))) ?_)
              exact ⟨i + 1, p + j, E8, rfl, by omega, hpj, he6, hW8, rfl, rfl, rfl⟩
            ·
              have hlt : p + j < pw2 H := Classical.not_not.1 hc8
              obtain ⟨rfl, rfl, hrow, hbs⟩ := hy hlt
              rw [if_pos hlt] at hW8
              refine .pubRow hrow (fun M9 hM9 hrow9 => T.pubBs hbs (fun M10 hM10 hbs10 => ?_))
              have hm10 := hm6.trans (hM9.trans hM10)
              have he10 := he6.trans (hM9.trans hM10)
              have hmd5 := madeN_le n6 (p + j)
              have hmd6 : n6 * (p + j) ≤ 4 * 16 := Nat.mul_le_mul hH4 (by omega)
              have hmd7 := sumsN_le n6 (p + j)
              obtain ⟨z, hz⟩ : ∃ z : UInt32, z.toNat = p + j := ⟨UInt32.ofNat (p + j), by rw [UInt32.toNat_ofNat', Nat.mod_eq_of_lt (by omega)]⟩
              refine x_skip (.then_normal ?_)
              refine .sub (F' := [(1, _), (4, _), (5, _), (6, _), (7, _), (9, _), (11, _), (12, _), (13, _), (17, _), (18, _)]) (.cons rfl (.cons rfl (.cons rfl (.cons rfl (.cons rfl (.cons rfl (.cons rfl (.cons rfl (.cons rfl (.cons rfl (.cons rfl .nil))))))))))) ?_
              refine x_seq (x_region ?_)
              refine tl_y rfl (y_move (v := .int _ _) rfl) ?_
              refine tl_y rfl (y_loadAgg rfl rfl (.own inferInstance inferInstance)) ?_
              refine tl_y rfl (y_move (v := .int _ _) rfl) ?_
              refine tl_e rfl (e_call' rfl (lsums_spec t hH (p + j) (by omega)) ?_)
              rintro _ _ _ _ ⟨rfl, rfl, rfl⟩
              refine tl_y rfl (y_addI rfl rfl (by omega)) ?_
              rw [show ((madeN n6 (p + j) : Nat) : Int) + ((sumsN n6 (p + j) : Nat) : Int) = ((madeN n6 (p + j + 1) : Nat) : Int) by rw [madeN]; omega]
              rw [show ((p + j : Nat) : Int) = ((z.toNat : Nat) : Int) by rw [hz]]
              refine tl_y rfl (y_assign (v := .int _ _) rfl) ?_
              refine tl_nil (.then_normal ?_)
              refine .sub (F' := [(1, _), (4, _), (5, _), (6, _), (7, _), (9, _), (11, _), (12, _), (13, _), (17, _), (18, _)]) (.cons rfl (.cons rfl (.cons rfl (.cons rfl (.cons rfl (.cons rfl (.cons rfl (.cons rfl (.cons rfl (.cons rfl (.cons rfl .nil))))))))))) ?_
              refine x_seq (x_seq (x_region ?_))
              refine tl_y rfl (y_move (v := .int _ _) rfl) ?_
              refine tl_y rfl (y_convI rfl (by omega)) ?_
              refine tl_y rfl (y_move (v := .int _ _) rfl) ?_
              refine tl_y rfl (y_neq rfl rfl) ?_
              refine tl_y rfl (y_move (v := .bool _) rfl) ?_
              refine tl_set (s := 132) (u := .bool false) rfl (by simp) ?_
              refine tl_y rfl (y_move (v := .slice _ _ _) rfl) ?_
              refine tl_y rfl (y_loadAgg rfl rfl (.own inferInstance inferInstance)) ?_
              refine tl_y rfl (y_move (v := .slice _ _ _) rfl) ?_
              refine tl_y rfl (y_move (v := .slice _ _ _) rfl) ?_
              refine tl_y rfl (y_move (v := .int _ _) rfl) ?_
              refine tl_e rfl (e_call' rfl (RWay_spec t (hn1.mono (hM2.trans he10)) (hr2.mono (hM2.trans he10)) (hb2.mono (hM2.trans he10)) hks z) ?_)
              rintro _ M11 _ hM11 ⟨rfl, A11, m11, c11, vs11, rfl, hr11, hb11⟩
              rw [if_pos ⟨hokM, by omega⟩, hH, Int.toNat_natCast, hz] at hb11
              refine tl_e rfl (e_call' rfl (All_spec (hrow9.mono (hM10.trans hM11)) (hbs10.mono hM11) hr11 hb11 rfl) ?_)
              rintro _ _ _ _ ⟨rfl, rfl, rfl⟩
              refine tl_y rfl (y_not rfl) ?_
              refine tl_y rfl (y_pickF rfl rfl) ?_
              refine tl_y rfl (y_move (v := .bool _) rfl) ?_
              refine tl_set (s := 142) (u := .bool false) rfl (rfl) ?_
              refine tl_y rfl (y_move (v := .pointer _) rfl) ?_
              refine tl_e rfl (e_call' rfl (Made_spec (hW8.mono (hM9.trans (hM10.trans hM11)))) ?_)
              rintro _ _ _ _ ⟨rfl, rfl, rfl⟩
              refine tl_y rfl (y_move (v := .int _ _) rfl) ?_
              refine tl_y rfl (y_neq rfl rfl) ?_
              refine tl_y rfl (y_pickF rfl rfl) ?_
              refine tl_nil (.then_normal ?_)
              refine .sub (F' := [(1, _), (4, _), (5, _), (6, _), (7, _), (9, _), (11, _), (12, _), (13, _), (147, _)]) (.cons rfl (.cons rfl (.cons rfl (.cons rfl (.cons rfl (.cons rfl (.cons rfl (.cons rfl (.cons rfl (.cons rfl .nil)))))))))) ?_
              refine x_false rfl (decide_eq_false (fun h => h rfl)) ?_
              refine x_skip (.then_normal ?_)
              refine x_region ?_
              refine tl_y rfl (y_move (v := .int _ _) rfl) ?_
              refine tl_y rfl (y_addI rfl rfl (by omega)) ?_
              refine tl_y rfl (y_assign (v := .int _ _) rfl) ?_
              refine tl_nil (.block_normal (.then_normal ?_))
              refine x_region ?_
              refine tl_y rfl (y_move (v := .int _ _) rfl) ?_
              refine tl_y rfl (y_addI rfl rfl (by omega)) ?_
              refine tl_y rfl (y_assign (v := .int _ _) rfl) ?_
              refine tl_nil (.loop_next (m' := 60 - (i + 1)) (by omega) (F' := [(1, _), (4, _), (5, _), (6, _), (7, _), (9, _), (11, _), (12, _), (13, _)]) (.cons rfl (.cons rfl (.cons rfl (.cons rfl (.cons rfl (.cons rfl (.cons rfl (.cons rfl (.cons rfl .nil))))))))) ?_)
              exact ⟨i + 1, p + j + 1, E8, rfl, by omega, by omega, he10.trans hM11, hW8.mono (hM9.trans (hM10.trans hM11)), rfl, rfl, by rw [show ((z.toNat : Nat) : Int) + 1 = ((p + j + 1 : Nat) : Int) by omega]; rfl⟩
        ·
          refine x_region ?_
          refine tl_y rfl (y_move (v := .int _ _) rfl) ?_
          refine tl_y rfl (y_move (v := .int _ _) rfl) ?_
          refine tl_y rfl (y_lss rfl rfl) ?_
          refine tl_y rfl (y_move (v := .bool _) rfl) ?_
          refine tl_cases (s := 63) rfl (fun hk5 => ?_) (fun hk5 => ?_)
          ·
            refine tl_y rfl (y_move (v := .int _ _) rfl) ?_
            refine tl_y rfl (y_move (v := .slice _ _ _) rfl) ?_
            refine tl_y rfl (y_len rfl) ?_
            refine tl_y rfl (y_lss rfl rfl) ?_
            refine tl_y rfl (y_pickT rfl rfl) ?_
            refine tl_nil (.then_normal (.sub (F' := [(1, _), (4, _), (5, _), (6, _), (7, _), (9, _), (11, _), (12, _), (13, _), (14, _), (15, _), (68, _)]) (.cons rfl (.cons rfl (.cons rfl (.cons rfl (.cons rfl (.cons rfl (.cons rfl (.cons rfl (.cons rfl (.cons rfl (.cons rfl (.cons rfl .nil)))))))))))) (Jq16 _ _ _ _ ?_)))
            exact ⟨_, by
              constructor
              · intro ht
                first | (cases ht; done) | (simp at ht; omega)
              · rintro ⟨a1, a2⟩
                first | (simp; omega) | (exfalso; omega), rfl, rfl, rfl, rfl⟩
          ·
            refine tl_skip rfl ?_
            refine tl_skip rfl ?_
            refine tl_skip rfl ?_
            refine tl_skip rfl ?_
            refine tl_y rfl (y_pickF rfl rfl) ?_
            refine tl_nil (.then_normal (.sub (F' := [(1, _), (4, _), (5, _), (6, _), (7, _), (9, _), (11, _), (12, _), (13, _), (14, _), (15, _), (68, _)]) (.cons rfl (.cons rfl (.cons rfl (.cons rfl (.cons rfl (.cons rfl (.cons rfl (.cons rfl (.cons rfl (.cons rfl (.cons rfl (.cons rfl .nil)))))))))))) (Jq16 _ _ _ _ ?_)))
            exact ⟨_, by
              constructor
              · intro ht
                first | (cases ht; done) | (simp at ht; omega)
              · rintro ⟨a1, a2⟩
                first | (simp; omega) | (exfalso; omega), rfl, rfl, rfl, rfl⟩
      ·
        refine x_exit (.then_exit (.loop_exit (.block_exit (.then_normal ?_))))
        refine .sub (F' := []) .nil ?_
        refine x_seq (x_region ?_)
        refine tl_y rfl (y_assign rfl) ?_
        refine tl_nil (.then_normal ?_)
        refine x_ret (ret1 rfl rfl hm3 rfl)
    ·
      refine x_region ?_
      refine tl_y rfl (y_move (v := .int _ _) rfl) ?_
      refine tl_y rfl (y_move (v := .slice _ _ _) rfl) ?_
      refine tl_y rfl (y_len rfl) ?_
      refine tl_y rfl (y_lss rfl rfl) ?_
      refine tl_y rfl (y_move (v := .bool _) rfl) ?_
      refine tl_cases (s := 48) rfl (fun hk6 => ?_) (fun hk6 => ?_)
      ·
        refine tl_y rfl (y_move (v := .int _ _) rfl) ?_
        refine tl_y rfl (y_lss rfl rfl) ?_
        refine tl_y rfl (y_pickT rfl rfl) ?_
        refine tl_nil (.then_normal (.sub (F' := [(1, _), (4, _), (5, _), (6, _), (7, _), (9, _), (11, _), (12, _), (13, _), (51, _)]) (.cons rfl (.cons rfl (.cons rfl (.cons rfl (.cons rfl (.cons rfl (.cons rfl (.cons rfl (.cons rfl (.cons rfl .nil)))))))))) (Jq12 _ _ _ _ ?_)))
        exact ⟨_, by
          constructor
          · intro ht
            first | (cases ht; done) | (simp at ht; omega)
          · rintro ⟨a1, a2⟩
            first | (simp; omega) | (exfalso; omega), rfl, rfl, rfl, rfl⟩
      ·
        refine tl_skip rfl ?_
        refine tl_skip rfl ?_
        refine tl_y rfl (y_pickF rfl rfl) ?_
        refine tl_nil (.then_normal (.sub (F' := [(1, _), (4, _), (5, _), (6, _), (7, _), (9, _), (11, _), (12, _), (13, _), (51, _)]) (.cons rfl (.cons rfl (.cons rfl (.cons rfl (.cons rfl (.cons rfl (.cons rfl (.cons rfl (.cons rfl (.cons rfl .nil)))))))))) (Jq12 _ _ _ _ ?_)))
        exact ⟨_, by
          constructor
          · intro ht
            first | (cases ht; done) | (simp at ht; omega)
          · rintro ⟨a1, a2⟩
            first | (simp; omega) | (exfalso; omega), rfl, rfl, rfl, rfl⟩
end
end Go.Proofs.YtbjnjedfoiedeaaDoor
