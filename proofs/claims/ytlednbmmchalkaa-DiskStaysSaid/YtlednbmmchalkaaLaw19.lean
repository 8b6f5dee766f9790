/-
Contracts of functions, each proved by a walk through its code.
-/
import Derived.Test.YtlednbmmchalkaaDisk4
import Derived.Test.YtlednbmmchalkaaRef1
set_option linter.unusedVariables false
set_option linter.unusedSimpArgs false
namespace Go.Proofs.Ytlednbmmchalkaa
open Go Go.Eng
section
variable {G : World} {M : Mem} {L R : Own}
/-- The bytes of a row. -/
def rowB (c : UInt8) : Nat → List UInt8
  | 0 => []
  | n + 1 => rowB c n ++ [c + UInt8.ofNat n]
theorem rowB_length (c : UInt8) : ∀ n, (rowB c n).length = n
  | 0 => rfl
  | n + 1 => by simp [rowB, rowB_length c n]
theorem rowB_step (c : UInt8) (k n : Nat) (h : k < n) : ((rowB c k ++ List.replicate (n - k) 0).map bv).set k (bv (c + UInt8.ofNat k)) = (rowB c (k + 1) ++ List.replicate (n - (k + 1)) 0).map bv := by
  obtain ⟨d, rfl⟩ : ∃ d, n = k + 1 + d := ⟨n - (k + 1), by omega⟩
  rw [show k + 1 + d - k = d + 1 by omega, show k + 1 + d - (k + 1) = d by omega, List.replicate_succ]
  have hl := rowB_length c k
  rw [List.map_append, List.set_append_right _ _ (by simp [hl])]
  simp [hl, rowB]
theorem bv_add (c : UInt8) (k : Nat) : Value.int .u8 (IntKind.u8.wrap ((c.toNat : Int) + IntKind.u8.wrap (k : Int))) = bv (c + UInt8.ofNat k) := by
  have h : IntKind.u8.wrap ((c.toNat : Int) + IntKind.u8.wrap (k : Int)) = (((c + UInt8.ofNat k).toNat : Nat) : Int) := by
    rw [IntKind.wrap_u8, UInt8.toNat_add, IntKind.wrap_u8, UInt8.toNat_ofNat']
    omega
  unfold bv
  rw [h]
theorem row_spec (c : UInt8) (short : Bool) :
    Con Try.prog 12 #[.int .u8 c.toNat, .bool short] G M L (fun v M' L' => L = L' ∧ ∃ A, v = .slice A (if short then 63 else 64) (if short then 63 else 64) ∧ Bytes M' A (if short then 63 else 64) (if short then 63 else 64) (rowB c (if short then 63 else 64))) noPanic := by
  obtain ⟨n, hn⟩ : ∃ n : Nat, n = if short then 63 else 64 := ⟨_, rfl⟩
  have hn64 : n ≤ 64 := by rw [hn]; split <;> omega
  rw [← hn]
  refine enter (args := [_, _]) (fn := Try.f12) ⟨Try.func12, rfl, by kernel_rfl, by kernel_rfl⟩ 24 rfl ?_
  refine x_seq (x_region ?_)
  refine tl_y rfl (y_assign rfl) ?_
  refine tl_nil (.then_normal ?_)
  refine x_seq (x_region ?_)
  refine tl_y rfl (y_assign rfl) ?_
  refine tl_nil (.then_normal ?_)
  refine x_join (I := fun F D M1 L1 => D = [] ∧ M = M1 ∧ L = L1 ∧ F = [(0, .int .u8 c.toNat), (5, .int .i64 n)]) ?_ (fun Jj1 => ?_)
  ·
    rintro _ _ M1 L1 ⟨rfl, rfl, rfl, rfl⟩  -- slots [0, 5]
    refine x_seq (x_region ?_)
    refine tl_y rfl (y_move (v := .int _ _) rfl) ?_
    refine tl_e rfl (e_make1 rfl rfl (by omega) (by omega) (by omega) (by omega) (fun b1 => ?_))
    simp only [Int.toNat_natCast]
    refine tl_y rfl (y_assign (v := .slice _ _ _) rfl) ?_
    refine tl_nil (.then_normal ?_)
    refine x_seq (x_seq (x_region ?_))
    refine tl_y rfl (y_assign rfl) ?_
    refine tl_nil (.then_normal ?_)
    refine x_block ?_
    refine x_loop (I := fun m' F D M1 L1 => ∃ k : Nat, m' = n - k ∧ k ≤ n ∧ D = [] ∧ M = M1 ∧ L1 = (b1, .cells ((rowB c k ++ List.replicate (n - k) 0).map bv).toArray 5 (0, 0)) :: L ∧ F = [(0, .int .u8 c.toNat), (5, .int .i64 n), (6, .slice (some ⟨b1, 0, none⟩) n n), (7, .int .i64 k)]) (n) (F0 := [(0, _), (5, _), (6, _), (7, _)]) ?_ (.cons rfl (.cons rfl (.cons rfl (.cons rfl .nil)))) ?_  -- slots [0, 5, 6, 7], written [7]
    · exact ⟨0, rfl, by omega, rfl, rfl, by simp [rowB, bv], rfl⟩
    rintro m _ _ M1 L1 ⟨k, rfl, hk, rfl, rfl, rfl, rfl⟩
    refine x_seq (x_seq (x_region ?_))
    refine tl_y rfl (y_move (v := .int _ _) rfl) ?_
    refine tl_y rfl (y_move (v := .int _ _) rfl) ?_
    refine tl_y rfl (y_lss rfl rfl) ?_
    refine tl_nil (.then_normal ?_)
    refine x_cond rfl (fun hc1 => ?_) (fun hc1 => ?_)
    ·
      refine x_skip (.then_normal ?_)
      refine x_seq ?_
      refine x_block ?_
      refine x_region ?_
      refine tl_y rfl (y_move (v := .slice _ _ _) rfl) ?_
      refine tl_y rfl (y_move (v := .int _ _) rfl) ?_
      refine tl_y rfl (y_move (v := .int _ _) rfl) ?_
      refine tl_y rfl (y_move (v := .int _ _) rfl) ?_
      refine tl_y rfl (y_conv rfl) ?_
      refine tl_y rfl (y_add rfl rfl) ?_
      rw [bv_add]
      refine tl_y rfl (y_indexAddr rfl rfl (by omega)) ?_
      refine tl_e rfl (e_storeAt (c := (rowB c k ++ List.replicate (n - k) 0).map bv) (by simp; rfl) rfl rfl inferInstance (by simp [rowB_length]; omega) inferInstance ?_)
      refine tl_nil (.block_normal (.then_normal ?_))
      refine .sub (F' := [(0, _), (5, _), (6, _), (7, _)]) (.cons rfl (.cons rfl (.cons rfl (.cons rfl .nil)))) ?_
      refine x_region ?_
      refine tl_y rfl (y_move (v := .int _ _) rfl) ?_
      refine tl_y rfl (y_addI rfl rfl (by omega)) ?_
      refine tl_y rfl (y_assign (v := .int _ _) rfl) ?_
      refine tl_nil (.loop_next (m' := n - (k + 1)) (by omega) (F' := [(0, _), (5, _), (6, _), (7, _)]) (.cons rfl (.cons rfl (.cons rfl (.cons rfl .nil)))) ?_)
      exact ⟨k + 1, rfl, by omega, rfl, rfl, by rw [rowB_step c k n (by omega)], rfl⟩
    ·
      refine x_exit (.then_exit (.loop_exit (.block_exit (.then_normal ?_))))
      refine .sub (F' := [(6, _)]) (.cons rfl .nil) ?_
      refine x_seq (x_region ?_)
      refine tl_y rfl (y_move (v := .slice _ _ _) rfl) ?_
      refine tl_y rfl (y_assign (v := .slice _ _ _) rfl) ?_
      refine tl_nil (.then_normal ?_)
      obtain rfl : k = n := by omega
      refine x_ret (.pub b1 inferInstance fun M' hle hm => ret1 rfl rfl hle ⟨rfl, _, rfl, ?_⟩)
      rw [Nat.sub_self, List.replicate_zero, List.append_nil] at hm
      exact Row.whole hm (by simp [rowB_length]) (by omega)
  ·
    refine x_seq (x_region ?_)
    refine tl_y rfl (y_move (v := .bool _) rfl) ?_
    refine tl_nil (.then_normal ?_)
    refine x_condb rfl (fun hc2 => ?_) (fun hc2 => ?_)
    ·
      refine x_region ?_
      refine tl_y rfl (y_assign rfl) ?_
      refine tl_nil (.then_normal (.sub (F' := [(0, _), (5, _)]) (.cons rfl (.cons rfl .nil)) (Jj1 _ _ _ _ ?_)))
      exact ⟨rfl, rfl, rfl, by simp [hn, hc2]⟩
    ·
      refine x_skip (.then_normal (.sub (F' := [(0, _), (5, _)]) (.cons rfl (.cons rfl .nil)) (Jj1 _ _ _ _ ?_)))
      exact ⟨rfl, rfl, rfl, by simp [hn, hc2]⟩
theorem row64_spec (x : Int) (c : UInt8) (hx : x = c.toNat) :
    Con Try.prog 12 #[.int .u8 x, .bool false] G M L (fun v M' L' => L = L' ∧ ∃ A, v = .slice A 64 64 ∧ Bytes M' A 64 64 (rowB c 64)) noPanic := by
  subst hx
  have := row_spec (G := G) (M := M) (L := L) c false
  simpa using this
/-- The counts are within a bound. -/
def DS.within (S : DS) (B : Nat) : Prop := 0 ≤ S.count ∧ S.count ≤ B ∧ S.pend.length ≤ B
theorem within_fresh (n : Nat) : (fresh n).within 0 := ⟨by simp [fresh], by simp [fresh], by simp [fresh]⟩
theorem within_doing {S S2 : DS} {B : Nat} (h : S.within B) (h2 : S2.within (B + 1)) : (doingRes S S2).1.within (B + 1) := by
  obtain ⟨a, b, c⟩ := h
  unfold doingRes
  split
  · exact ⟨a, by show S.count ≤ _; omega, by show S.pend.length ≤ _; omega⟩
  · split
    · exact ⟨by show 0 ≤ S.count + 1; omega, by show S.count + 1 ≤ _; omega, by show S.pend.length ≤ _; omega⟩
    · split
      · exact ⟨by show 0 ≤ S.count + 1; omega, by show S.count + 1 ≤ _; omega, by show S.pend.length ≤ _; omega⟩
      · exact h2
theorem within_write {S : DS} {B : Nat} (h : S.within B) (i : Int) (bs : List UInt8) : (writeRes S i bs).1.within (B + 1) := by
  unfold writeRes
  obtain ⟨a, b, c⟩ := h
  split
  · exact ⟨a, by show S.count ≤ _; omega, by show S.pend.length ≤ _; omega⟩
  · exact within_doing ⟨a, b, c⟩ ⟨by show 0 ≤ S.count + 1; omega, by show S.count + 1 ≤ _; omega, by simp; omega⟩
theorem within_flush {S : DS} {B : Nat} (h : S.within B) : (flushRes S).1.within (B + 1) :=
  within_doing h ⟨by show 0 ≤ S.count + 1; have := h.1; omega, by show S.count + 1 ≤ _; have := h.2.1; omega, by simp [flushed]⟩
theorem within_up {S : DS} {B : Nat} (cs : List UInt8) (xs : List Int) (stop : Int) : (upped S cs xs stop).within B := ⟨by simp [upped], by simp [upped], by simp [upped]⟩
/-- The disks of the known answers. -/
def aS2 : DS := (writeRes (fresh 3) 1 (rowB 5 64)).1
def aS3 : DS := upped aS2 [42] [] 1
theorem aw1 : (writeRes (fresh 3) 1 (rowB 5 64)).2 = 0 := by kernel_rfl
theorem aw2 : aS2.count = 1 := by kernel_rfl
theorem aw3 : aS2.pend.length = 1 := by kernel_rfl
theorem aw4 : (readRes aS3 1).2 = 0 := by kernel_rfl
theorem aw5 : (readRes aS3 1).1.length = 64 := by kernel_rfl
theorem aw6 : (readRes aS3 1).1.getD 9 0 = 14 := by kernel_rfl
theorem aw7 : (readRes aS3 1).1.getD 10 0 = 0 := by kernel_rfl
theorem aw8 : (writeRes aS3 0 (rowB 1 64)).2 = 6 := by kernel_rfl
theorem awake_spec : Con Try.prog 8 #[] G M L (fun v M' L' => L = L' ∧ v = .bool true) noPanic := by
  refine enter (args := []) (fn := Try.f8) ⟨Try.func8, rfl, by kernel_rfl, by kernel_rfl⟩ 84 rfl ?_
  refine x_seq (x_region ?_)
  refine tl_y rfl (y_assign rfl) ?_
  refine tl_nil (.then_normal ?_)
  refine x_seq (x_region ?_)
  refine tl_e rfl (e_call' rfl (New_spec 3) ?_)
  intro _ M1 L1 hM1 hv
  rw [if_neg (by omega)] at hv
  obtain ⟨p, ⟨r1, hd1, rfl⟩, rfl⟩ := hv
  refine tl_y rfl (y_move (v := .tuple _) rfl) ?_
  refine tl_y rfl (y_extract rfl) ?_
  refine tl_y rfl (y_extract rfl) ?_
  refine tl_y rfl (y_assign (v := .pointer _) rfl) ?_
  refine tl_y rfl (y_assign (v := .int _ _) rfl) ?_
  refine tl_nil (.then_normal ?_)
  refine .sub (F' := [(1, _), (2, _)]) (.cons rfl (.cons rfl .nil)) ?_
  refine x_seq (x_region ?_)
  refine tl_e rfl (e_call' rfl (New_spec 257) ?_)
  intro _ M2 L2 hM2 hv
  rw [if_pos (by omega)] at hv
  obtain ⟨rfl, rfl, rfl⟩ := hv
  refine tl_y rfl (y_move (v := .tuple _) rfl) ?_
  refine tl_y rfl (y_extract rfl) ?_
  refine tl_y rfl (y_extract rfl) ?_
  refine tl_y rfl (y_assign (v := .pointer _) rfl) ?_
  refine tl_y rfl (y_assign (v := .int _ _) rfl) ?_
  refine tl_nil (.then_normal ?_)
  refine .sub (F' := [(1, _), (2, _), (4, _)]) (.cons rfl (.cons rfl (.cons rfl .nil))) ?_
  refine x_seq (x_seq (x_region ?_))
  refine tl_y rfl (y_move (v := .pointer _) rfl) ?_
  refine tl_y rfl (y_eqNilPtr rfl rfl) ?_
  refine tl_y rfl (y_move (v := .bool _) rfl) ?_
  refine tl_set (s := 21) (u := .bool false) rfl (rfl) ?_
  refine tl_y rfl (y_move (v := .int _ _) rfl) ?_
  refine tl_y rfl (y_neq rfl rfl) ?_
  refine tl_y rfl (y_pickF rfl rfl) ?_
  refine tl_y rfl (y_move (v := .bool _) rfl) ?_
  refine tl_set (s := 25) (u := .bool false) rfl (rfl) ?_
  refine tl_y rfl (y_move (v := .int _ _) rfl) ?_
  refine tl_y rfl (y_neq rfl rfl) ?_
  refine tl_y rfl (y_pickF rfl rfl) ?_
  refine tl_nil (.then_normal ?_)
  refine .sub (F' := [(1, _), (28, _)]) (.cons rfl (.cons rfl .nil)) ?_
  refine x_false rfl (rfl) ?_
  refine x_skip (.then_normal ?_)
  refine x_seq (x_region ?_)
  refine tl_y rfl (y_move (v := .pointer _) rfl) ?_
  refine tl_e rfl (e_call' rfl (row64_spec 5 5 rfl) ?_)
  rintro _ M3 L3 hM3 ⟨rfl, A3, rfl, hA3⟩
  refine tl_e rfl (e_call' rfl (Write_spec (hd1.mono hM3) (by simp [fresh]) (by simp [fresh]) hA3) ?_)
  rintro _ M4 L4 hM4 ⟨⟨r4, hd4, rfl⟩, rfl⟩
  rw [show (writeRes (fresh (3 : Int).toNat) 1 (rowB 5 64)).2 = 0 from aw1]
  change IsDisk _ _ aS2 at hd4
  refine tl_y rfl (y_assign (v := .int _ _) rfl) ?_
  refine tl_nil (.then_normal ?_)
  refine .sub (F' := [(1, _), (5, _)]) (.cons rfl (.cons rfl .nil)) ?_
  refine x_seq (x_region ?_)
  refine tl_y rfl (y_move (v := .pointer _) rfl) ?_
  refine tl_e rfl (e_call' rfl (Count_spec (S := aS2) hd4) ?_)
  rintro _ M5 L5 hM5 ⟨rfl, rfl, rfl⟩
  rw [aw2, aw3]
  refine tl_y rfl (y_move (v := .tuple _) rfl) ?_
  refine tl_y rfl (y_extract rfl) ?_
  refine tl_y rfl (y_extract rfl) ?_
  refine tl_y rfl (y_assign (v := .int _ _) rfl) ?_
  refine tl_y rfl (y_assign (v := .int _ _) rfl) ?_
  refine tl_nil (.then_normal ?_)
  refine .sub (F' := [(1, _), (5, _), (6, _), (7, _)]) (.cons rfl (.cons rfl (.cons rfl (.cons rfl .nil)))) ?_
  refine x_seq (x_region ?_)
  refine tl_y rfl (y_move (v := .pointer _) rfl) ?_
  refine tl_e rfl (e_buildSlice rfl (by decide) (fun b1 => ?_))
  refine .pub b1 inferInstance (fun M6 hM6 hb1 => ?_)
  have hcs : Bytes M6 (some ⟨b1, 0, none⟩) 1 1 [42] := Row.whole hb1 rfl (by omega)
  refine tl_y rfl (y_build rfl) ?_
  refine tl_e rfl (e_call' rfl (Up_spec (S := aS2) (hd4.mono hM6) (by rw [aw3]; omega) hcs (xs := []) (Row.nil _ _) (by omega) 1) ?_)
  rintro _ M7 L7 hM7 ⟨r7, hd7, rfl⟩
  change IsDisk _ _ aS3 at hd7
  refine tl_nil (.then_normal ?_)
  refine .sub (F' := [(1, _), (5, _), (6, _), (7, _)]) (.cons rfl (.cons rfl (.cons rfl (.cons rfl .nil)))) ?_
  refine x_seq (x_region ?_)
  refine tl_y rfl (y_move (v := .pointer _) rfl) ?_
  refine tl_e rfl (e_call' rfl (Read_spec (S := aS3) hd7 1) ?_)
  rintro _ M8 L8 hM8 ⟨rfl, A8, n8, c8, rfl, hA8⟩
  rw [aw4]
  obtain rfl : n8 = 64 := by have := hA8.size; rw [aw5] at this; omega
  obtain ⟨g8, o8, rfl, hc8⟩ := hA8.byte (by omega)
  refine tl_y rfl (y_move (v := .tuple _) rfl) ?_
  refine tl_y rfl (y_extract rfl) ?_
  refine tl_y rfl (y_extract rfl) ?_
  refine tl_y rfl (y_assign (v := .slice _ _ _) rfl) ?_
  refine tl_y rfl (y_assign (v := .int _ _) rfl) ?_
  refine tl_nil (.then_normal ?_)
  refine .sub (F' := [(1, _), (5, _), (6, _), (7, _), (8, _), (9, _)]) (.cons rfl (.cons rfl (.cons rfl (.cons rfl (.cons rfl (.cons rfl .nil)))))) ?_
  refine x_seq (x_region ?_)
  refine tl_y rfl (y_move (v := .pointer _) rfl) ?_
  refine tl_e rfl (e_call' rfl (row64_spec 1 1 rfl) ?_)
  rintro _ M9 L9 hM9 ⟨rfl, A9, rfl, hA9⟩
  refine tl_e rfl (e_call' rfl (Write_spec (S := aS3) (hd7.mono (hM8.trans hM9)) (by simp [aS3, upped]) (by simp [aS3, upped]) hA9) ?_)
  rintro _ M10 L10 hM10 ⟨⟨r10, hd10, rfl⟩, rfl⟩
  rw [aw8]
  have hc8' : ∀ L j (hj : j < 64), CellAt M10 L ⟨g8, o8 + j, none⟩ _ := fun L j hj => ((hA8.mono (hM9.trans hM10)).byte (by omega)).elim fun b h => h.elim fun o h => by
    obtain ⟨e, h⟩ := h
    cases e
    exact h L j hj
  refine tl_y rfl (y_assign (v := .int _ _) rfl) ?_
  refine tl_nil (.then_normal ?_)
  refine .sub (F' := [(5, _), (6, _), (7, _), (8, _), (9, _), (10, _)]) (.cons rfl (.cons rfl (.cons rfl (.cons rfl (.cons rfl (.cons rfl .nil)))))) ?_
  refine x_seq (x_region ?_)
  refine tl_y rfl (y_move (v := .int _ _) rfl) ?_
  refine tl_y rfl (y_eql rfl rfl) ?_
  refine tl_y rfl (y_move (v := .bool _) rfl) ?_
  refine tl_set (s := 51) (u := .bool true) rfl (rfl) ?_
  refine tl_y rfl (y_move (v := .int _ _) rfl) ?_
  refine tl_y rfl (y_eql rfl rfl) ?_
  refine tl_y rfl (y_pickT rfl rfl) ?_
  refine tl_y rfl (y_move (v := .bool _) rfl) ?_
  refine tl_set (s := 55) (u := .bool true) rfl (rfl) ?_
  refine tl_y rfl (y_move (v := .int _ _) rfl) ?_
  refine tl_y rfl (y_eql rfl rfl) ?_
  refine tl_y rfl (y_pickT rfl rfl) ?_
  refine tl_y rfl (y_move (v := .bool _) rfl) ?_
  refine tl_set (s := 59) (u := .bool true) rfl (rfl) ?_
  refine tl_y rfl (y_move (v := .int _ _) rfl) ?_
  refine tl_y rfl (y_eql rfl rfl) ?_
  refine tl_y rfl (y_pickT rfl rfl) ?_
  refine tl_y rfl (y_move (v := .bool _) rfl) ?_
  refine tl_set (s := 63) (u := .bool true) rfl (rfl) ?_
  refine tl_y rfl (y_move (v := .slice _ _ _) rfl) ?_
  refine tl_y rfl (y_len rfl) ?_
  refine tl_y rfl (y_eql rfl rfl) ?_
  refine tl_y rfl (y_pickT rfl rfl) ?_
  refine tl_y rfl (y_move (v := .bool _) rfl) ?_
  refine tl_set (s := 68) (u := .bool true) rfl (rfl) ?_
  refine tl_y rfl (y_move (v := .slice _ _ _) rfl) ?_
  refine tl_y rfl (y_indexAddr rfl rfl (by omega)) ?_
  refine tl_y rfl (y_load rfl rfl (.at_ (hc8' _ 9 (by omega)) rfl)) ?_
  refine tl_y rfl (y_eql rfl rfl) ?_
  rw [aw6]
  refine tl_y rfl (y_pickT rfl rfl) ?_
  refine tl_y rfl (y_move (v := .bool _) rfl) ?_
  refine tl_set (s := 74) (u := .bool true) rfl (rfl) ?_
  refine tl_y rfl (y_move (v := .slice _ _ _) rfl) ?_
  refine tl_y rfl (y_indexAddr rfl rfl (by omega)) ?_
  refine tl_y rfl (y_load rfl rfl (.at_ (hc8' _ 10 (by omega)) rfl)) ?_
  refine tl_y rfl (y_eql rfl rfl) ?_
  rw [aw7]
  refine tl_y rfl (y_pickT rfl rfl) ?_
  refine tl_y rfl (y_move (v := .bool _) rfl) ?_
  refine tl_set (s := 80) (u := .bool true) rfl (rfl) ?_
  refine tl_y rfl (y_move (v := .int _ _) rfl) ?_
  refine tl_y rfl (y_eql rfl rfl) ?_
  refine tl_y rfl (y_pickT rfl rfl) ?_
  refine tl_y rfl (y_assign (v := .bool _) rfl) ?_
  refine tl_nil (.then_normal ?_)
  refine .sub (F' := [(0, _)]) (.cons rfl .nil) ?_
  refine x_ret (.dropTo L inferInstance (ret1 rfl rfl (hM1.trans (hM2.trans (hM3.trans (hM4.trans (hM5.trans (hM6.trans (hM7.trans (hM8.trans (hM9.trans hM10))))))))) ⟨rfl, rfl⟩))
end
end Go.Proofs.Ytlednbmmchalkaa
