/-
Contracts of functions, each proved by a walk through its code.
-/
import Derived.Test.YtbgdjdhbejbhkaaDoorLaw20Etc
import Derived.Test.YtbgdjdhbejbhkaaDoorRef1Etc
set_option linter.unusedVariables false
set_option linter.unusedSimpArgs false
set_option linter.constructorNameAsVariable false
namespace Go.Proofs.YtbgdjdhbejbhkaaDoor
open Go Go.Eng
theorem src_in {M : Mem} {L : Own} {s n : Nat} {A : Option Addr} {vs : List Value} {p : Nat × Obj} (h : RowIn M L s A n vs) : Src M (p :: L) s A n vs := ⟨h.len, fun w hw h0 => by
  rcases Nat.eq_zero_or_pos n with h1 | h1
  · subst h1; simp at h0
  · obtain ⟨b, o, e, hc⟩ := h.addr h1
    exact ⟨_, e, fun j v hj => by rw [add_plain]; exact hc j v hj w ⟨hw.ro, fun q hq => hw.own q (List.mem_cons_of_mem _ hq)⟩⟩⟩
section
variable {G : World} {M : Mem} {L R : Own} {p d c : Nat} {S : DS} {s : SS} {r : DRep} {A0 HA : Option Addr} {l0 c0 hl hc : Nat}
/-- A clone of what lies anywhere, owned. -/
theorem bytesClone_own {A : Option Addr} {n c : Nat} {bs : List UInt8} (h : RowIn M L 1 A n (bs.map bv)) (hn : n ≤ 140737488355328) :
    Con Tryd.prog 73 #[.slice A n c] G M L (fun v M' L' => M = M' ∧ ∃ A' c' E, v = .slice A' n c' ∧ OwnRow 5 1 A' n c' (bs.map bv) E ∧ L' = E ++ L) noPanic := by
  have hbl : bs.length = n := by have := h.len; simpa using this
  refine enter (args := [_]) (fn := Tryd.f73) ⟨Tryd.func73, rfl, by kernel_rfl, by kernel_rfl⟩ 8 rfl ?_
  refine x_seq (x_region ?_)
  refine tl_y rfl (y_assign rfl) ?_
  refine tl_nil (.then_normal ?_)
  refine x_seq (x_seq (x_region ?_))
  refine tl_y rfl (y_move (v := .slice _ _ _) rfl) ?_
  refine tl_y rfl (y_eqNilSlice rfl rfl) ?_
  refine tl_nil (.then_normal ?_)
  refine x_condb rfl (fun hc1 => ?_) (fun hc1 => ?_)
  ·
    obtain rfl : A = none := by simpa using hc1
    have h0 : n = 0 := by
      rcases Nat.eq_zero_or_pos n with h0 | h0
      · exact h0
      · obtain ⟨b, o, e, _⟩ := h.addr h0; cases e
    subst h0
    have hb : bs = [] := List.eq_nil_of_length_eq_zero hbl
    subst hb
    refine x_seq (x_region ?_)
    refine tl_y rfl (y_assign rfl) ?_
    refine tl_nil (.then_normal ?_)
    refine x_ret (.then_ret (ret1 rfl rfl (Le.refl _) ⟨rfl, none, 0, [], rfl, .nil, rfl⟩))
  ·
    refine x_skip (.then_normal ?_)
    refine x_seq (x_region ?_)
    refine tl_e rfl (e_buildSlice0 (fun b1 => ?_))
    refine tl_y rfl (y_move (v := .slice _ _ _) rfl) ?_
    refine tl_e rfl (e_append1 (by decide) rfl rfl OwnRow.made00 (src_in h) (all_one_bv bs) (by omega) (by omega) (fun A' cap' E hE => ?_))
    rw [Nat.zero_add, List.nil_append] at hE; rw [Nat.zero_add]
    refine tl_y rfl (y_assign (v := .slice _ _ _) rfl) ?_
    refine tl_nil (.then_normal ?_)
    refine .sub (F' := [(2, _)]) (.cons rfl .nil) ?_
    refine x_ret (ret1 rfl rfl (Le.refl _) ⟨rfl, _, _, E, rfl, hE, rfl⟩)
theorem bytesClone_in {A : Option Addr} {n c : Nat} {bs : List UInt8} (h : RowIn M L 1 A n (bs.map bv)) (hn : n ≤ 140737488355328) :
    Con Tryd.prog 73 #[.slice A n c] G M L (fun v M' L' => L' = L ∧ ∃ A' c', v = .slice A' n c' ∧ Bytes M' A' n c' bs) noPanic := by
  have hbl : bs.length = n := by have := h.len; simpa using this
  refine enter (args := [_]) (fn := Tryd.f73) ⟨Tryd.func73, rfl, by kernel_rfl, by kernel_rfl⟩ 8 rfl ?_
  refine x_seq (x_region ?_)
  refine tl_y rfl (y_assign rfl) ?_
  refine tl_nil (.then_normal ?_)
  refine x_seq (x_seq (x_region ?_))
  refine tl_y rfl (y_move (v := .slice _ _ _) rfl) ?_
  refine tl_y rfl (y_eqNilSlice rfl rfl) ?_
  refine tl_nil (.then_normal ?_)
  refine x_condb rfl (fun hc1 => ?_) (fun hc1 => ?_)
  ·
    obtain rfl : A = none := by simpa using hc1
    have h0 : n = 0 := by
      rcases Nat.eq_zero_or_pos n with h0 | h0
      · exact h0
      · obtain ⟨b, o, e, _⟩ := h.addr h0; cases e
    subst h0
    have hb : bs = [] := List.eq_nil_of_length_eq_zero hbl
    subst hb
    refine x_seq (x_region ?_)
    refine tl_y rfl (y_assign rfl) ?_
    refine tl_nil (.then_normal ?_)
    refine x_ret (.then_ret (ret1 rfl rfl (Le.refl _) ⟨rfl, none, 0, rfl, Row.nil _ _⟩))
  ·
    refine x_skip (.then_normal ?_)
    refine x_seq (x_region ?_)
    refine tl_e rfl (e_buildSlice0 (fun b1 => ?_))
    refine tl_y rfl (y_move (v := .slice _ _ _) rfl) ?_
    refine tl_e rfl (e_append1 (by decide) rfl rfl OwnRow.made00 (src_in h) (all_one_bv bs) (by omega) (by omega) (fun A' cap' E hE => ?_))
    rw [Nat.zero_add, List.nil_append] at hE; rw [Nat.zero_add]
    refine tl_y rfl (y_assign (v := .slice _ _ _) rfl) ?_
    refine tl_nil (.then_normal ?_)
    refine .sub (F' := [(2, _)]) (.cons rfl .nil) ?_
    refine x_ret (.pubRow hE fun M' hle hr => ret1 rfl rfl hle ⟨rfl, _, _, rfl, hr⟩)
/-- What it tells is the caller's own. -/
theorem Head_own (x : Cn) {head : List UInt8} (h : Bytes M HA hl hc head) (hn : hl ≤ 140737488355328) :
    Con Tryd.prog 53 #[.pointer (some ⟨c, 0, none⟩)] G M (cL c x HA hl hc p :: R) (fun v M' L' => M = M' ∧ ∃ A' c' E, v = .slice A' hl c' ∧ OwnRow 5 1 A' hl c' (head.map bv) E ∧ L' = E ++ (cL c x HA hl hc p :: R)) noPanic := by
  refine enter (args := [_]) (fn := Tryd.f53) ⟨Tryd.func53, rfl, by kernel_rfl, by kernel_rfl⟩ 8 rfl ?_
  refine x_seq (x_region ?_)
  refine tl_y rfl (y_assign rfl) ?_
  refine tl_nil (.then_normal ?_)
  refine x_seq (x_region ?_)
  refine tl_y rfl (y_move (v := .pointer _) rfl) ?_
  refine tl_y rfl (y_nilCheck rfl) ?_
  refine tl_y rfl (y_fieldAddr rfl) ?_
  refine tl_y rfl (y_load rfl rfl (.own inferInstance inferInstance)) ?_
  refine tl_e rfl (e_call' rfl (bytesClone_own h.in_ hn) ?_)
  rintro _ M1 _ hM1 ⟨rfl, A1, c1, E, rfl, hE, rfl⟩
  refine tl_y rfl (y_assign (v := .slice _ _ _) rfl) ?_
  refine tl_nil (.then_normal ?_)
  refine .sub (F' := [(2, _)]) (.cons rfl .nil) ?_
  refine x_ret (ret1 rfl rfl (Le.refl _) ⟨rfl, A1, c1, E, rfl, hE, rfl⟩)
theorem cNew_in (hg : ShaG M) (h : IsDisk M r S) (ok : OkS S s) {B : Nat} (hw : S.within B) (hB : B ≤ 1000000) (hb : Bytes M A0 l0 c0 s.b) {head : List UInt8} {E : Own} (hh : OwnRow 5 1 HA hl hc (head.map bv) E) (total batch : UInt64) :
    Con Tryd.prog 51 #[.pointer (some ⟨p, 0, none⟩), .slice HA hl hc, .int .u64 (total.toNat : Int), .int .u64 (batch.toNat : Int)] G M (dL d r S (sL p d s A0 l0 c0 :: (E ++ R)))
      (fun v M' L' => if (newC S s head total batch).2 = 0 then ∃ c A' c', v = .tuple #[.pointer (some ⟨c, 0, none⟩), .int .i64 0] ∧ Bytes M' A' hl c' head ∧ SK p d (newC S s head total batch).1.1 (newC S s head total batch).1.2 (cL c (newX total batch) A' hl c' p :: (E ++ R)) M' L'
        else v = .tuple #[.pointer none, .int .i64 (newC S s head total batch).2] ∧ SK p d (newC S s head total batch).1.1 (newC S s head total batch).1.2 (E ++ R) M' L') noPanic := by
  have hl' : head.length = hl := by have := hh.len; simpa using this
  have hok := loadRes_ok ok
  refine enter (args := [_, _, _, _]) (fn := Tryd.f51) ⟨Tryd.func51, rfl, by kernel_rfl, by kernel_rfl⟩ 47 rfl ?_
  refine x_seq (x_region ?_)
  refine tl_y rfl (y_assign rfl) ?_
  refine tl_y rfl (y_assign rfl) ?_
  refine tl_nil (.then_normal ?_)
  refine x_seq (x_region ?_)
  refine tl_y rfl (y_move (v := .int _ _) rfl) ?_
  refine tl_y rfl (y_move (v := .int _ _) rfl) ?_
  refine tl_y rfl (y_build rfl) ?_
  refine tl_e rfl (e_alloc (fun b1 => ?_))
  refine tl_e rfl (e_store rfl rfl (by rfl) (by rfl) inferInstance inferInstance inferInstance ?_)
  refine tl_nil (.then_normal ?_)
  refine .sub (F' := [(0, _), (1, _), (10, _)]) (.cons rfl (.cons rfl (.cons rfl .nil))) ?_
  refine x_seq (x_seq (x_region ?_))
  refine tl_y rfl (y_loadAgg rfl rfl (.own inferInstance inferInstance)) ?_
  refine tl_y rfl (y_move (v := .slice _ _ _) rfl) ?_
  refine tl_e rfl (e_call' rfl (may_spec (newX total batch)) ?_)
  rintro _ _ _ _ ⟨rfl, rfl, rfl⟩
  refine tl_y rfl (y_not rfl) ?_
  refine tl_nil (.then_normal ?_)
  refine x_condb rfl (fun hc1 => ?_) (fun hc1 => ?_)
  ·
    refine x_seq (x_region ?_)
    refine tl_y rfl (y_assign rfl) ?_
    refine tl_y rfl (y_assign rfl) ?_
    refine tl_nil (.then_normal ?_)
    refine .sub (F' := [(8, _), (9, _)]) (.cons rfl (.cons rfl .nil)) ?_
    refine x_ret (.then_ret (.dropTo _ inferInstance (ret2 rfl rfl rfl (Le.refl _) (by
  have hm : mayB (newX total batch) head.length = false := by rw [hl']; simpa using hc1
  rw [show newC S s head total batch = ((S, s), 1) by rw [newC, if_pos hm]]
  rw [if_neg (by simp)]
  exact ⟨rfl, r, A0, l0, c0, h, hb, rfl⟩))))
  ·
    have hm : mayB (newX total batch) hl = true := by simpa using hc1
    have hm' : mayB (newX total batch) head.length = true := by rw [hl']; exact hm
    have hn200 : hl ≤ 200 := by rw [mayB, decide_eq_true_eq] at hm; omega
    refine x_skip (.then_normal ?_)
    refine .sub (F' := [(0, _), (1, _), (10, _)]) (.cons rfl (.cons rfl (.cons rfl .nil))) ?_
    refine x_seq (x_seq (x_region ?_))
    refine tl_y rfl (y_move (v := .pointer _) rfl) ?_
    refine .to (dL d r S (sL p d s A0 l0 c0 :: (b1, .cells (List.toArray [u64v total, u64v batch, .int .u64 0, .int .u64 0, .bool false]) 81 (0, 0)) :: (E ++ R))) inferInstance ?_
    refine tl_e rfl (e_call' rfl (Load_spec hg h ok hb) ?_)
    rintro _ M1 _ hM1 ⟨⟨r1, A1, l1, c1, h1, hb1, rfl⟩, TA, tn, tc, rfl, hT⟩
    refine tl_y rfl (y_move (v := .tuple _) rfl) ?_
    refine tl_y rfl (y_extract rfl) ?_
    refine tl_y rfl (y_extract rfl) ?_
    refine tl_y rfl (y_extract rfl) ?_
    refine tl_y rfl (y_assign (v := .slice _ _ _) rfl) ?_
    refine tl_y rfl (y_assign (v := .int _ _) rfl) ?_
    refine tl_y rfl (y_assign (v := .int _ _) rfl) ?_
    refine tl_nil (.then_normal ?_)
    refine .sub (F' := [(0, _), (1, _), (10, _), (13, _)]) (.cons rfl (.cons rfl (.cons rfl (.cons rfl .nil)))) ?_
    refine x_seq (x_region ?_)
    refine tl_y rfl (y_move (v := .int _ _) rfl) ?_
    refine tl_nil (.then_normal ?_)
    refine x_block ?_
    refine x_seq (x_region ?_)
    refine tl_y rfl (y_eql rfl rfl) ?_
    refine tl_y rfl (y_assign (v := .bool _) rfl) ?_
    refine tl_nil (.then_normal ?_)
    refine x_cond rfl (fun hc2 => ?_) (fun hc2 => ?_)
    ·
      refine x_seq (x_region ?_)
      refine tl_y rfl (y_assign rfl) ?_
      refine tl_y rfl (y_assign rfl) ?_
      refine tl_nil (.then_normal ?_)
      refine .sub (F' := [(0, _), (1, _), (8, _), (9, _), (10, _)]) (.cons rfl (.cons rfl (.cons rfl (.cons rfl (.cons rfl .nil))))) ?_
      refine x_ret (.block_ret (.then_ret (.dropTo (dL d r1 S (sL p d (loadRes S s).1 A1 l1 c1 :: (E ++ R))) inferInstance (ret2 rfl rfl rfl hM1 (by
  rw [show newC S s head total batch = ((S, (loadRes S s).1), 10) by rw [newC, if_neg (by simp [hm']), if_pos (by simpa using hc2)]]
  rw [if_neg (by simp)]
  exact ⟨rfl, r1, A1, l1, c1, h1, hb1, rfl⟩)))))
    ·
      refine x_seq (x_region ?_)
      refine tl_y rfl (y_eql rfl rfl) ?_
      refine tl_y rfl (y_assign (v := .bool _) rfl) ?_
      refine tl_nil (.then_normal ?_)
      refine .sub (F' := [(0, _), (1, _), (10, _), (13, _), (33, _)]) (.cons rfl (.cons rfl (.cons rfl (.cons rfl (.cons rfl .nil))))) ?_
      refine x_cond rfl (fun hc3 => ?_) (fun hc3 => ?_)
      ·
        refine x_skip (.block_normal (.then_normal ?_))
        refine x_seq (x_region ?_)
        refine tl_y rfl (y_move (v := .slice _ _ _) rfl) ?_
        refine tl_e rfl (e_call' rfl (bytesClone_in (hh.in_ inferInstance (by omega)) (by omega)) ?_)
        rintro _ M2 _ hM2 ⟨rfl, A2, c2, rfl, hA2⟩
        refine tl_y rfl (y_move (v := .pointer _) rfl) ?_
        refine tl_y rfl (y_build rfl) ?_
        refine tl_e rfl (e_box rfl (fun b2 => ?_))
        refine tl_y rfl (y_assign (v := .pointer _) rfl) ?_
        refine tl_nil (.then_normal ?_)
        refine .sub (F' := [(10, _), (14, _)]) (.cons rfl (.cons rfl .nil)) ?_
        refine x_seq (x_seq (x_region ?_))
        refine tl_y rfl (y_move (v := .pointer _) rfl) ?_
        refine tl_y rfl (y_loadAgg rfl rfl (.own inferInstance inferInstance)) ?_
        refine .to (dL d r1 S (sL p d (loadRes S s).1 A1 l1 c1 :: (b2, .cells (List.toArray [.int .u64 0, .int .u64 0, .int .u64 0, .int .u64 0, .bool false, .slice A2 hl c2, .pointer (some ⟨p, 0, none⟩)]) 160 (0, 0)) :: (b1, .cells (List.toArray [u64v total, u64v batch, .int .u64 0, .int .u64 0, .bool false]) 81 (0, 0)) :: (E ++ R))) inferInstance ?_
        refine tl_e rfl (e_call' rfl (csave_spec (hg.mono (hM1.trans hM2)) (h1.mono hM2) hok hw hB (hb1.mono hM2) hA2 zeroC (newX total batch)) ?_)
        rintro _ M3 _ hM3 ⟨⟨r3, A3, l3, c3, h3, hb3, rfl⟩, rfl⟩
        have hN : newC S s head total batch = saveRes S (loadRes S s).1 (bytesC (newX total batch) head) := by
          rw [newC, if_neg (by simp [hm']), if_neg (by simpa using hc2), if_pos (by simpa using hc3)]
        have hF := saveC_fresh S (loadRes S s).1 total batch head hm'
        have hLe : Le M M3 := hM1.trans (hM2.trans hM3)
        refine tl_y rfl (y_assign (v := .int _ _) rfl) ?_
        refine tl_nil (.then_normal ?_)
        refine .sub (F' := [(14, _), (15, _)]) (.cons rfl (.cons rfl .nil)) ?_
        refine x_seq (x_region ?_)
        refine tl_y rfl (y_move (v := .int _ _) rfl) ?_
        refine tl_y rfl (y_neq rfl rfl) ?_
        refine tl_nil (.then_normal ?_)
        refine x_condb rfl (fun hc4 => ?_) (fun hc4 => ?_)
        ·
          refine x_seq (x_region ?_)
          refine tl_y rfl (y_move (v := .int _ _) rfl) ?_
          refine tl_y rfl (y_assign rfl) ?_
          refine tl_y rfl (y_assign (v := .int _ _) rfl) ?_
          refine tl_nil (.then_normal ?_)
          refine .sub (F' := [(8, _), (9, _)]) (.cons rfl (.cons rfl .nil)) ?_
          refine x_ret (.then_ret (.dropTo (dL d r3 (saveC S (loadRes S s).1 zeroC (newX total batch) head).1.1.1 (sL p d (saveC S (loadRes S s).1 zeroC (newX total batch) head).1.1.2 A3 l3 c3 :: (E ++ R))) inferInstance (ret2 rfl rfl rfl hLe (by
  have h0 : (saveRes S (loadRes S s).1 (bytesC (newX total batch) head)).2 ≠ 0 := by
    rw [hF] at hc4; split at hc4
    · assumption
    · exact absurd hc4 (by simp)
  rw [if_pos h0] at hF
  rw [hF] at h3 hb3 ⊢
  rw [hN, if_neg h0]
  exact ⟨rfl, r3, A3, l3, c3, h3, hb3, rfl⟩))))
        ·
          refine x_skip (.then_normal ?_)
          refine x_seq (x_region ?_)
          refine tl_y rfl (y_move (v := .pointer _) rfl) ?_
          refine tl_y rfl (y_assign (v := .pointer _) rfl) ?_
          refine tl_y rfl (y_assign rfl) ?_
          refine tl_nil (.then_normal ?_)
          refine .sub (F' := [(8, _), (9, _)]) (.cons rfl (.cons rfl .nil)) ?_
          refine x_ret (.dropTo (dL d r3 (saveC S (loadRes S s).1 zeroC (newX total batch) head).1.1.1 (sL p d (saveC S (loadRes S s).1 zeroC (newX total batch) head).1.1.2 A3 l3 c3 :: cL b2 (saveC S (loadRes S s).1 zeroC (newX total batch) head).1.2 A2 hl c2 p :: (E ++ R))) inferInstance (ret2 rfl rfl rfl hLe (by
  have h0 : ¬ (saveRes S (loadRes S s).1 (bytesC (newX total batch) head)).2 ≠ 0 := fun h0 => by
    rw [hF, if_pos h0] at hc4; simp at hc4; exact h0 hc4
  rw [if_neg h0] at hF
  rw [hF] at h3 hb3 ⊢
  rw [hN, if_pos (by simpa using h0)]
  exact ⟨b2, A2, c2, rfl, hA2.mono hM3, r3, A3, l3, c3, h3, hb3, rfl⟩)))
      ·
        refine x_seq (x_region ?_)
        refine tl_y rfl (y_move (v := .int _ _) rfl) ?_
        refine tl_y rfl (y_assign rfl) ?_
        refine tl_y rfl (y_assign (v := .int _ _) rfl) ?_
        refine tl_nil (.then_normal ?_)
        refine x_ret (.block_ret (.then_ret (.dropTo (dL d r1 S (sL p d (loadRes S s).1 A1 l1 c1 :: (E ++ R))) inferInstance (ret2 rfl rfl rfl hM1 (by
  have h0 : (loadRes S s).2 ≠ 0 := by simpa using hc2
  rw [show newC S s head total batch = ((S, (loadRes S s).1), (loadRes S s).2) by rw [newC, if_neg (by simp [hm']), if_neg h0, if_neg (by simpa using hc3)]]
  rw [if_neg h0]
  exact ⟨rfl, r1, A1, l1, c1, h1, hb1, rfl⟩)))))
end
end Go.Proofs.YtbgdjdhbejbhkaaDoor
set_option linter.unusedVariables false
set_option linter.unusedSimpArgs false
set_option linter.constructorNameAsVariable false
namespace Go.Proofs.YtbgdjdhbejbhkaaDoor
open Go Go.Eng
theorem putB_cons : ∀ (k v : Nat), putB v (k + 1) = UInt8.ofNat (v / 256 ^ k % 256) :: putB v k
  | 0, v => by simp [putB]
  | k + 1, v => by
    rw [putB, putB_cons k (v / 256), putB, Nat.div_div_eq_div_mul, Nat.pow_succ, Nat.mul_comm 256]
    rfl
section
variable {G : World} {M : Mem} {L R : Own}
theorem RPut_spec (v : UInt64) (n : Nat) (hn : n ≤ 8) :
    Con Tryd.prog 96 #[.int .u64 (v.toNat : Int), .int .i64 (n : Int)] G M L (fun r M' L' => L = L' ∧ ∃ A c, r = .slice A n c ∧ Bytes M' A n c (putB v.toNat n)) noPanic := by
  have hv := v.toNat_lt
  refine enter (args := [_, _]) (fn := Tryd.f96) ⟨Tryd.func96, rfl, by kernel_rfl, by kernel_rfl⟩ 28 rfl ?_
  refine x_seq (x_region ?_)
  refine tl_y rfl (y_assign rfl) ?_
  refine tl_nil (.then_normal ?_)
  refine x_seq (x_seq (x_region ?_))
  refine tl_y rfl (y_move (v := .int _ _) rfl) ?_
  refine tl_y rfl (y_lss rfl rfl) ?_
  refine tl_y rfl (y_move (v := .bool _) rfl) ?_
  refine tl_set (s := 9) (u := .bool false) rfl (by rw [decide_eq_false]; omega) ?_
  refine tl_y rfl (y_move (v := .int _ _) rfl) ?_
  refine tl_y rfl (y_gtr rfl rfl) ?_
  refine tl_y rfl (y_pickF rfl rfl) ?_
  refine tl_nil (.then_normal ?_)
  refine .sub (F' := [(0, _), (1, _), (12, _)]) (.cons rfl (.cons rfl (.cons rfl .nil))) ?_
  refine x_false rfl (by rw [decide_eq_false]; omega) ?_
  refine x_skip (.then_normal ?_)
  refine x_seq (x_region ?_)
  refine tl_e rfl (e_buildSlice0 (fun b1 => ?_))
  refine tl_y rfl (y_assign (v := .slice _ _ _) rfl) ?_
  refine tl_nil (.then_normal ?_)
  refine x_seq (x_seq (x_region ?_))
  refine tl_y rfl (y_assign rfl) ?_
  refine tl_nil (.then_normal ?_)
  refine x_block ?_
  refine x_loop (I := fun m' F D M1 L1 => ∃ (k q : Nat) (A : Option Addr) (c : Nat) (E : Own), m' = n - k ∧ k ≤ n ∧ q = v.toNat / 256 ^ k ∧ q ≤ v.toNat ∧ OwnRow 5 1 A k c ((putB v.toNat k).map bv) E ∧ D = [] ∧ M = M1 ∧ L1 = E ++ L ∧ F = [(0, .int .u64 (q : Int)), (1, .int .i64 n), (5, .slice A k c), (6, .int .i64 k)]) (n) (F0 := [(0, _), (1, _), (5, _), (6, _)]) ?_ (.cons rfl (.cons rfl (.cons rfl (.cons rfl .nil)))) ?_  -- slots [0, 1, 5, 6], written [0, 5, 6]
  · exact ⟨0, v.toNat, _, _, _, rfl, by omega, by rw [Nat.pow_zero, Nat.div_one], Nat.le_refl _, OwnRow.made00, rfl, rfl, rfl, rfl⟩
  rintro m _ _ M1 L1 ⟨k, q, A, c, E, rfl, hk, hq, hqv, hE, rfl, rfl, rfl, rfl⟩
  refine x_seq (x_seq (x_region ?_))
  refine tl_y rfl (y_move (v := .int _ _) rfl) ?_
  refine tl_y rfl (y_move (v := .int _ _) rfl) ?_
  refine tl_y rfl (y_lss rfl rfl) ?_
  refine tl_nil (.then_normal ?_)
  refine x_cond rfl (fun hc2 => ?_) (fun hc2 => ?_)
  ·
    have hkn : k < n := by omega
    have hq2 : q / 256 = v.toNat / 256 ^ (k + 1) := by rw [hq, Nat.div_div_eq_div_mul, Nat.pow_succ]
    refine x_skip (.then_normal ?_)
    refine x_seq ?_
    refine x_block ?_
    refine x_seq (x_region ?_)
    refine tl_y rfl (y_move (v := .int _ _) rfl) ?_
    refine tl_y rfl (y_remI rfl rfl (by omega)) ?_
    refine tl_y rfl (y_convN8 rfl (by omega)) ?_
    rw [show (q : Int) % 256 = (((UInt8.ofNat (q % 256)).toNat : Nat) : Int) by rw [UInt8.toNat_ofNat']; omega]
    refine tl_e rfl (e_buildSlice rfl (by decide) (fun b2 => ?_))
    refine tl_y rfl (y_move (v := .slice _ _ _) rfl) ?_
    refine tl_e rfl (e_append1 (by decide) rfl rfl (OwnRow.made (n := 1) rfl (by omega)) (src_in (hE.in_ inferInstance (by omega))) (all_one_bv _) (by omega) (by omega) (fun A2 c2 E2 hE2 => ?_))
    rw [show 1 + k = k + 1 by omega] at hE2 ⊢
    refine .dropTo (E2 ++ L) inferInstance ?_
    refine tl_y rfl (y_assign (v := .slice _ _ _) rfl) ?_
    refine tl_nil (.then_normal ?_)
    refine .sub (F' := [(0, _), (1, _), (5, _), (6, _)]) (.cons rfl (.cons rfl (.cons rfl (.cons rfl .nil)))) ?_
    refine x_region ?_
    refine tl_y rfl (y_move (v := .int _ _) rfl) ?_
    refine tl_y rfl (y_quoN64 rfl rfl (by omega)) ?_
    refine tl_y rfl (y_assign (v := .int _ _) rfl) ?_
    refine tl_nil (.block_normal (.then_normal ?_))
    refine x_region ?_
    refine tl_y rfl (y_move (v := .int _ _) rfl) ?_
    refine tl_y rfl (y_addI rfl rfl (by omega)) ?_
    refine tl_y rfl (y_assign (v := .int _ _) rfl) ?_
    refine tl_nil (.loop_next (m' := n - (k + 1)) (by omega) (F' := [(0, _), (1, _), (5, _), (6, _)]) (.cons rfl (.cons rfl (.cons rfl (.cons rfl .nil)))) ?_)
    exact ⟨k + 1, q / 256, A2, c2, E2, rfl, by omega, hq2, by omega, by rw [putB_cons, ← hq]; exact hE2, rfl, rfl, rfl, rfl⟩
  ·
    refine x_exit (.then_exit (.loop_exit (.block_exit (.then_normal ?_))))
    refine .sub (F' := [(5, _)]) (.cons rfl .nil) ?_
    refine x_seq (x_region ?_)
    refine tl_y rfl (y_move (v := .slice _ _ _) rfl) ?_
    refine tl_y rfl (y_assign (v := .slice _ _ _) rfl) ?_
    refine tl_nil (.then_normal ?_)
    obtain rfl : k = n := by omega
    refine x_ret (.pubRow hE fun M' hle hr => ret1 rfl rfl hle ⟨rfl, _, _, rfl, hr⟩)
theorem RCat_own {A : Option Addr} {n c : Nat} {vs : List Value} {bss : List (List UInt8)} (h : Row M 1 A n c vs) (hb : BRows M vs bss) (hn : bss.flatten.length ≤ 1099511627776) :
    Con Tryd.prog 95 #[.slice A n c] G M L (fun v M' L' => M = M' ∧ ∃ A' c' E, v = .slice A' bss.flatten.length c' ∧ OwnRow 5 1 A' bss.flatten.length c' (bss.flatten.map bv) E ∧ L' = E ++ L) noPanic := by
  have hvl := hb.len
  have hnl : vs.length = n := by have := h.len; omega
  have hmx := h.max
  have hle := h.le
  refine enter (args := [_]) (fn := Tryd.f95) ⟨Tryd.func95, rfl, by kernel_rfl, by kernel_rfl⟩ 18 rfl ?_
  refine x_seq (x_region ?_)
  refine tl_y rfl (y_assign rfl) ?_
  refine tl_nil (.then_normal ?_)
  refine x_seq (x_region ?_)
  refine tl_y rfl (y_assign rfl) ?_
  refine tl_nil (.then_normal ?_)
  refine x_seq (x_seq (x_region ?_))
  refine tl_y rfl (y_assign rfl) ?_
  refine tl_nil (.then_normal ?_)
  refine x_block ?_
  refine x_loop (I := fun m' F D M1 L1 => ∃ (k : Nat) (A1 : Option Addr) (c1 : Nat) (E : Own), m' = n - k ∧ k ≤ n ∧ OwnRow 5 1 A1 (bss.take k).flatten.length c1 ((bss.take k).flatten.map bv) E ∧ D = [] ∧ M = M1 ∧ L1 = E ++ L ∧ F = [(0, .slice A n c), (3, .slice A1 (bss.take k).flatten.length c1), (4, .int .i64 k)]) (n) (F0 := [(0, _), (3, _), (4, _)]) ?_ (.cons rfl (.cons rfl (.cons rfl .nil))) ?_  -- slots [0, 3, 4], written [3, 4]
  · exact ⟨0, none, 0, [], rfl, by omega, .nil, rfl, rfl, rfl, rfl⟩
  rintro m _ _ M1 L1 ⟨k, A1, c1, E, rfl, hk, hE, rfl, rfl, rfl, rfl⟩
  refine x_seq (x_seq (x_region ?_))
  refine tl_y rfl (y_move (v := .int _ _) rfl) ?_
  refine tl_y rfl (y_move (v := .slice _ _ _) rfl) ?_
  refine tl_y rfl (y_len rfl) ?_
  refine tl_y rfl (y_lss rfl rfl) ?_
  refine tl_nil (.then_normal ?_)
  refine x_cond rfl (fun hc1 => ?_) (fun hc1 => ?_)
  ·
    have hkn : k < n := by omega
    obtain ⟨g, o, rfl, hcell⟩ := h.addr (by omega)
    obtain ⟨A2, n2, c2, hv2, hb2⟩ := hb.get k (by omega)
    have hn2 := hb2.size
    have hf1 := flatten_take_le bss (k + 1)
    have hf2 : (bss.take (k + 1)).flatten = (bss.take k).flatten ++ bss.getD k [] := by
      rw [take_snoc bss k [] (by omega), List.flatten_append, List.flatten_singleton]
    have hf3 : (bss.take (k + 1)).flatten.length = (bss.take k).flatten.length + n2 := by rw [hf2, List.length_append, hn2]
    refine x_skip (.then_normal ?_)
    refine .sub (F' := [(0, _), (3, _), (4, _)]) (.cons rfl (.cons rfl (.cons rfl .nil))) ?_
    refine x_seq ?_
    refine x_block ?_
    refine x_region ?_
    refine tl_y rfl (y_move (v := .slice _ _ _) rfl) ?_
    refine tl_y rfl (y_move (v := .slice _ _ _) rfl) ?_
    refine tl_y rfl (y_move (v := .int _ _) rfl) ?_
    refine tl_y rfl (y_indexAddr rfl rfl (by omega)) ?_
    refine tl_y rfl (y_load rfl rfl (.at_ (hcell _ k _ hv2) (by omega))) ?_
    refine tl_e rfl (e_append (by decide) rfl rfl hE (.row hb2) (all_one_bv _) (by omega) (by omega) (fun A3 c3 E3 hE3 => ?_))
    rw [← hf3, ← List.map_append, ← hf2] at hE3; rw [← hf3]
    refine tl_y rfl (y_assign (v := .slice _ _ _) rfl) ?_
    refine tl_nil (.block_normal (.then_normal ?_))
    refine .sub (F' := [(0, _), (3, _), (4, _)]) (.cons rfl (.cons rfl (.cons rfl .nil))) ?_
    refine x_region ?_
    refine tl_y rfl (y_move (v := .int _ _) rfl) ?_
    refine tl_y rfl (y_addI rfl rfl (by omega)) ?_
    refine tl_y rfl (y_assign (v := .int _ _) rfl) ?_
    refine tl_nil (.loop_next (m' := n - (k + 1)) (by omega) (F' := [(0, _), (3, _), (4, _)]) (.cons rfl (.cons rfl (.cons rfl .nil))) ?_)
    exact ⟨k + 1, A3, c3, E3, rfl, by omega, hE3, rfl, rfl, rfl, rfl⟩
  ·
    refine x_exit (.then_exit (.loop_exit (.block_exit (.then_normal ?_))))
    refine .sub (F' := [(3, _)]) (.cons rfl .nil) ?_
    refine x_seq (x_region ?_)
    refine tl_y rfl (y_move (v := .slice _ _ _) rfl) ?_
    refine tl_y rfl (y_assign (v := .slice _ _ _) rfl) ?_
    refine tl_nil (.then_normal ?_)
    refine x_ret (ret1 rfl rfl (Le.refl _) (by
  obtain rfl : k = bss.length := by omega
  rw [List.take_length] at hE ⊢
  exact ⟨rfl, A1, c1, E, rfl, hE, rfl⟩))
theorem RMay21_spec (x : Cn) {A : Option Addr} {n c : Nat} :
    Con Tryd.prog 94 #[.agg (List.toArray (ccells x)), .slice A n c] G M L (fun v M' L' => M = M' ∧ L = L' ∧ v = .bool (mayB x n)) noPanic := by
  refine enter (args := [_, _]) (fn := Tryd.f94) ⟨Tryd.func94, rfl, by kernel_rfl, by kernel_rfl⟩ 35 rfl ?_
  refine x_seq (x_region ?_)
  refine tl_e rfl (e_box rfl (fun b1 => ?_))
  refine tl_y rfl (y_assign rfl) ?_
  refine tl_nil (.then_normal ?_)
  refine x_seq (x_region ?_)
  refine tl_y rfl (y_fieldAddr rfl) ?_
  refine tl_y rfl (y_load rfl rfl (.own inferInstance inferInstance)) ?_
  refine tl_y rfl (y_gtr rfl rfl) ?_
  refine tl_y rfl (y_move (v := .bool _) rfl) ?_
  refine tl_cases (s := 8) rfl (fun hk1 => ?_) (fun hk1 => ?_)
  ·
    refine tl_y rfl (y_fieldAddr rfl) ?_
    refine tl_y rfl (y_load rfl rfl (.own inferInstance inferInstance)) ?_
    refine tl_y rfl (y_leq rfl rfl) ?_
    refine tl_y rfl (y_pickT rfl rfl) ?_
    refine tl_y rfl (y_move (v := .bool _) rfl) ?_
    refine tl_cases (s := 13) rfl (fun hk2 => ?_) (fun hk2 => ?_)
    ·
      refine tl_y rfl (y_fieldAddr rfl) ?_
      refine tl_y rfl (y_load rfl rfl (.own inferInstance inferInstance)) ?_
      refine tl_y rfl (y_gtr rfl rfl) ?_
      refine tl_y rfl (y_pickT rfl rfl) ?_
      refine tl_y rfl (y_move (v := .bool _) rfl) ?_
      refine tl_cases (s := 18) rfl (fun hk3 => ?_) (fun hk3 => ?_)
      ·
        refine tl_y rfl (y_fieldAddr rfl) ?_
        refine tl_y rfl (y_load rfl rfl (.own inferInstance inferInstance)) ?_
        refine tl_y rfl (y_leq rfl rfl) ?_
        refine tl_y rfl (y_pickT rfl rfl) ?_
        refine tl_y rfl (y_move (v := .bool _) rfl) ?_
        refine tl_cases (s := 23) rfl (fun hk4 => ?_) (fun hk4 => ?_)
        ·
          refine tl_y rfl (y_fieldAddr rfl) ?_
          refine tl_y rfl (y_load rfl rfl (.own inferInstance inferInstance)) ?_
          refine tl_y rfl (y_fieldAddr rfl) ?_
          refine tl_y rfl (y_load rfl rfl (.own inferInstance inferInstance)) ?_
          refine tl_y rfl (y_leq rfl rfl) ?_
          refine tl_y rfl (y_pickT rfl rfl) ?_
          refine tl_y rfl (y_move (v := .bool _) rfl) ?_
          refine tl_cases (s := 30) rfl (fun hk5 => ?_) (fun hk5 => ?_)
          ·
            refine tl_y rfl (y_move (v := .slice _ _ _) rfl) ?_
            refine tl_y rfl (y_len rfl) ?_
            refine tl_y rfl (y_leq rfl rfl) ?_
            refine tl_y rfl (y_pickT rfl rfl) ?_
            refine tl_y rfl (y_assign (v := .bool _) rfl) ?_
            refine tl_nil (.then_normal ?_)
            refine .sub (F' := [(4, _)]) (.cons rfl .nil) ?_
            refine x_ret (.dropTo L inferInstance (ret1 rfl rfl (Le.refl _) ⟨rfl, rfl, by congr 1; rw [mayB, decide_eq_decide]; omega⟩))
          ·
            refine tl_skip rfl ?_
            refine tl_skip rfl ?_
            refine tl_skip rfl ?_
            refine tl_y rfl (y_pickF rfl rfl) ?_
            refine tl_y rfl (y_assign (v := .bool _) rfl) ?_
            refine tl_nil (.then_normal ?_)
            refine .sub (F' := [(4, _)]) (.cons rfl .nil) ?_
            refine x_ret (.dropTo L inferInstance (ret1 rfl rfl (Le.refl _) ⟨rfl, rfl, by congr 1; symm; rw [mayB, decide_eq_false_iff_not]; omega⟩))
        ·
          refine tl_skip rfl ?_
          refine tl_skip rfl ?_
          refine tl_skip rfl ?_
          refine tl_skip rfl ?_
          refine tl_skip rfl ?_
          refine tl_y rfl (y_pickF rfl rfl) ?_
          refine tl_y rfl (y_move (v := .bool _) rfl) ?_
          refine tl_skip rfl ?_
          refine tl_skip rfl ?_
          refine tl_skip rfl ?_
          refine tl_y rfl (y_pickF rfl rfl) ?_
          refine tl_y rfl (y_assign (v := .bool _) rfl) ?_
          refine tl_nil (.then_normal ?_)
          refine .sub (F' := [(4, _)]) (.cons rfl .nil) ?_
          refine x_ret (.dropTo L inferInstance (ret1 rfl rfl (Le.refl _) ⟨rfl, rfl, by congr 1; symm; rw [mayB, decide_eq_false_iff_not]; omega⟩))
      ·
        refine tl_skip rfl ?_
        refine tl_skip rfl ?_
        refine tl_skip rfl ?_
        refine tl_y rfl (y_pickF rfl rfl) ?_
        refine tl_y rfl (y_move (v := .bool _) rfl) ?_
        refine tl_skip rfl ?_
        refine tl_skip rfl ?_
        refine tl_skip rfl ?_
        refine tl_skip rfl ?_
        refine tl_skip rfl ?_
        refine tl_y rfl (y_pickF rfl rfl) ?_
        refine tl_y rfl (y_move (v := .bool _) rfl) ?_
        refine tl_skip rfl ?_
        refine tl_skip rfl ?_
        refine tl_skip rfl ?_
        refine tl_y rfl (y_pickF rfl rfl) ?_
        refine tl_y rfl (y_assign (v := .bool _) rfl) ?_
        refine tl_nil (.then_normal ?_)
        refine .sub (F' := [(4, _)]) (.cons rfl .nil) ?_
        refine x_ret (.dropTo L inferInstance (ret1 rfl rfl (Le.refl _) ⟨rfl, rfl, by congr 1; symm; rw [mayB, decide_eq_false_iff_not]; omega⟩))
    ·
      refine tl_skip rfl ?_
      refine tl_skip rfl ?_
      refine tl_skip rfl ?_
      refine tl_y rfl (y_pickF rfl rfl) ?_
      refine tl_y rfl (y_move (v := .bool _) rfl) ?_
      refine tl_skip rfl ?_
      refine tl_skip rfl ?_
      refine tl_skip rfl ?_
      refine tl_y rfl (y_pickF rfl rfl) ?_
      refine tl_y rfl (y_move (v := .bool _) rfl) ?_
      refine tl_skip rfl ?_
      refine tl_skip rfl ?_
      refine tl_skip rfl ?_
      refine tl_skip rfl ?_
      refine tl_skip rfl ?_
      refine tl_y rfl (y_pickF rfl rfl) ?_
      refine tl_y rfl (y_move (v := .bool _) rfl) ?_
      refine tl_skip rfl ?_
      refine tl_skip rfl ?_
      refine tl_skip rfl ?_
      refine tl_y rfl (y_pickF rfl rfl) ?_
      refine tl_y rfl (y_assign (v := .bool _) rfl) ?_
      refine tl_nil (.then_normal ?_)
      refine .sub (F' := [(4, _)]) (.cons rfl .nil) ?_
      refine x_ret (.dropTo L inferInstance (ret1 rfl rfl (Le.refl _) ⟨rfl, rfl, by congr 1; symm; rw [mayB, decide_eq_false_iff_not]; omega⟩))
  ·
    refine tl_skip rfl ?_
    refine tl_skip rfl ?_
    refine tl_skip rfl ?_
    refine tl_y rfl (y_pickF rfl rfl) ?_
    refine tl_y rfl (y_move (v := .bool _) rfl) ?_
    refine tl_skip rfl ?_
    refine tl_skip rfl ?_
    refine tl_skip rfl ?_
    refine tl_y rfl (y_pickF rfl rfl) ?_
    refine tl_y rfl (y_move (v := .bool _) rfl) ?_
    refine tl_skip rfl ?_
    refine tl_skip rfl ?_
    refine tl_skip rfl ?_
    refine tl_y rfl (y_pickF rfl rfl) ?_
    refine tl_y rfl (y_move (v := .bool _) rfl) ?_
    refine tl_skip rfl ?_
    refine tl_skip rfl ?_
    refine tl_skip rfl ?_
    refine tl_skip rfl ?_
    refine tl_skip rfl ?_
    refine tl_y rfl (y_pickF rfl rfl) ?_
    refine tl_y rfl (y_move (v := .bool _) rfl) ?_
    refine tl_skip rfl ?_
    refine tl_skip rfl ?_
    refine tl_skip rfl ?_
    refine tl_y rfl (y_pickF rfl rfl) ?_
    refine tl_y rfl (y_assign (v := .bool _) rfl) ?_
    refine tl_nil (.then_normal ?_)
    refine .sub (F' := [(4, _)]) (.cons rfl .nil) ?_
    refine x_ret (.dropTo L inferInstance (ret1 rfl rfl (Le.refl _) ⟨rfl, rfl, by congr 1; symm; rw [mayB, decide_eq_false_iff_not]; omega⟩))
theorem bytesC_set (x : Cn) (head : List UInt8) (h : x.retired = true) : (bytesC { x with retired := false } head).set 24 1 = bytesC x head := by
  have e : ∀ y : Cn, bytesC y head = (putB y.total.toNat 8 ++ (putB y.batch.toNat 8 ++ putB y.reserved.toNat 8)) ++ ((if y.retired then 1 else 0) :: head) := fun y => by simp [bytesC]
  rw [e, e, List.set_append_right _ _ (by simp [putB_length]), h]
  simp [putB_length]
theorem bytesC_same (x : Cn) (head : List UInt8) (h : x.retired = false) : bytesC { x with retired := false } head = bytesC x head := by rw [← h]
theorem RBytes_spec (x : Cn) {A : Option Addr} {n c : Nat} {head : List UInt8} (h : Bytes M A n c head) :
    Con Tryd.prog 48 #[.agg (List.toArray (ccells x)), .slice A n c] G M L (fun v M' L' => L' = L ∧ ∃ A' n' c' w, v = .tuple #[.slice A' n' c', .int .i64 (if mayB x n = true then 0 else 1)] ∧ Bytes M' A' n' c' w ∧ w = (if mayB x n = true then bytesC x head else [])) noPanic := by
  have hl := h.size
  have hbl := bytesC_length { x with retired := false } head
  refine enter (args := [_, _]) (fn := Tryd.f48) ⟨Tryd.func48, rfl, by kernel_rfl, by kernel_rfl⟩ 29 rfl ?_
  refine x_seq (x_region ?_)
  refine tl_e rfl (e_box rfl (fun b1 => ?_))
  refine tl_y rfl (y_assign rfl) ?_
  refine tl_y rfl (y_assign rfl) ?_
  refine tl_nil (.then_normal ?_)
  refine x_seq (x_seq (x_region ?_))
  refine tl_y rfl (y_loadAgg rfl rfl (.own inferInstance inferInstance)) ?_
  refine tl_y rfl (y_move (v := .slice _ _ _) rfl) ?_
  refine tl_e rfl (e_call' rfl (RMay21_spec x) ?_)
  rintro _ _ _ _ ⟨rfl, rfl, rfl⟩
  refine tl_y rfl (y_not rfl) ?_
  refine tl_nil (.then_normal ?_)
  refine .sub (F' := [(1, _), (2, _), (10, _)]) (.cons rfl (.cons rfl (.cons rfl .nil))) ?_
  refine x_condb rfl (fun hc1 => ?_) (fun hc1 => ?_)
  ·
    refine x_seq (x_region ?_)
    refine tl_y rfl (y_assign rfl) ?_
    refine tl_y rfl (y_assign rfl) ?_
    refine tl_nil (.then_normal ?_)
    refine x_ret (.then_ret (.dropTo L inferInstance (ret2 rfl rfl rfl (Le.refl _) ⟨rfl, none, 0, 0, [], by rw [if_neg (by simpa using hc1)], Row.nil _ _, by rw [if_neg (by simpa using hc1)]⟩)))
  ·
    have hmay : mayB x n = true := by simpa using hc1
    have hn200 : n ≤ 200 := (mayB_iff.1 hmay).2.2.2.2.2
    rw [if_pos hmay, if_pos hmay]
    refine x_skip (.then_normal ?_)
    refine x_seq ?_
    refine x_meet (I := fun F D M1 L1 => D = [] ∧ Le M M1 ∧ ∃ A' c' E, OwnRow 5 1 A' (25 + n) c' ((bytesC { x with retired := false } head).map bv) E ∧ DropTo L1 ((b1, .cells (List.toArray (ccells x)) 81 (0, 0)) :: (E ++ L)) ∧ F = [(2, .pointer (some ⟨b1, 0, none⟩)), (6, .slice A' (25 + n) c')]) ?_ (fun Jd3 => ?_)
    ·
      rintro _ _ M1 L1 ⟨rfl, hM1, A', c', E, hE, hdr, rfl⟩  -- slots [2, 6]
      refine .dropTo _ hdr ?_
      refine x_seq (x_seq (x_region ?_))
      refine tl_y rfl (y_fieldAddr rfl) ?_
      refine tl_y rfl (y_load rfl rfl (.own inferInstance inferInstance)) ?_
      refine tl_nil (.then_normal ?_)
      refine x_condb rfl (fun hc2 => ?_) (fun hc2 => ?_)
      ·
        obtain ⟨g, pre, slack, hA', hEe⟩ := hE.pos (by omega)
        subst hEe
        rw [hA'] at hE
        simp only [List.cons_append, List.nil_append]
        refine x_region ?_
        refine tl_y rfl (y_move (v := .slice _ _ _) rfl) ?_
        refine tl_y rfl (y_indexAddr (b := g) (o := pre.length) (by rw [hA']; rfl) rfl (by omega)) ?_
        refine tl_e rfl (e_storeAt (c := pre ++ ((bytesC { x with retired := false } head).map bv ++ slack)) rfl rfl rfl inferInstance (by simp [bytesC_length]; omega) inferInstance ?_)
        refine tl_nil (.then_normal ?_)
        refine .sub (F' := [(6, _)]) (.cons rfl .nil) ?_
        refine x_seq (x_region ?_)
        refine tl_y rfl (y_move (v := .slice _ _ _) rfl) ?_
        refine tl_y rfl (y_assign (v := .slice _ _ _) rfl) ?_
        refine tl_y rfl (y_assign rfl) ?_
        refine tl_nil (.then_normal ?_)
        refine x_ret (.dropTo ((g, .cells ((pre ++ ((bytesC { x with retired := false } head).map bv ++ slack)).set (pre.length + Int.toNat 24 * 1) (.int .u8 1)).toArray 5 (0, 0)) :: L) inferInstance ?_)
        refine TQ.pubRow (R := L) (hE.set 24 (bv 1) (by simp [bytesC_length]; omega)) fun M2 hle hr => ret2 rfl rfl rfl (hM1.trans hle) ⟨rfl, some ⟨g, pre.length, none⟩, _, _, _, by rw [← hA'], by rw [← List.map_set, bytesC_set x head hc2] at hr; exact hr, rfl⟩
      ·
        refine x_skip (.then_normal ?_)
        refine x_seq (x_region ?_)
        refine tl_y rfl (y_move (v := .slice _ _ _) rfl) ?_
        refine tl_y rfl (y_assign (v := .slice _ _ _) rfl) ?_
        refine tl_y rfl (y_assign rfl) ?_
        refine tl_nil (.then_normal ?_)
        refine .sub (F' := [(4, _), (5, _)]) (.cons rfl (.cons rfl .nil)) ?_
        refine x_ret (.dropTo (E ++ L) inferInstance (.pubRow hE fun M2 hle hr => ret2 rfl rfl rfl (hM1.trans hle) ⟨rfl, A', _, _, _, rfl, by rw [bytesC_same x head hc2] at hr; exact hr, rfl⟩))
    ·
      refine x_draw 14 hmix rfl ?_
      refine to_p 0 rfl (by kernel_rfl) rfl (y_fieldAddr rfl) ?_
      refine to_y 1 rfl (by kernel_rfl) rfl (y_load rfl rfl (.own inferInstance inferInstance)) ?_
      refine to_p 3 rfl (by kernel_rfl) rfl (y_fieldAddr rfl) ?_
      refine to_y 4 rfl (by kernel_rfl) rfl (y_load rfl rfl (.own inferInstance inferInstance)) ?_
      refine to_p 6 rfl (by kernel_rfl) rfl (y_fieldAddr rfl) ?_
      refine to_y 7 rfl (by kernel_rfl) rfl (y_load rfl rfl (.own inferInstance inferInstance)) ?_
      refine to_p 10 rfl (by kernel_rfl) rfl (y_move (v := .slice _ _ _) rfl) ?_
      refine to_two 2 9 (by kernel_rfl) ?_ ?_
      ·
        refine two_e 2 rfl rfl (e_call' rfl (RPut_spec x.total 8 (by omega)) ?_)
        rintro _ M2 _ hM2 ⟨rfl, A2, c2, rfl, hA2⟩
        refine ⟨⟨hM2, Keeps.mem⟩, ?_⟩
        refine to_two 5 9 (by kernel_rfl) ?_ ?_
        ·
          refine two_e 5 rfl rfl (e_call' rfl (RPut_spec x.batch 8 (by omega)) ?_)
          rintro _ M3 _ hM3 ⟨rfl, A3, c3, rfl, hA3⟩
          refine ⟨⟨hM2.trans hM3, Keeps.mem⟩, ?_⟩
          refine to_two 8 9 (by kernel_rfl) ?_ ?_
          ·
            refine two_e 8 rfl rfl (e_call' rfl (RPut_spec x.reserved 8 (by omega)) ?_)
            rintro _ M4 _ hM4 ⟨rfl, A4, c4, rfl, hA4⟩
            refine ⟨⟨hM2.trans (hM3.trans hM4), Keeps.mem⟩, ?_⟩
            refine to_e 9 rfl (by kernel_rfl) rfl (e_buildSlice rfl (by decide) (fun bA => ?_))
            refine ⟨⟨by first | exact Le.refl _ | exact hM2 | exact hM2.trans hM3 | exact hM2.trans (hM3.trans hM4), Keeps.mem⟩, ?_⟩
            refine to_e 11 rfl (by kernel_rfl) rfl (e_buildSlice rfl (by decide) (fun bB => ?_))
            refine ⟨⟨hM2.trans (hM3.trans hM4), Keeps.mem⟩, ?_⟩
            refine .pub bA inferInstance (fun M5 hM5 hbA => ?_)
            refine .pub bB inferInstance (fun M6 hM6 hbB => ?_)
            have hm : Le M M6 := hM2.trans (hM3.trans (hM4.trans (hM5.trans hM6)))
            have hfl : [putB x.total.toNat 8, putB x.batch.toNat 8, putB x.reserved.toNat 8, [0], head].flatten = bytesC { x with retired := false } head := by simp [bytesC]
            have hR : Bytes M6 (some ⟨bA, 0, none⟩) 1 1 [0] := Row.mono (Row.whole hbA rfl (by omega)) hM6
            refine to_e 12 rfl (by kernel_rfl) rfl (e_call' rfl (RCat_own (Row.whole hbB rfl (by omega)) (.cons (hA2.mono (hM3.trans (hM4.trans (hM5.trans hM6)))) (.cons (hA3.mono (hM4.trans (hM5.trans hM6))) (.cons (hA4.mono (hM5.trans hM6)) (.cons hR (.cons (h.mono hm) .nil))))) (by rw [hfl, hbl]; omega)) ?_)
            rintro _ M7 _ hM7 ⟨rfl, A7, c7, E7, rfl, hE7, rfl⟩
            rw [hfl, hbl, hl] at hE7
            rw [hfl, hbl, hl]
            refine ⟨⟨hm, Keeps.mem⟩, ?_⟩
            refine to_p 13 rfl (by kernel_rfl) rfl (y_assign (v := .slice _ _ _) rfl) ?_
            refine to_nil (by kernel_rfl) (.then_normal (.sub (F' := [(2, _), (6, _)]) (.cons rfl (.cons rfl .nil)) (Jd3 _ _ _ _ ?_)))
            exact ⟨rfl, hm, A7, c7, E7, hE7, inferInstance, rfl⟩
          ·
            refine two_e 9 rfl rfl (e_buildSlice rfl (by decide) (fun bA => ?_))
            refine ⟨⟨by first | exact Le.refl _ | exact hM2 | exact hM2.trans hM3 | exact hM2.trans (hM3.trans hM4), Keeps.mem⟩, ?_⟩
            refine to_e 8 rfl (by kernel_rfl) rfl (e_call' rfl (RPut_spec x.reserved 8 (by omega)) ?_)
            rintro _ M4 _ hM4 ⟨rfl, A4, c4, rfl, hA4⟩
            refine ⟨⟨hM2.trans (hM3.trans hM4), Keeps.mem⟩, ?_⟩
            refine to_e 11 rfl (by kernel_rfl) rfl (e_buildSlice rfl (by decide) (fun bB => ?_))
            refine ⟨⟨hM2.trans (hM3.trans hM4), Keeps.mem⟩, ?_⟩
            refine .pub bA inferInstance (fun M5 hM5 hbA => ?_)
            refine .pub bB inferInstance (fun M6 hM6 hbB => ?_)
            have hm : Le M M6 := hM2.trans (hM3.trans (hM4.trans (hM5.trans hM6)))
            have hfl : [putB x.total.toNat 8, putB x.batch.toNat 8, putB x.reserved.toNat 8, [0], head].flatten = bytesC { x with retired := false } head := by simp [bytesC]
            have hR : Bytes M6 (some ⟨bA, 0, none⟩) 1 1 [0] := Row.mono (Row.whole hbA rfl (by omega)) hM6
            refine to_e 12 rfl (by kernel_rfl) rfl (e_call' rfl (RCat_own (Row.whole hbB rfl (by omega)) (.cons (hA2.mono (hM3.trans (hM4.trans (hM5.trans hM6)))) (.cons (hA3.mono (hM4.trans (hM5.trans hM6))) (.cons (hA4.mono (hM5.trans hM6)) (.cons hR (.cons (h.mono hm) .nil))))) (by rw [hfl, hbl]; omega)) ?_)
            rintro _ M7 _ hM7 ⟨rfl, A7, c7, E7, rfl, hE7, rfl⟩
            rw [hfl, hbl, hl] at hE7
            rw [hfl, hbl, hl]
            refine ⟨⟨hm, Keeps.mem⟩, ?_⟩
            refine to_p 13 rfl (by kernel_rfl) rfl (y_assign (v := .slice _ _ _) rfl) ?_
            refine to_nil (by kernel_rfl) (.then_normal (.sub (F' := [(2, _), (6, _)]) (.cons rfl (.cons rfl .nil)) (Jd3 _ _ _ _ ?_)))
            exact ⟨rfl, hm, A7, c7, E7, hE7, inferInstance, rfl⟩
        ·
          refine two_e 9 rfl rfl (e_buildSlice rfl (by decide) (fun bA => ?_))
          refine ⟨⟨by first | exact Le.refl _ | exact hM2 | exact hM2.trans hM3 | exact hM2.trans (hM3.trans hM4), Keeps.mem⟩, ?_⟩
          refine to_e 5 rfl (by kernel_rfl) rfl (e_call' rfl (RPut_spec x.batch 8 (by omega)) ?_)
          rintro _ M3 _ hM3 ⟨rfl, A3, c3, rfl, hA3⟩
          refine ⟨⟨hM2.trans hM3, Keeps.mem⟩, ?_⟩
          refine to_e 8 rfl (by kernel_rfl) rfl (e_call' rfl (RPut_spec x.reserved 8 (by omega)) ?_)
          rintro _ M4 _ hM4 ⟨rfl, A4, c4, rfl, hA4⟩
          refine ⟨⟨hM2.trans (hM3.trans hM4), Keeps.mem⟩, ?_⟩
          refine to_e 11 rfl (by kernel_rfl) rfl (e_buildSlice rfl (by decide) (fun bB => ?_))
          refine ⟨⟨hM2.trans (hM3.trans hM4), Keeps.mem⟩, ?_⟩
          refine .pub bA inferInstance (fun M5 hM5 hbA => ?_)
          refine .pub bB inferInstance (fun M6 hM6 hbB => ?_)
          have hm : Le M M6 := hM2.trans (hM3.trans (hM4.trans (hM5.trans hM6)))
          have hfl : [putB x.total.toNat 8, putB x.batch.toNat 8, putB x.reserved.toNat 8, [0], head].flatten = bytesC { x with retired := false } head := by simp [bytesC]
          have hR : Bytes M6 (some ⟨bA, 0, none⟩) 1 1 [0] := Row.mono (Row.whole hbA rfl (by omega)) hM6
          refine to_e 12 rfl (by kernel_rfl) rfl (e_call' rfl (RCat_own (Row.whole hbB rfl (by omega)) (.cons (hA2.mono (hM3.trans (hM4.trans (hM5.trans hM6)))) (.cons (hA3.mono (hM4.trans (hM5.trans hM6))) (.cons (hA4.mono (hM5.trans hM6)) (.cons hR (.cons (h.mono hm) .nil))))) (by rw [hfl, hbl]; omega)) ?_)
          rintro _ M7 _ hM7 ⟨rfl, A7, c7, E7, rfl, hE7, rfl⟩
          rw [hfl, hbl, hl] at hE7
          rw [hfl, hbl, hl]
          refine ⟨⟨hm, Keeps.mem⟩, ?_⟩
          refine to_p 13 rfl (by kernel_rfl) rfl (y_assign (v := .slice _ _ _) rfl) ?_
          refine to_nil (by kernel_rfl) (.then_normal (.sub (F' := [(2, _), (6, _)]) (.cons rfl (.cons rfl .nil)) (Jd3 _ _ _ _ ?_)))
          exact ⟨rfl, hm, A7, c7, E7, hE7, inferInstance, rfl⟩
      ·
        refine two_e 9 rfl rfl (e_buildSlice rfl (by decide) (fun bA => ?_))
        refine ⟨⟨by first | exact Le.refl _ | exact hM2 | exact hM2.trans hM3 | exact hM2.trans (hM3.trans hM4), Keeps.mem⟩, ?_⟩
        refine to_e 2 rfl (by kernel_rfl) rfl (e_call' rfl (RPut_spec x.total 8 (by omega)) ?_)
        rintro _ M2 _ hM2 ⟨rfl, A2, c2, rfl, hA2⟩
        refine ⟨⟨hM2, Keeps.mem⟩, ?_⟩
        refine to_e 5 rfl (by kernel_rfl) rfl (e_call' rfl (RPut_spec x.batch 8 (by omega)) ?_)
        rintro _ M3 _ hM3 ⟨rfl, A3, c3, rfl, hA3⟩
        refine ⟨⟨hM2.trans hM3, Keeps.mem⟩, ?_⟩
        refine to_e 8 rfl (by kernel_rfl) rfl (e_call' rfl (RPut_spec x.reserved 8 (by omega)) ?_)
        rintro _ M4 _ hM4 ⟨rfl, A4, c4, rfl, hA4⟩
        refine ⟨⟨hM2.trans (hM3.trans hM4), Keeps.mem⟩, ?_⟩
        refine to_e 11 rfl (by kernel_rfl) rfl (e_buildSlice rfl (by decide) (fun bB => ?_))
        refine ⟨⟨hM2.trans (hM3.trans hM4), Keeps.mem⟩, ?_⟩
        refine .pub bA inferInstance (fun M5 hM5 hbA => ?_)
        refine .pub bB inferInstance (fun M6 hM6 hbB => ?_)
        have hm : Le M M6 := hM2.trans (hM3.trans (hM4.trans (hM5.trans hM6)))
        have hfl : [putB x.total.toNat 8, putB x.batch.toNat 8, putB x.reserved.toNat 8, [0], head].flatten = bytesC { x with retired := false } head := by simp [bytesC]
        have hR : Bytes M6 (some ⟨bA, 0, none⟩) 1 1 [0] := Row.mono (Row.whole hbA rfl (by omega)) hM6
        refine to_e 12 rfl (by kernel_rfl) rfl (e_call' rfl (RCat_own (Row.whole hbB rfl (by omega)) (.cons (hA2.mono (hM3.trans (hM4.trans (hM5.trans hM6)))) (.cons (hA3.mono (hM4.trans (hM5.trans hM6))) (.cons (hA4.mono (hM5.trans hM6)) (.cons hR (.cons (h.mono hm) .nil))))) (by rw [hfl, hbl]; omega)) ?_)
        rintro _ M7 _ hM7 ⟨rfl, A7, c7, E7, rfl, hE7, rfl⟩
        rw [hfl, hbl, hl] at hE7
        rw [hfl, hbl, hl]
        refine ⟨⟨hm, Keeps.mem⟩, ?_⟩
        refine to_p 13 rfl (by kernel_rfl) rfl (y_assign (v := .slice _ _ _) rfl) ?_
        refine to_nil (by kernel_rfl) (.then_normal (.sub (F' := [(2, _), (6, _)]) (.cons rfl (.cons rfl .nil)) (Jd3 _ _ _ _ ?_)))
        exact ⟨rfl, hm, A7, c7, E7, hE7, inferInstance, rfl⟩
theorem RRead21_spec {A : Option Addr} {n c : Nat} {b : List UInt8} (h : Bytes M A n c b) (hn : n ≤ 140737488355328) :
    Con Tryd.prog 50 #[.slice A n c] G M L (fun v M' L' => L' = L ∧ M = M' ∧ ∃ A' n' c', v = .tuple #[.agg (List.toArray (ccells (readC b).1.1)), .slice A' n' c', .int .i64 (readC b).2] ∧ Bytes M' A' n' c' (readC b).1.2) noPanic := by
  have hc := h.le
  have hs := h.size
  have hX : List.toArray (ccells (xOf b)) = #[.int .u64 ((UInt64.ofNat (getB (b.take 8))).toNat : Int), .int .u64 ((UInt64.ofNat (getB ((b.drop 8).take 8))).toNat : Int), .int .u64 ((UInt64.ofNat (getB ((b.drop 16).take 8))).toNat : Int), .int .u64 ((UInt64.ofNat (getB ((b.drop 16).take 8))).toNat : Int), .bool (decide (((b.getD 24 0).toNat : Int) = 1))] := by
    have e : (b.getD 24 0 == 1) = decide (((b.getD 24 0).toNat : Int) = 1) := by
      rw [Bool.eq_iff_iff, beq_iff_eq, decide_eq_true_eq, ← UInt8.toNat_inj]
      show _ = 1 ↔ _
      omega
    rw [← e]; rfl
  refine enter (args := [_]) (fn := Tryd.f50) ⟨Tryd.func50, rfl, by kernel_rfl, by kernel_rfl⟩ 54 rfl ?_
  refine x_seq (x_region ?_)
  refine tl_e rfl (e_alloc (fun b1 => ?_))
  refine tl_y rfl (y_assign rfl) ?_
  refine tl_y rfl (y_assign rfl) ?_
  refine tl_nil (.then_normal ?_)
  refine x_seq (x_region ?_)
  refine tl_e rfl (e_alloc (fun b2 => ?_))
  refine tl_nil (.then_normal ?_)
  refine x_seq (x_seq (x_region ?_))
  refine tl_y rfl (y_move (v := .slice _ _ _) rfl) ?_
  refine tl_y rfl (y_len rfl) ?_
  refine tl_y rfl (y_lss rfl rfl) ?_
  refine tl_nil (.then_normal ?_)
  refine .sub (F' := [(0, _), (2, _), (5, _), (8, _)]) (.cons rfl (.cons rfl (.cons rfl (.cons rfl .nil)))) ?_
  refine x_cond rfl (fun hc1 => ?_) (fun hc1 => ?_)
  ·
    refine x_seq (x_region ?_)
    refine tl_y rfl (y_loadAgg rfl rfl (.own inferInstance inferInstance)) ?_
    refine tl_e rfl (e_store rfl rfl (by rfl) (by rfl) inferInstance inferInstance inferInstance ?_)
    refine tl_y rfl (y_assign rfl) ?_
    refine tl_y rfl (y_assign rfl) ?_
    refine tl_nil (.then_normal ?_)
    refine .sub (F' := [(2, _), (3, _), (4, _)]) (.cons rfl (.cons rfl (.cons rfl .nil))) ?_
    refine x_ret (.then_ret (retRV (L' := L) (rv3 rfl (rc_cellAgg (by rfl) rfl (.own inferInstance inferInstance)) (rc_tmp rfl) (rc_tmp rfl)) inferInstance (Le.refl _) (by
  rw [show readC b = ((zeroC, []), 2) by rw [readC, if_pos (by omega)]]
  exact ⟨rfl, rfl, none, 0, 0, rfl, Row.nil _ _⟩)))
  ·
    have hn25 : 25 ≤ n := by omega
    obtain ⟨g, o, hAe, hby⟩ := h.byte (by omega)
    have h24 := fun L => hby L 24 (by omega)
    have hbx := (b.getD 24 0).toNat_lt
    refine x_skip (.then_normal ?_)
    refine x_seq (x_region ?_)
    refine tl_y rfl (y_move (v := .slice _ _ _) rfl) ?_
    refine tl_y rfl (y_sliceH rfl rfl (by omega) (by omega)) ?_
    refine tl_e rfl (e_call' rfl (RGet_spec (n := 8) (Bytes.take h 8 (by omega)) (by omega)) ?_)
    rintro _ _ _ _ ⟨rfl, rfl, x1, hx1, rfl⟩
    obtain rfl : x1 = UInt64.ofNat (getB (b.take 8)) := by rw [← hx1]; simp
    refine tl_y rfl (y_move (v := .tuple _) rfl) ?_
    refine tl_y rfl (y_extract rfl) ?_
    refine tl_y rfl (y_extract rfl) ?_
    refine tl_y rfl (y_fieldAddr rfl) ?_
    refine tl_e rfl (e_store rfl rfl (by rfl) (by rfl) inferInstance inferInstance inferInstance ?_)
    refine tl_nil (.then_normal ?_)
    refine .sub (F' := [(0, _), (2, _), (5, _)]) (.cons rfl (.cons rfl (.cons rfl .nil))) ?_
    refine x_seq (x_region ?_)
    refine tl_y rfl (y_move (v := .slice _ _ _) rfl) ?_
    refine tl_y rfl (y_sliceLH rfl rfl rfl (by omega) (by omega)) ?_
    refine tl_e rfl (e_call' rfl (RGet_spec (n := 8) (h.sub 8 16 (by omega) (by omega)) (by omega)) ?_)
    rintro _ _ _ _ ⟨rfl, rfl, x2, hx2, rfl⟩
    obtain rfl : x2 = UInt64.ofNat (getB ((b.drop 8).take 8)) := by rw [← hx2]; simp
    refine tl_y rfl (y_move (v := .tuple _) rfl) ?_
    refine tl_y rfl (y_extract rfl) ?_
    refine tl_y rfl (y_extract rfl) ?_
    refine tl_y rfl (y_fieldAddr rfl) ?_
    refine tl_e rfl (e_store rfl rfl (by rfl) (by rfl) inferInstance inferInstance inferInstance ?_)
    refine tl_nil (.then_normal ?_)
    refine .sub (F' := [(0, _), (2, _), (5, _)]) (.cons rfl (.cons rfl (.cons rfl .nil))) ?_
    refine x_seq (x_region ?_)
    refine tl_y rfl (y_move (v := .slice _ _ _) rfl) ?_
    refine tl_y rfl (y_sliceLH rfl rfl rfl (by omega) (by omega)) ?_
    refine tl_e rfl (e_call' rfl (RGet_spec (n := 8) (h.sub 16 24 (by omega) (by omega)) (by omega)) ?_)
    rintro _ _ _ _ ⟨rfl, rfl, x3, hx3, rfl⟩
    obtain rfl : x3 = UInt64.ofNat (getB ((b.drop 16).take 8)) := by rw [← hx3]; simp
    refine tl_y rfl (y_move (v := .tuple _) rfl) ?_
    refine tl_y rfl (y_extract rfl) ?_
    refine tl_y rfl (y_extract rfl) ?_
    refine tl_y rfl (y_fieldAddr rfl) ?_
    refine tl_e rfl (e_store rfl rfl (by rfl) (by rfl) inferInstance inferInstance inferInstance ?_)
    refine tl_nil (.then_normal ?_)
    refine .sub (F' := [(0, _), (2, _), (5, _)]) (.cons rfl (.cons rfl (.cons rfl .nil))) ?_
    refine x_seq (x_region ?_)
    refine tl_y rfl (y_fieldAddr rfl) ?_
    refine tl_y rfl (y_load rfl rfl (.own inferInstance inferInstance)) ?_
    refine tl_y rfl (y_fieldAddr rfl) ?_
    refine tl_e rfl (e_store rfl rfl (by rfl) (by rfl) inferInstance inferInstance inferInstance ?_)
    refine tl_nil (.then_normal ?_)
    refine x_seq (x_region ?_)
    refine tl_y rfl (y_move (v := .slice _ _ _) rfl) ?_
    refine tl_y rfl (y_indexAddr (b := g) (o := o) (by rw [hAe]; rfl) rfl (by omega)) ?_
    refine tl_y rfl (y_load rfl rfl (.at_ (h24 _) (by omega))) ?_
    refine tl_y rfl (y_eql rfl rfl) ?_
    refine tl_y rfl (y_fieldAddr rfl) ?_
    refine tl_e rfl (e_store rfl rfl (by rfl) (by rfl) inferInstance inferInstance inferInstance ?_)
    refine .eqL (L' := (b2, .cells (List.toArray (ccells (xOf b))) 81 (0, 0)) :: (b1, .cells (List.toArray [.int .u64 0, .int .u64 0, .int .u64 0, .int .u64 0, .bool false]) 81 (0, 0)) :: L) (by rw [hX]) ?_
    refine tl_nil (.then_normal ?_)
    refine .sub (F' := [(0, _), (2, _), (5, _)]) (.cons rfl (.cons rfl (.cons rfl .nil))) ?_
    refine x_seq (x_seq ?_)
    refine x_draw 11 hmix rfl ?_
    refine to_p 0 rfl (by kernel_rfl) rfl (y_move (v := .slice _ _ _) rfl) ?_
    refine to_p 1 rfl (by kernel_rfl) rfl (y_indexAddr (b := g) (o := o) (by rw [hAe]; rfl) rfl (by omega)) ?_
    refine to_y 2 rfl (by kernel_rfl) rfl (y_load rfl rfl (.at_ (h24 _) (by omega))) ?_
    refine to_p 3 rfl (by kernel_rfl) rfl (y_gtr rfl rfl) ?_
    refine to_p 4 rfl (by kernel_rfl) rfl (y_move (v := .bool _) rfl) ?_
    refine to_cases (s := 43) rfl (fun hk1 => ?_) (fun hk1 => ?_)
    ·
      refine to_skip 5 rfl (by kernel_rfl) rfl ?_
      refine to_skip 6 rfl (by kernel_rfl) rfl ?_
      refine to_skip 7 rfl (by kernel_rfl) rfl ?_
      refine to_skip 8 rfl (by kernel_rfl) rfl ?_
      refine to_skip 9 rfl (by kernel_rfl) rfl ?_
      refine to_p 10 rfl (by kernel_rfl) rfl (y_pickT rfl rfl) ?_
      refine to_nil (by kernel_rfl) (.then_normal ?_)
      refine .sub (F' := [(0, _), (2, _), (5, _), (49, _)]) (.cons rfl (.cons rfl (.cons rfl (.cons rfl .nil)))) ?_
      refine x_true rfl rfl ?_
      refine x_seq (x_region ?_)
      refine tl_y rfl (y_build rfl) ?_
      refine tl_e rfl (e_store rfl rfl (by rfl) (by rfl) inferInstance inferInstance inferInstance ?_)
      refine tl_y rfl (y_assign rfl) ?_
      refine tl_y rfl (y_assign rfl) ?_
      refine tl_nil (.then_normal ?_)
      refine .sub (F' := [(2, _), (3, _), (4, _)]) (.cons rfl (.cons rfl (.cons rfl .nil))) ?_
      refine x_ret (.then_ret (retRV (L' := L) (rv3 rfl (rc_cellAgg (by rfl) rfl (.own inferInstance inferInstance)) (rc_tmp rfl) (rc_tmp rfl)) inferInstance (Le.refl _) (by
  rw [show readC b = ((zeroC, []), 3) by rw [readC, if_neg (by omega), if_pos (Or.inl (by omega))]]
  exact ⟨rfl, rfl, none, 0, 0, rfl, Row.nil _ _⟩)))
    ·
      refine to_y 5 rfl (by kernel_rfl) rfl (y_loadAgg rfl rfl (.own inferInstance inferInstance)) ?_
      refine to_p 6 rfl (by kernel_rfl) rfl (y_move (v := .slice _ _ _) rfl) ?_
      refine to_p 7 rfl (by kernel_rfl) rfl (y_sliceL rfl rfl (by omega)) ?_
      refine to_e 8 rfl (by kernel_rfl) rfl (e_call' rfl (RMay21_spec (xOf b)) ?_)
      rintro _ _ _ _ ⟨rfl, rfl, rfl⟩
      refine ⟨⟨(by first | exact Le.refl _ | assumption), Keeps.mem⟩, ?_⟩
      refine to_p 9 rfl (by kernel_rfl) rfl (y_not rfl) ?_
      refine to_p 10 rfl (by kernel_rfl) rfl (y_pickF rfl rfl) ?_
      refine to_nil (by kernel_rfl) (.then_normal ?_)
      refine .sub (F' := [(0, _), (2, _), (5, _), (49, _)]) (.cons rfl (.cons rfl (.cons rfl (.cons rfl .nil)))) ?_
      refine x_condb rfl (fun hc2 => ?_) (fun hc2 => ?_)
      ·
        refine x_seq (x_region ?_)
        refine tl_y rfl (y_build rfl) ?_
        refine tl_e rfl (e_store rfl rfl (by rfl) (by rfl) inferInstance inferInstance inferInstance ?_)
        refine tl_y rfl (y_assign rfl) ?_
        refine tl_y rfl (y_assign rfl) ?_
        refine tl_nil (.then_normal ?_)
        refine .sub (F' := [(2, _), (3, _), (4, _)]) (.cons rfl (.cons rfl (.cons rfl .nil))) ?_
        refine x_ret (.then_ret (retRV (L' := L) (rv3 rfl (rc_cellAgg (by rfl) rfl (.own inferInstance inferInstance)) (rc_tmp rfl) (rc_tmp rfl)) inferInstance (Le.refl _) (by
  rw [show readC b = ((zeroC, []), 3) by rw [readC, if_neg (by omega), if_pos (Or.inr (by rw [hs]; simpa using hc2))]]
  exact ⟨rfl, rfl, none, 0, 0, rfl, Row.nil _ _⟩)))
      ·
        refine x_skip (.then_normal ?_)
        refine x_seq ?_
        refine x_draw 3 hmix rfl ?_
        refine to_y 0 rfl (by kernel_rfl) rfl (y_loadAgg rfl rfl (.own inferInstance inferInstance)) ?_
        refine to_p 1 rfl (by kernel_rfl) rfl (y_move (v := .slice _ _ _) rfl) ?_
        refine to_p 2 rfl (by kernel_rfl) rfl (y_sliceL rfl rfl (by omega)) ?_
        refine to_t 3 rfl (by kernel_rfl) (by kernel_rfl) rfl (e_store rfl rfl (by rfl) (by rfl) inferInstance inferInstance inferInstance ?_)
        refine to_p 4 rfl (by kernel_rfl) rfl (y_assign (v := .slice _ _ _) rfl) ?_
        refine to_p 5 rfl (by kernel_rfl) rfl (y_assign rfl) ?_
        refine to_nil (by kernel_rfl) (.then_normal ?_)
        refine .sub (F' := [(2, _), (3, _), (4, _)]) (.cons rfl (.cons rfl (.cons rfl .nil))) ?_
        refine x_ret (retRV (L' := L) (rv3 rfl (rc_cellAgg (by rfl) rfl (.own inferInstance inferInstance)) (rc_tmp rfl) (rc_tmp rfl)) inferInstance (Le.refl _) (by
  have hA2 := h.sub 25 n (by omega) (by omega)
  rw [List.take_of_length_le (by simp; omega)] at hA2
  rw [show readC b = ((xOf b, b.drop 25), 0) by rw [readC, if_neg (by omega), if_neg (by rw [hs]; simp at hc2 hk1; simp [hc2]; omega)]]
  exact ⟨rfl, rfl, _, _, _, rfl, hA2⟩))
end
end Go.Proofs.YtbgdjdhbejbhkaaDoor
