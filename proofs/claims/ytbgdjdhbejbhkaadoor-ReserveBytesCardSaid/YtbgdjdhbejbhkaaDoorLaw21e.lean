/-
Contracts of functions, each proved by a walk through its code.
-/
import Derived.Test.YtbgdjdhbejbhkaaDoorCountPure
import Derived.Test.YtbgdjdhbejbhkaaDoorLawAM
set_option linter.unusedVariables false
set_option linter.unusedSimpArgs false
set_option linter.constructorNameAsVariable false
namespace Go.Proofs.YtbgdjdhbejbhkaaDoor
open Go Go.Eng
theorem src_in {M : Mem} {L : Own} {s n : Nat} {A : Option Addr} {vs : List Value} {p : Nat × Obj} (h : RowIn M L s A n vs) : Src M (p :: L) s A n vs := ⟨h.len, fun w hw h0 => by
  rcases Nat.eq_zero_or_pos n with h1 | h1
  · subst h1; simp at h0
  · obtain ⟨b, o, e, hc⟩ := h.addr h1
    exact ⟨_, e, fun j v hj => by rw [add_plain]; exact hc j v hj w ⟨hw.ro, fun q hq => hw.own q (List.mem_cons_of_mem _ hq)⟩⟩⟩
section
variable {G : World} {M : Mem} {L R : Own} {p d c : Nat} {S : DS} {s : SS} {r : DRep} {A0 HA : Option Addr} {l0 c0 hl hc : Nat}
/-- A clone of what lies anywhere, owned. -/
theorem bytesClone_own {A : Option Addr} {n c : Nat} {bs : List UInt8} (h : RowIn M L 1 A n (bs.map bv)) (hn : n ≤ 140737488355328) :
    Con Tryd.prog 73 #[.slice A n c] G M L (fun v M' L' => M = M' ∧ ∃ A' c' E, v = .slice A' n c' ∧ OwnRow 5 1 A' n c' (bs.map bv) E ∧ L' = E ++ L) noPanic := by
  have hbl : bs.length = n := by have := h.len; simpa using this
  refine enter (args := [_]) (fn := Tryd.f73) ⟨Tryd.func73, rfl, by kernel_rfl, by kernel_rfl⟩ 8 rfl ?_
  refine x_seq (x_region ?_)
  refine tl_y rfl (y_assign rfl) ?_
  refine tl_nil (.then_normal ?_)
  refine x_seq (x_seq (x_region ?_))
  refine tl_y rfl (y_move (v := .slice _ _ _) rfl) ?_
  refine tl_y rfl (y_eqNilSlice rfl rfl) ?_
  refine tl_nil (.then_normal ?_)
  refine x_condb rfl (fun hc1 => ?_) (fun hc1 => ?_)
  ·
    obtain rfl : A = none := by simpa using hc1
    have h0 : n = 0 := by
      rcases Nat.eq_zero_or_pos n with h0 | h0
      · exact h0
      · obtain ⟨b, o, e, _⟩ := h.addr h0; cases e
    subst h0
    have hb : bs = [] := List.eq_nil_of_length_eq_zero hbl
    subst hb
    refine x_seq (x_region ?_)
    refine tl_y rfl (y_assign rfl) ?_
    refine tl_nil (.then_normal ?_)
    refine x_ret (.then_ret (ret1 rfl rfl (Le.refl _) ⟨rfl, none, 0, [], rfl, .nil, rfl⟩))
  ·
    refine x_skip (.then_normal ?_)
    refine x_seq (x_region ?_)
    refine tl_e rfl (e_buildSlice0 (fun b1 => ?_))
    refine tl_y rfl (y_move (v := .slice _ _ _) rfl) ?_
    refine tl_e rfl (e_append1 (by decide) rfl rfl OwnRow.made00 (src_in h) (all_one_bv bs) (by omega) (by omega) (fun A' cap' E hE => ?_))
    rw [Nat.zero_add, List.nil_append] at hE; rw [Nat.zero_add]
    refine tl_y rfl (y_assign (v := .slice _ _ _) rfl) ?_
    refine tl_nil (.then_normal ?_)
    refine .sub (F' := [(2, _)]) (.cons rfl .nil) ?_
    refine x_ret (ret1 rfl rfl (Le.refl _) ⟨rfl, _, _, E, rfl, hE, rfl⟩)
theorem bytesClone_in {A : Option Addr} {n c : Nat} {bs : List UInt8} (h : RowIn M L 1 A n (bs.map bv)) (hn : n ≤ 140737488355328) :
    Con Tryd.prog 73 #[.slice A n c] G M L (fun v M' L' => L' = L ∧ ∃ A' c', v = .slice A' n c' ∧ Bytes M' A' n c' bs) noPanic := by
  have hbl : bs.length = n := by have := h.len; simpa using this
  refine enter (args := [_]) (fn := Tryd.f73) ⟨Tryd.func73, rfl, by kernel_rfl, by kernel_rfl⟩ 8 rfl ?_
  refine x_seq (x_region ?_)
  refine tl_y rfl (y_assign rfl) ?_
  refine tl_nil (.then_normal ?_)
  refine x_seq (x_seq (x_region ?_))
  refine tl_y rfl (y_move (v := .slice _ _ _) rfl) ?_
  refine tl_y rfl (y_eqNilSlice rfl rfl) ?_
  refine tl_nil (.then_normal ?_)
  refine x_condb rfl (fun hc1 => ?_) (fun hc1 => ?_)
  ·
    obtain rfl : A = none := by simpa using hc1
    have h0 : n = 0 := by
      rcases Nat.eq_zero_or_pos n with h0 | h0
      · exact h0
      · obtain ⟨b, o, e, _⟩ := h.addr h0; cases e
    subst h0
    have hb : bs = [] := List.eq_nil_of_length_eq_zero hbl
    subst hb
    refine x_seq (x_region ?_)
    refine tl_y rfl (y_assign rfl) ?_
    refine tl_nil (.then_normal ?_)
    refine x_ret (.then_ret (ret1 rfl rfl (Le.refl _) ⟨rfl, none, 0, rfl, Row.nil _ _⟩))
  ·
    refine x_skip (.then_normal ?_)
    refine x_seq (x_region ?_)
    refine tl_e rfl (e_buildSlice0 (fun b1 => ?_))
    refine tl_y rfl (y_move (v := .slice _ _ _) rfl) ?_
    refine tl_e rfl (e_append1 (by decide) rfl rfl OwnRow.made00 (src_in h) (all_one_bv bs) (by omega) (by omega) (fun A' cap' E hE => ?_))
    rw [Nat.zero_add, List.nil_append] at hE; rw [Nat.zero_add]
    refine tl_y rfl (y_assign (v := .slice _ _ _) rfl) ?_
    refine tl_nil (.then_normal ?_)
    refine .sub (F' := [(2, _)]) (.cons rfl .nil) ?_
    refine x_ret (.pubRow hE fun M' hle hr => ret1 rfl rfl hle ⟨rfl, _, _, rfl, hr⟩)
/-- What it tells is the caller's own. -/
theorem Head_own (x : Cn) {head : List UInt8} (h : Bytes M HA hl hc head) (hn : hl ≤ 140737488355328) :
    Con Tryd.prog 53 #[.pointer (some ⟨c, 0, none⟩)] G M (cL c x HA hl hc p :: R) (fun v M' L' => M = M' ∧ ∃ A' c' E, v = .slice A' hl c' ∧ OwnRow 5 1 A' hl c' (head.map bv) E ∧ L' = E ++ (cL c x HA hl hc p :: R)) noPanic := by
  refine enter (args := [_]) (fn := Tryd.f53) ⟨Tryd.func53, rfl, by kernel_rfl, by kernel_rfl⟩ 8 rfl ?_
  refine x_seq (x_region ?_)
  refine tl_y rfl (y_assign rfl) ?_
  refine tl_nil (.then_normal ?_)
  refine x_seq (x_region ?_)
  refine tl_y rfl (y_move (v := .pointer _) rfl) ?_
  refine tl_y rfl (y_nilCheck rfl) ?_
  refine tl_y rfl (y_fieldAddr rfl) ?_
  refine tl_y rfl (y_load rfl rfl (.own inferInstance inferInstance)) ?_
  refine tl_e rfl (e_call' rfl (bytesClone_own h.in_ hn) ?_)
  rintro _ M1 _ hM1 ⟨rfl, A1, c1, E, rfl, hE, rfl⟩
  refine tl_y rfl (y_assign (v := .slice _ _ _) rfl) ?_
  refine tl_nil (.then_normal ?_)
  refine .sub (F' := [(2, _)]) (.cons rfl .nil) ?_
  refine x_ret (ret1 rfl rfl (Le.refl _) ⟨rfl, A1, c1, E, rfl, hE, rfl⟩)
theorem cNew_in (hg : ShaG M) (h : IsDisk M r S) (ok : OkS S s) {B : Nat} (hw : S.within B) (hB : B ≤ 1000000) (hb : Bytes M A0 l0 c0 s.b) {head : List UInt8} {E : Own} (hh : OwnRow 5 1 HA hl hc (head.map bv) E) (total batch : UInt64) :
    Con Tryd.prog 51 #[.pointer (some ⟨p, 0, none⟩), .slice HA hl hc, .int .u64 (total.toNat : Int), .int .u64 (batch.toNat : Int)] G M (dL d r S (sL p d s A0 l0 c0 :: (E ++ R)))
      (fun v M' L' => if (newC S s head total batch).2 = 0 then ∃ c A' c', v = .tuple #[.pointer (some ⟨c, 0, none⟩), .int .i64 0] ∧ Bytes M' A' hl c' head ∧ SK p d (newC S s head total batch).1.1 (newC S s head total batch).1.2 (cL c (newX total batch) A' hl c' p :: (E ++ R)) M' L'
        else v = .tuple #[.pointer none, .int .i64 (newC S s head total batch).2] ∧ SK p d (newC S s head total batch).1.1 (newC S s head total batch).1.2 (E ++ R) M' L') noPanic := by
  have hl' : head.length = hl := by have := hh.len; simpa using this
  have hok := loadRes_ok ok
  refine enter (args := [_, _, _, _]) (fn := Tryd.f51) ⟨Tryd.func51, rfl, by kernel_rfl, by kernel_rfl⟩ 47 rfl ?_
  refine x_seq (x_region ?_)
  refine tl_y rfl (y_assign rfl) ?_
  refine tl_y rfl (y_assign rfl) ?_
  refine tl_nil (.then_normal ?_)
  refine x_seq (x_region ?_)
  refine tl_y rfl (y_move (v := .int _ _) rfl) ?_
  refine tl_y rfl (y_move (v := .int _ _) rfl) ?_
  refine tl_y rfl (y_build rfl) ?_
  refine tl_e rfl (e_alloc (fun b1 => ?_))
  refine tl_e rfl (e_store rfl rfl (by rfl) (by rfl) inferInstance inferInstance inferInstance ?_)
  refine tl_nil (.then_normal ?_)
  refine .sub (F' := [(0, _), (1, _), (10, _)]) (.cons rfl (.cons rfl (.cons rfl .nil))) ?_
  refine x_seq (x_seq (x_region ?_))
  refine tl_y rfl (y_loadAgg rfl rfl (.own inferInstance inferInstance)) ?_
  refine tl_y rfl (y_move (v := .slice _ _ _) rfl) ?_
  refine tl_e rfl (e_call' rfl (may_spec (newX total batch)) ?_)
  rintro _ _ _ _ ⟨rfl, rfl, rfl⟩
  refine tl_y rfl (y_not rfl) ?_
  refine tl_nil (.then_normal ?_)
  refine x_condb rfl (fun hc1 => ?_) (fun hc1 => ?_)
  ·
    refine x_seq (x_region ?_)
    refine tl_y rfl (y_assign rfl) ?_
    refine tl_y rfl (y_assign rfl) ?_
    refine tl_nil (.then_normal ?_)
    refine .sub (F' := [(8, _), (9, _)]) (.cons rfl (.cons rfl .nil)) ?_
    refine x_ret (.then_ret (.dropTo _ inferInstance (ret2 rfl rfl rfl (Le.refl _) (by
  have hm : mayB (newX total batch) head.length = false := by rw [hl']; simpa using hc1
  rw [show newC S s head total batch = ((S, s), 1) by rw [newC, if_pos hm]]
  rw [if_neg (by simp)]
  exact ⟨rfl, r, A0, l0, c0, h, hb, rfl⟩))))
  ·
    have hm : mayB (newX total batch) hl = true := by simpa using hc1
    have hm' : mayB (newX total batch) head.length = true := by rw [hl']; exact hm
    have hn200 : hl ≤ 200 := by rw [mayB, decide_eq_true_eq] at hm; omega
    refine x_skip (.then_normal ?_)
    refine .sub (F' := [(0, _), (1, _), (10, _)]) (.cons rfl (.cons rfl (.cons rfl .nil))) ?_
    refine x_seq (x_seq (x_region ?_))
    refine tl_y rfl (y_move (v := .pointer _) rfl) ?_
    refine .to (dL d r S (sL p d s A0 l0 c0 :: (b1, .cells (List.toArray [u64v total, u64v batch, .int .u64 0, .int .u64 0, .bool false]) 81 (0, 0)) :: (E ++ R))) inferInstance ?_
    refine tl_e rfl (e_call' rfl (Load_spec hg h ok hb) ?_)
    rintro _ M1 _ hM1 ⟨⟨r1, A1, l1, c1, h1, hb1, rfl⟩, TA, tn, tc, rfl, hT⟩
    refine tl_y rfl (y_move (v := .tuple _) rfl) ?_
    refine tl_y rfl (y_extract rfl) ?_
    refine tl_y rfl (y_extract rfl) ?_
    refine tl_y rfl (y_extract rfl) ?_
    refine tl_y rfl (y_assign (v := .slice _ _ _) rfl) ?_
    refine tl_y rfl (y_assign (v := .int _ _) rfl) ?_
    refine tl_y rfl (y_assign (v := .int _ _) rfl) ?_
    refine tl_nil (.then_normal ?_)
    refine .sub (F' := [(0, _), (1, _), (10, _), (13, _)]) (.cons rfl (.cons rfl (.cons rfl (.cons rfl .nil)))) ?_
    refine x_seq (x_region ?_)
    refine tl_y rfl (y_move (v := .int _ _) rfl) ?_
    refine tl_nil (.then_normal ?_)
    refine x_block ?_
    refine x_seq (x_region ?_)
    refine tl_y rfl (y_eql rfl rfl) ?_
    refine tl_y rfl (y_assign (v := .bool _) rfl) ?_
    refine tl_nil (.then_normal ?_)
    refine x_cond rfl (fun hc2 => ?_) (fun hc2 => ?_)
    ·
      refine x_seq (x_region ?_)
      refine tl_y rfl (y_assign rfl) ?_
      refine tl_y rfl (y_assign rfl) ?_
      refine tl_nil (.then_normal ?_)
      refine .sub (F' := [(0, _), (1, _), (8, _), (9, _), (10, _)]) (.cons rfl (.cons rfl (.cons rfl (.cons rfl (.cons rfl .nil))))) ?_
      refine x_ret (.block_ret (.then_ret (.dropTo (dL d r1 S (sL p d (loadRes S s).1 A1 l1 c1 :: (E ++ R))) inferInstance (ret2 rfl rfl rfl hM1 (by
  rw [show newC S s head total batch = ((S, (loadRes S s).1), 10) by rw [newC, if_neg (by simp [hm']), if_pos (by simpa using hc2)]]
  rw [if_neg (by simp)]
  exact ⟨rfl, r1, A1, l1, c1, h1, hb1, rfl⟩)))))
    ·
      refine x_seq (x_region ?_)
      refine tl_y rfl (y_eql rfl rfl) ?_
      refine tl_y rfl (y_assign (v := .bool _) rfl) ?_
      refine tl_nil (.then_normal ?_)
      refine .sub (F' := [(0, _), (1, _), (10, _), (13, _), (33, _)]) (.cons rfl (.cons rfl (.cons rfl (.cons rfl (.cons rfl .nil))))) ?_
      refine x_cond rfl (fun hc3 => ?_) (fun hc3 => ?_)
      ·
        refine x_skip (.block_normal (.then_normal ?_))
        refine x_seq (x_region ?_)
        refine tl_y rfl (y_move (v := .slice _ _ _) rfl) ?_
        refine tl_e rfl (e_call' rfl (bytesClone_in (hh.in_ inferInstance (by omega)) (by omega)) ?_)
        rintro _ M2 _ hM2 ⟨rfl, A2, c2, rfl, hA2⟩
        refine tl_y rfl (y_move (v := .pointer _) rfl) ?_
        refine tl_y rfl (y_build rfl) ?_
        refine tl_e rfl (e_box rfl (fun b2 => ?_))
        refine tl_y rfl (y_assign (v := .pointer _) rfl) ?_
        refine tl_nil (.then_normal ?_)
        refine .sub (F' := [(10, _), (14, _)]) (.cons rfl (.cons rfl .nil)) ?_
        refine x_seq (x_seq (x_region ?_))
        refine tl_y rfl (y_move (v := .pointer _) rfl) ?_
        refine tl_y rfl (y_loadAgg rfl rfl (.own inferInstance inferInstance)) ?_
        refine .to (dL d r1 S (sL p d (loadRes S s).1 A1 l1 c1 :: (b2, .cells (List.toArray [.int .u64 0, .int .u64 0, .int .u64 0, .int .u64 0, .bool false, .slice A2 hl c2, .pointer (some ⟨p, 0, none⟩)]) 160 (0, 0)) :: (b1, .cells (List.toArray [u64v total, u64v batch, .int .u64 0, .int .u64 0, .bool false]) 81 (0, 0)) :: (E ++ R))) inferInstance ?_
        refine tl_e rfl (e_call' rfl (csave_spec (hg.mono (hM1.trans hM2)) (h1.mono hM2) hok hw hB (hb1.mono hM2) hA2 zeroC (newX total batch)) ?_)
        rintro _ M3 _ hM3 ⟨⟨r3, A3, l3, c3, h3, hb3, rfl⟩, rfl⟩
        have hN : newC S s head total batch = saveRes S (loadRes S s).1 (bytesC (newX total batch) head) := by
          rw [newC, if_neg (by simp [hm']), if_neg (by simpa using hc2), if_pos (by simpa using hc3)]
        have hF := saveC_fresh S (loadRes S s).1 total batch head hm'
        have hLe : Le M M3 := hM1.trans (hM2.trans hM3)
        refine tl_y rfl (y_assign (v := .int _ _) rfl) ?_
        refine tl_nil (.then_normal ?_)
        refine .sub (F' := [(14, _), (15, _)]) (.cons rfl (.cons rfl .nil)) ?_
        refine x_seq (x_region ?_)
        refine tl_y rfl (y_move (v := .int _ _) rfl) ?_
        refine tl_y rfl (y_neq rfl rfl) ?_
        refine tl_nil (.then_normal ?_)
        refine x_condb rfl (fun hc4 => ?_) (fun hc4 => ?_)
        ·
          refine x_seq (x_region ?_)
          refine tl_y rfl (y_move (v := .int _ _) rfl) ?_
          refine tl_y rfl (y_assign rfl) ?_
          refine tl_y rfl (y_assign (v := .int _ _) rfl) ?_
          refine tl_nil (.then_normal ?_)
          refine .sub (F' := [(8, _), (9, _)]) (.cons rfl (.cons rfl .nil)) ?_
          refine x_ret (.then_ret (.dropTo (dL d r3 (saveC S (loadRes S s).1 zeroC (newX total batch) head).1.1.1 (sL p d (saveC S (loadRes S s).1 zeroC (newX total batch) head).1.1.2 A3 l3 c3 :: (E ++ R))) inferInstance (ret2 rfl rfl rfl hLe (by
  have h0 : (saveRes S (loadRes S s).1 (bytesC (newX total batch) head)).2 ≠ 0 := by
    rw [hF] at hc4; split at hc4
    · assumption
    · exact absurd hc4 (by simp)
  rw [if_pos h0] at hF
  rw [hF] at h3 hb3 ⊢
  rw [hN, if_neg h0]
  exact ⟨rfl, r3, A3, l3, c3, h3, hb3, rfl⟩))))
        ·
          refine x_skip (.then_normal ?_)
          refine x_seq (x_region ?_)
          refine tl_y rfl (y_move (v := .pointer _) rfl) ?_
          refine tl_y rfl (y_assign (v := .pointer _) rfl) ?_
          refine tl_y rfl (y_assign rfl) ?_
          refine tl_nil (.then_normal ?_)
          refine .sub (F' := [(8, _), (9, _)]) (.cons rfl (.cons rfl .nil)) ?_
          refine x_ret (.dropTo (dL d r3 (saveC S (loadRes S s).1 zeroC (newX total batch) head).1.1.1 (sL p d (saveC S (loadRes S s).1 zeroC (newX total batch) head).1.1.2 A3 l3 c3 :: cL b2 (saveC S (loadRes S s).1 zeroC (newX total batch) head).1.2 A2 hl c2 p :: (E ++ R))) inferInstance (ret2 rfl rfl rfl hLe (by
  have h0 : ¬ (saveRes S (loadRes S s).1 (bytesC (newX total batch) head)).2 ≠ 0 := fun h0 => by
    rw [hF, if_pos h0] at hc4; simp at hc4; exact h0 hc4
  rw [if_neg h0] at hF
  rw [hF] at h3 hb3 ⊢
  rw [hN, if_pos (by simpa using h0)]
  exact ⟨b2, A2, c2, rfl, hA2.mono hM3, r3, A3, l3, c3, h3, hb3, rfl⟩)))
      ·
        refine x_seq (x_region ?_)
        refine tl_y rfl (y_move (v := .int _ _) rfl) ?_
        refine tl_y rfl (y_assign rfl) ?_
        refine tl_y rfl (y_assign (v := .int _ _) rfl) ?_
        refine tl_nil (.then_normal ?_)
        refine x_ret (.block_ret (.then_ret (.dropTo (dL d r1 S (sL p d (loadRes S s).1 A1 l1 c1 :: (E ++ R))) inferInstance (ret2 rfl rfl rfl hM1 (by
  have h0 : (loadRes S s).2 ≠ 0 := by simpa using hc2
  rw [show newC S s head total batch = ((S, (loadRes S s).1), (loadRes S s).2) by rw [newC, if_neg (by simp [hm']), if_neg h0, if_neg (by simpa using hc3)]]
  rw [if_neg h0]
  exact ⟨rfl, r1, A1, l1, c1, h1, hb1, rfl⟩)))))
end
end Go.Proofs.YtbgdjdhbejbhkaaDoor
