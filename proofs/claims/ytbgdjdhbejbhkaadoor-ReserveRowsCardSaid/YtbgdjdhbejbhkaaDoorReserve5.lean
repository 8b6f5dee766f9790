/-
Contracts of functions, each proved by a walk through its code.
-/
import Derived.Test.YtbgdjdhbejbhkaaDoorReserve4
set_option linter.unusedVariables false
set_option linter.unusedSimpArgs false
namespace Go.Proofs.YtbgdjdhbejbhkaaDoor
open Go Go.Eng
section
variable {G : World} {M : Mem} {L R : Own} {p d : Nat} {S : DS} {s : SS} {r : DRep} {A0 HA : Option Addr} {l0 c0 hl hc : Nat}
theorem saveC_fresh (S : DS) (s : SS) (total batch : UInt64) (head : List UInt8) (hm : mayB (newX total batch) head.length = true) :
    saveC S s zeroC (newX total batch) head = if (saveRes S s (bytesC (newX total batch) head)).2 ≠ 0 then (((saveRes S s (bytesC (newX total batch) head)).1, zeroC), (saveRes S s (bytesC (newX total batch) head)).2) else (((saveRes S s (bytesC (newX total batch) head)).1, newX total batch), 0) := by
  have hne : newX total batch ≠ zeroC := fun e => by
    have h1 : (newX total batch).total = 0 := by rw [e]; rfl
    rw [mayB, decide_eq_true_eq, h1] at hm
    exact absurd hm.1 (by decide)
  rw [saveC, if_neg hne, if_neg (by simp [hm])]
theorem cNew_spec (hg : ShaG M) (h : IsDisk M r S) (ok : OkS S s) {B : Nat} (hw : S.within B) (hB : B ≤ 1000000) (hb : Bytes M A0 l0 c0 s.b) {head : List UInt8} (hh : Bytes M HA hl hc head) (total batch : UInt64) :
    Con Tryd.prog 51 #[.pointer (some ⟨p, 0, none⟩), .slice HA hl hc, .int .u64 (total.toNat : Int), .int .u64 (batch.toNat : Int)] G M (dL d r S (sL p d s A0 l0 c0 :: R))
      (fun v M' L' => if (newC S s head total batch).2 = 0 then ∃ c A' c', v = .tuple #[.pointer (some ⟨c, 0, none⟩), .int .i64 0] ∧ Bytes M' A' hl c' head ∧ SK p d (newC S s head total batch).1.1 (newC S s head total batch).1.2 (cL c (newX total batch) A' hl c' p :: R) M' L'
        else v = .tuple #[.pointer none, .int .i64 (newC S s head total batch).2] ∧ SK p d (newC S s head total batch).1.1 (newC S s head total batch).1.2 R M' L') noPanic := by
  have hl' := hh.size
  have hok := loadRes_ok ok
  refine enter (args := [_, _, _, _]) (fn := Tryd.f51) ⟨Tryd.func51, rfl, by kernel_rfl, by kernel_rfl⟩ 47 rfl ?_
  refine x_seq (x_region ?_)
  refine tl_y rfl (y_assign rfl) ?_
  refine tl_y rfl (y_assign rfl) ?_
  refine tl_nil (.then_normal ?_)
  refine x_seq (x_region ?_)
  refine tl_y rfl (y_move (v := .int _ _) rfl) ?_
  refine tl_y rfl (y_move (v := .int _ _) rfl) ?_
  refine tl_y rfl (y_build rfl) ?_
  refine tl_e rfl (e_alloc (fun b1 => ?_))
  refine tl_e rfl (e_store rfl rfl (by rfl) (by rfl) inferInstance inferInstance inferInstance ?_)
  refine tl_nil (.then_normal ?_)
  refine .sub (F' := [(0, _), (1, _), (10, _)]) (.cons rfl (.cons rfl (.cons rfl .nil))) ?_
  refine x_seq (x_seq (x_region ?_))
  refine tl_y rfl (y_loadAgg rfl rfl (.own inferInstance inferInstance)) ?_
  refine tl_y rfl (y_move (v := .slice _ _ _) rfl) ?_
  refine tl_e rfl (e_call' rfl (may_spec (newX total batch)) ?_)
  rintro _ _ _ _ ⟨rfl, rfl, rfl⟩
  refine tl_y rfl (y_not rfl) ?_
  refine tl_nil (.then_normal ?_)
  refine x_condb rfl (fun hc1 => ?_) (fun hc1 => ?_)
  ·
    refine x_seq (x_region ?_)
    refine tl_y rfl (y_assign rfl) ?_
    refine tl_y rfl (y_assign rfl) ?_
    refine tl_nil (.then_normal ?_)
    refine .sub (F' := [(8, _), (9, _)]) (.cons rfl (.cons rfl .nil)) ?_
    refine x_ret (.then_ret (.dropTo _ inferInstance (ret2 rfl rfl rfl (Le.refl _) (by
  have hm : mayB (newX total batch) head.length = false := by rw [hl']; simpa using hc1
  rw [show newC S s head total batch = ((S, s), 1) by rw [newC, if_pos hm]]
  rw [if_neg (by simp)]
  exact ⟨rfl, r, A0, l0, c0, h, hb, rfl⟩))))
  ·
    have hm : mayB (newX total batch) hl = true := by simpa using hc1
    have hm' : mayB (newX total batch) head.length = true := by rw [hl']; exact hm
    have hn200 : hl ≤ 200 := by rw [mayB, decide_eq_true_eq] at hm; omega
    refine x_skip (.then_normal ?_)
    refine .sub (F' := [(0, _), (1, _), (10, _)]) (.cons rfl (.cons rfl (.cons rfl .nil))) ?_
    refine x_seq (x_seq (x_region ?_))
    refine tl_y rfl (y_move (v := .pointer _) rfl) ?_
    refine .to (dL d r S (sL p d s A0 l0 c0 :: (b1, .cells (List.toArray [u64v total, u64v batch, .int .u64 0, .int .u64 0, .bool false]) 81 (0, 0)) :: R)) inferInstance ?_
    refine tl_e rfl (e_call' rfl (Load_spec hg h ok hb) ?_)
    rintro _ M1 _ hM1 ⟨⟨r1, A1, l1, c1, h1, hb1, rfl⟩, TA, tn, tc, rfl, hT⟩
    refine tl_y rfl (y_move (v := .tuple _) rfl) ?_
    refine tl_y rfl (y_extract rfl) ?_
    refine tl_y rfl (y_extract rfl) ?_
    refine tl_y rfl (y_extract rfl) ?_
    refine tl_y rfl (y_assign (v := .slice _ _ _) rfl) ?_
    refine tl_y rfl (y_assign (v := .int _ _) rfl) ?_
    refine tl_y rfl (y_assign (v := .int _ _) rfl) ?_
    refine tl_nil (.then_normal ?_)
    refine .sub (F' := [(0, _), (1, _), (10, _), (13, _)]) (.cons rfl (.cons rfl (.cons rfl (.cons rfl .nil)))) ?_
    refine x_seq (x_region ?_)
    refine tl_y rfl (y_move (v := .int _ _) rfl) ?_
    refine tl_nil (.then_normal ?_)
    refine x_block ?_
    refine x_seq (x_region ?_)
    refine tl_y rfl (y_eql rfl rfl) ?_
    refine tl_y rfl (y_assign (v := .bool _) rfl) ?_
    refine tl_nil (.then_normal ?_)
    refine x_cond rfl (fun hc2 => ?_) (fun hc2 => ?_)
    ·
      refine x_seq (x_region ?_)
      refine tl_y rfl (y_assign rfl) ?_
      refine tl_y rfl (y_assign rfl) ?_
      refine tl_nil (.then_normal ?_)
      refine .sub (F' := [(0, _), (1, _), (8, _), (9, _), (10, _)]) (.cons rfl (.cons rfl (.cons rfl (.cons rfl (.cons rfl .nil))))) ?_
      refine x_ret (.block_ret (.then_ret (.dropTo (dL d r1 S (sL p d (loadRes S s).1 A1 l1 c1 :: R)) inferInstance (ret2 rfl rfl rfl hM1 (by
  rw [show newC S s head total batch = ((S, (loadRes S s).1), 10) by rw [newC, if_neg (by simp [hm']), if_pos (by simpa using hc2)]]
  rw [if_neg (by simp)]
  exact ⟨rfl, r1, A1, l1, c1, h1, hb1, rfl⟩)))))
    ·
      refine x_seq (x_region ?_)
      refine tl_y rfl (y_eql rfl rfl) ?_
      refine tl_y rfl (y_assign (v := .bool _) rfl) ?_
      refine tl_nil (.then_normal ?_)
      refine .sub (F' := [(0, _), (1, _), (10, _), (13, _), (33, _)]) (.cons rfl (.cons rfl (.cons rfl (.cons rfl (.cons rfl .nil))))) ?_
      refine x_cond rfl (fun hc3 => ?_) (fun hc3 => ?_)
      ·
        refine x_skip (.block_normal (.then_normal ?_))
        refine x_seq (x_region ?_)
        refine tl_y rfl (y_move (v := .slice _ _ _) rfl) ?_
        refine tl_e rfl (e_call' rfl (bytesClone_spec (hh.mono hM1) (by omega)) ?_)
        rintro _ M2 _ hM2 ⟨rfl, A2, c2, rfl, hA2⟩
        refine tl_y rfl (y_move (v := .pointer _) rfl) ?_
        refine tl_y rfl (y_build rfl) ?_
        refine tl_e rfl (e_box rfl (fun b2 => ?_))
        refine tl_y rfl (y_assign (v := .pointer _) rfl) ?_
        refine tl_nil (.then_normal ?_)
        refine .sub (F' := [(10, _), (14, _)]) (.cons rfl (.cons rfl .nil)) ?_
        refine x_seq (x_seq (x_region ?_))
        refine tl_y rfl (y_move (v := .pointer _) rfl) ?_
        refine tl_y rfl (y_loadAgg rfl rfl (.own inferInstance inferInstance)) ?_
        refine .to (dL d r1 S (sL p d (loadRes S s).1 A1 l1 c1 :: (b2, .cells (List.toArray [.int .u64 0, .int .u64 0, .int .u64 0, .int .u64 0, .bool false, .slice A2 hl c2, .pointer (some ⟨p, 0, none⟩)]) 160 (0, 0)) :: (b1, .cells (List.toArray [u64v total, u64v batch, .int .u64 0, .int .u64 0, .bool false]) 81 (0, 0)) :: R)) inferInstance ?_
        refine tl_e rfl (e_call' rfl (csave_spec (hg.mono (hM1.trans hM2)) (h1.mono hM2) hok hw hB (hb1.mono hM2) hA2 zeroC (newX total batch)) ?_)
        rintro _ M3 _ hM3 ⟨⟨r3, A3, l3, c3, h3, hb3, rfl⟩, rfl⟩
        have hN : newC S s head total batch = saveRes S (loadRes S s).1 (bytesC (newX total batch) head) := by
          rw [newC, if_neg (by simp [hm']), if_neg (by simpa using hc2), if_pos (by simpa using hc3)]
        have hF := saveC_fresh S (loadRes S s).1 total batch head hm'
        have hLe : Le M M3 := hM1.trans (hM2.trans hM3)
        refine tl_y rfl (y_assign (v := .int _ _) rfl) ?_
        refine tl_nil (.then_normal ?_)
        refine .sub (F' := [(14, _), (15, _)]) (.cons rfl (.cons rfl .nil)) ?_
        refine x_seq (x_region ?_)
        refine tl_y rfl (y_move (v := .int _ _) rfl) ?_
        refine tl_y rfl (y_neq rfl rfl) ?_
        refine tl_nil (.then_normal ?_)
        refine x_condb rfl (fun hc4 => ?_) (fun hc4 => ?_)
        ·
          refine x_seq (x_region ?_)
          refine tl_y rfl (y_move (v := .int _ _) rfl) ?_
          refine tl_y rfl (y_assign rfl) ?_
          refine tl_y rfl (y_assign (v := .int _ _) rfl) ?_
          refine tl_nil (.then_normal ?_)
          refine .sub (F' := [(8, _), (9, _)]) (.cons rfl (.cons rfl .nil)) ?_
          refine x_ret (.then_ret (.dropTo (dL d r3 (saveC S (loadRes S s).1 zeroC (newX total batch) head).1.1.1 (sL p d (saveC S (loadRes S s).1 zeroC (newX total batch) head).1.1.2 A3 l3 c3 :: R)) inferInstance (ret2 rfl rfl rfl hLe (by
  have h0 : (saveRes S (loadRes S s).1 (bytesC (newX total batch) head)).2 ≠ 0 := by
    rw [hF] at hc4; split at hc4
    · assumption
    · exact absurd hc4 (by simp)
  rw [if_pos h0] at hF
  rw [hF] at h3 hb3 ⊢
  rw [hN, if_neg h0]
  exact ⟨rfl, r3, A3, l3, c3, h3, hb3, rfl⟩))))
        ·
          refine x_skip (.then_normal ?_)
          refine x_seq (x_region ?_)
          refine tl_y rfl (y_move (v := .pointer _) rfl) ?_
          refine tl_y rfl (y_assign (v := .pointer _) rfl) ?_
          refine tl_y rfl (y_assign rfl) ?_
          refine tl_nil (.then_normal ?_)
          refine .sub (F' := [(8, _), (9, _)]) (.cons rfl (.cons rfl .nil)) ?_
          refine x_ret (.dropTo (dL d r3 (saveC S (loadRes S s).1 zeroC (newX total batch) head).1.1.1 (sL p d (saveC S (loadRes S s).1 zeroC (newX total batch) head).1.1.2 A3 l3 c3 :: cL b2 (saveC S (loadRes S s).1 zeroC (newX total batch) head).1.2 A2 hl c2 p :: R)) inferInstance (ret2 rfl rfl rfl hLe (by
  have h0 : ¬ (saveRes S (loadRes S s).1 (bytesC (newX total batch) head)).2 ≠ 0 := fun h0 => by
    rw [hF, if_pos h0] at hc4; simp at hc4; exact h0 hc4
  rw [if_neg h0] at hF
  rw [hF] at h3 hb3 ⊢
  rw [hN, if_pos (by simpa using h0)]
  exact ⟨b2, A2, c2, rfl, hA2.mono hM3, r3, A3, l3, c3, h3, hb3, rfl⟩)))
      ·
        refine x_seq (x_region ?_)
        refine tl_y rfl (y_move (v := .int _ _) rfl) ?_
        refine tl_y rfl (y_assign rfl) ?_
        refine tl_y rfl (y_assign (v := .int _ _) rfl) ?_
        refine tl_nil (.then_normal ?_)
        refine x_ret (.block_ret (.then_ret (.dropTo (dL d r1 S (sL p d (loadRes S s).1 A1 l1 c1 :: R)) inferInstance (ret2 rfl rfl rfl hM1 (by
  have h0 : (loadRes S s).2 ≠ 0 := by simpa using hc2
  rw [show newC S s head total batch = ((S, (loadRes S s).1), (loadRes S s).2) by rw [newC, if_neg (by simp [hm']), if_neg h0, if_neg (by simpa using hc3)]]
  rw [if_neg h0]
  exact ⟨rfl, r1, A1, l1, c1, h1, hb1, rfl⟩)))))
theorem cOpen_spec (hg : ShaG M) (h : IsDisk M r S) (ok : OkS S s) (hb : Bytes M A0 l0 c0 s.b) :
    Con Tryd.prog 54 #[.pointer (some ⟨p, 0, none⟩)] G M (dL d r S (sL p d s A0 l0 c0 :: R))
      (fun v M' L' => if (openC S s).2 = 0 then ∃ c A' n' c', v = .tuple #[.pointer (some ⟨c, 0, none⟩), .int .i64 0] ∧ Bytes M' A' n' c' (openC S s).1.2 ∧ SK p d S (loadRes S s).1 (cL c (openC S s).1.1 A' n' c' p :: R) M' L'
        else v = .tuple #[.pointer none, .int .i64 (openC S s).2] ∧ SK p d S (loadRes S s).1 R M' L') noPanic := by
  refine enter (args := [_]) (fn := Tryd.f54) ⟨Tryd.func54, rfl, by kernel_rfl, by kernel_rfl⟩ 32 rfl ?_
  refine x_seq (x_region ?_)
  refine tl_y rfl (y_assign rfl) ?_
  refine tl_y rfl (y_assign rfl) ?_
  refine tl_nil (.then_normal ?_)
  refine x_seq (x_region ?_)
  refine tl_y rfl (y_move (v := .pointer _) rfl) ?_
  refine tl_e rfl (e_call' rfl (Load_spec hg h ok hb) ?_)
  rintro _ M1 _ hM1 ⟨⟨r1, A1, l1, c1, h1, hb1, rfl⟩, TA, tn, tc, rfl, hT⟩
  refine tl_y rfl (y_move (v := .tuple _) rfl) ?_
  refine tl_y rfl (y_extract rfl) ?_
  refine tl_y rfl (y_extract rfl) ?_
  refine tl_y rfl (y_extract rfl) ?_
  refine tl_y rfl (y_assign (v := .slice _ _ _) rfl) ?_
  refine tl_y rfl (y_assign (v := .int _ _) rfl) ?_
  refine tl_y rfl (y_assign (v := .int _ _) rfl) ?_
  refine tl_nil (.then_normal ?_)
  refine .sub (F' := [(0, _), (4, _), (6, _)]) (.cons rfl (.cons rfl (.cons rfl .nil))) ?_
  refine x_seq (x_seq (x_region ?_))
  refine tl_y rfl (y_move (v := .int _ _) rfl) ?_
  refine tl_y rfl (y_neq rfl rfl) ?_
  refine tl_nil (.then_normal ?_)
  refine x_condb rfl (fun hc1 => ?_) (fun hc1 => ?_)
  ·
    refine x_seq (x_region ?_)
    refine tl_y rfl (y_move (v := .int _ _) rfl) ?_
    refine tl_y rfl (y_assign rfl) ?_
    refine tl_y rfl (y_assign (v := .int _ _) rfl) ?_
    refine tl_nil (.then_normal ?_)
    refine .sub (F' := [(2, _), (3, _)]) (.cons rfl (.cons rfl .nil)) ?_
    refine x_ret (.then_ret (ret2 rfl rfl rfl hM1 (by
  have h0 : (loadRes S s).2 ≠ 0 := by simpa using hc1
  rw [show openC S s = ((zeroC, []), (loadRes S s).2) by rw [openC, if_pos h0], if_neg h0]
  exact ⟨rfl, r1, A1, l1, c1, h1, hb1, rfl⟩)))
  ·
    have h0 : (loadRes S s).2 = 0 := by simpa using hc1
    have hO : openC S s = readC (loadRes S s).1.b := by rw [openC, if_neg (by simp [h0])]
    have hT' : Bytes M1 TA tn tc (loadRes S s).1.b := by rw [loadTold, if_pos h0] at hT; exact hT
    have hTn : tn ≤ 140737488355328 := by have := hT'.size; have h1 := (loadRes_ok ok).b; have h2 := (loadRes_ok ok).n; omega
    refine x_skip (.then_normal ?_)
    refine x_seq (x_region ?_)
    refine tl_y rfl (y_move (v := .slice _ _ _) rfl) ?_
    refine tl_e rfl (e_call' rfl (Read_spec' hT' hTn) ?_)
    rintro _ M2 _ hM2 ⟨rfl, A2, n2, c2, rfl, hA2⟩
    have hLe : Le M M2 := hM1.trans hM2
    refine tl_y rfl (y_move (v := .tuple _) rfl) ?_
    refine tl_y rfl (y_extract rfl) ?_
    refine tl_y rfl (y_extract rfl) ?_
    refine tl_y rfl (y_extract rfl) ?_
    refine tl_e rfl (e_alloc (fun b1 => ?_))
    refine tl_e rfl (e_store rfl rfl (by rfl) (by rfl) inferInstance inferInstance inferInstance ?_)
    refine tl_y rfl (y_assign (v := .slice _ _ _) rfl) ?_
    refine tl_y rfl (y_assign (v := .int _ _) rfl) ?_
    refine tl_nil (.then_normal ?_)
    refine .sub (F' := [(0, _), (6, _), (7, _), (8, _)]) (.cons rfl (.cons rfl (.cons rfl (.cons rfl .nil)))) ?_
    refine x_seq (x_seq (x_region ?_))
    refine tl_y rfl (y_move (v := .int _ _) rfl) ?_
    refine tl_y rfl (y_neq rfl rfl) ?_
    refine tl_nil (.then_normal ?_)
    refine x_condb rfl (fun hc2 => ?_) (fun hc2 => ?_)
    ·
      refine x_seq (x_region ?_)
      refine tl_y rfl (y_move (v := .int _ _) rfl) ?_
      refine tl_y rfl (y_assign rfl) ?_
      refine tl_y rfl (y_assign (v := .int _ _) rfl) ?_
      refine tl_nil (.then_normal ?_)
      refine .sub (F' := [(2, _), (3, _)]) (.cons rfl (.cons rfl .nil)) ?_
      refine x_ret (.then_ret (.dropTo (dL d r1 S (sL p d (loadRes S s).1 A1 l1 c1 :: R)) inferInstance (ret2 rfl rfl rfl hLe (by
  have h2 : (readC (loadRes S s).1.b).2 ≠ 0 := by simpa using hc2
  rw [hO, if_neg h2]
  exact ⟨rfl, r1, A1, l1, c1, h1.mono hM2, hb1.mono hM2, rfl⟩))))
    ·
      refine x_skip (.then_normal ?_)
      refine x_seq (x_region ?_)
      refine tl_y rfl (y_loadAgg rfl rfl (.own inferInstance inferInstance)) ?_
      refine tl_y rfl (y_move (v := .slice _ _ _) rfl) ?_
      refine tl_y rfl (y_move (v := .pointer _) rfl) ?_
      refine tl_y rfl (y_build rfl) ?_
      refine tl_e rfl (e_box rfl (fun b2 => ?_))
      refine tl_y rfl (y_assign (v := .pointer _) rfl) ?_
      refine tl_y rfl (y_assign rfl) ?_
      refine tl_nil (.then_normal ?_)
      refine .sub (F' := [(2, _), (3, _)]) (.cons rfl (.cons rfl .nil)) ?_
      refine x_ret (.dropTo (dL d r1 S (sL p d (loadRes S s).1 A1 l1 c1 :: cL b2 (readC (loadRes S s).1.b).1.1 A2 n2 c2 p :: R)) inferInstance (ret2 rfl rfl rfl hLe (by
  have h2 : (readC (loadRes S s).1.b).2 = 0 := by simpa using hc2
  rw [hO, if_pos h2]
  exact ⟨b2, A2, n2, c2, rfl, hA2, r1, A1, l1, c1, h1.mono hM2, hb1.mono hM2, rfl⟩)))
end
end Go.Proofs.YtbgdjdhbejbhkaaDoor
