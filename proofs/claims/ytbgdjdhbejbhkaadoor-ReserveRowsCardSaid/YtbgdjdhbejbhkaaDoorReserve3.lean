/-
Contracts of functions, each proved by a walk through its code.
-/
import Derived.Test.YtbgdjdhbejbhkaaDoorReserve2
set_option linter.unusedVariables false
set_option linter.unusedSimpArgs false
namespace Go.Proofs.YtbgdjdhbejbhkaaDoor
open Go Go.Eng
section
variable {G : World} {M : Mem} {L R : Own} {p d c : Nat} {S : DS} {s : SS} {r : DRep} {A0 HA : Option Addr} {l0 c0 hl hc : Nat}
abbrev cL (c : Nat) (x : Cn) (HA : Option Addr) (hl hc : Nat) (p : Nat) : Nat × Obj :=
  (c, .cells (List.toArray [.int .u64 (x.total.toNat : Int), .int .u64 (x.batch.toNat : Int), .int .u64 (x.reserved.toNat : Int), .int .u64 (x.next.toNat : Int), .bool x.retired, .slice HA hl hc, .pointer (some ⟨p, 0, none⟩)]) 160 (0, 0))
theorem Head_spec (x : Cn) {head : List UInt8} (h : Bytes M HA hl hc head) (hn : hl ≤ 140737488355328) :
    Con Tryd.prog 53 #[.pointer (some ⟨c, 0, none⟩)] G M (cL c x HA hl hc p :: R) (fun v M' L' => L' = cL c x HA hl hc p :: R ∧ ∃ A' c', v = .slice A' hl c' ∧ Bytes M' A' hl c' head) noPanic := by
  refine enter (args := [_]) (fn := Tryd.f53) ⟨Tryd.func53, rfl, by kernel_rfl, by kernel_rfl⟩ 8 rfl ?_
  refine x_seq (x_region ?_)
  refine tl_y rfl (y_assign rfl) ?_
  refine tl_nil (.then_normal ?_)
  refine x_seq (x_region ?_)
  refine tl_y rfl (y_move (v := .pointer _) rfl) ?_
  refine tl_y rfl (y_nilCheck rfl) ?_
  refine tl_y rfl (y_fieldAddr rfl) ?_
  refine tl_y rfl (y_load rfl rfl (.own inferInstance inferInstance)) ?_
  refine tl_e rfl (e_call' rfl (bytesClone_spec h hn) ?_)
  rintro _ M1 _ hM1 ⟨rfl, A1, c1, rfl, hA1⟩
  refine tl_y rfl (y_assign (v := .slice _ _ _) rfl) ?_
  refine tl_nil (.then_normal ?_)
  refine .sub (F' := [(2, _)]) (.cons rfl .nil) ?_
  refine x_ret (ret1 rfl rfl hM1 ⟨rfl, A1, c1, rfl, hA1⟩)
theorem State_spec (x : Cn) :
    Con Tryd.prog 55 #[.pointer (some ⟨c, 0, none⟩)] G M (cL c x HA hl hc p :: R) (fun v M' L' => L' = cL c x HA hl hc p :: R ∧ M' = M ∧ v = .agg (List.toArray (ccells x))) noPanic := by
  refine enter (args := [_]) (fn := Tryd.f55) ⟨Tryd.func55, rfl, by kernel_rfl, by kernel_rfl⟩ 7 rfl ?_
  refine x_seq (x_region ?_)
  refine tl_e rfl (e_alloc (fun b1 => ?_))
  refine tl_nil (.then_normal ?_)
  refine x_seq (x_region ?_)
  refine tl_y rfl (y_move (v := .pointer _) rfl) ?_
  refine tl_y rfl (y_nilCheck rfl) ?_
  refine tl_y rfl (y_fieldAddr rfl) ?_
  refine tl_y rfl (y_loadAgg rfl rfl (.own inferInstance inferInstance)) ?_
  refine tl_e rfl (e_store rfl rfl (by rfl) (by rfl) inferInstance inferInstance inferInstance ?_)
  refine tl_nil (.then_normal ?_)
  refine .sub (F' := [(2, _)]) (.cons rfl .nil) ?_
  refine x_ret (retRV (L' := cL c x HA hl hc p :: R) (rv1 rfl (rc_cellAgg (by rfl) rfl (.own inferInstance inferInstance))) inferInstance (Le.refl _) ⟨rfl, rfl, rfl⟩)
theorem Cn.eq_iff (x y : Cn) : ((x.total.toNat : Int) = y.total.toNat ∧ ((x.batch.toNat : Int) = y.batch.toNat ∧ ((x.reserved.toNat : Int) = y.reserved.toNat ∧ ((x.next.toNat : Int) = y.next.toNat ∧ (x.retired = y.retired ∧ True))))) ↔ x = y := by
  obtain ⟨a, b, c, d, e⟩ := x
  obtain ⟨a', b', c', d', e'⟩ := y
  have h : ∀ u v : UInt64, (u.toNat : Int) = v.toNat ↔ u = v := fun u v => by rw [← UInt64.toNat_inj]; omega
  simp only [h, Cn.mk.injEq, and_true]
theorem csave_spec (hg : ShaG M) (h : IsDisk M r S) (ok : OkS S s) {B : Nat} (hw : S.within B) (hB : B ≤ 1000000) (hb : Bytes M A0 l0 c0 s.b) {head : List UInt8} (hh : Bytes M HA hl hc head) (x x' : Cn) :
    Con Tryd.prog 99 #[.pointer (some ⟨c, 0, none⟩), .agg (List.toArray (ccells x'))] G M (dL d r S (sL p d s A0 l0 c0 :: cL c x HA hl hc p :: R))
      (fun v M' L' => SK p d (saveC S s x x' head).1.1.1 (saveC S s x x' head).1.1.2 (cL c (saveC S s x x' head).1.2 HA hl hc p :: R) M' L' ∧ v = .int .i64 (saveC S s x x' head).2) noPanic := by
  have hl' := hh.size
  refine enter (args := [_, _]) (fn := Tryd.f99) ⟨Tryd.func99, rfl, by kernel_rfl, by kernel_rfl⟩ 39 rfl ?_
  refine x_seq (x_region ?_)
  refine tl_e rfl (e_box rfl (fun b1 => ?_))
  refine tl_y rfl (y_assign rfl) ?_
  refine tl_nil (.then_normal ?_)
  refine x_seq (x_seq ?_)
  refine x_draw 6 hmix rfl ?_
  refine to_y 0 rfl (by kernel_rfl) rfl (y_loadAgg rfl rfl (.own inferInstance inferInstance)) ?_
  refine to_p 1 rfl (by kernel_rfl) rfl (y_move (v := .pointer _) rfl) ?_
  refine to_p 2 rfl (by kernel_rfl) rfl (y_nilCheck rfl) ?_
  refine to_p 3 rfl (by kernel_rfl) rfl (y_fieldAddr rfl) ?_
  refine to_y 4 rfl (by kernel_rfl) rfl (y_loadAgg rfl rfl (.own inferInstance inferInstance)) ?_
  refine to_p 5 rfl (by kernel_rfl) rfl (y_eqlS rfl rfl eqs81) ?_
  refine to_nil (by kernel_rfl) (.then_normal ?_)
  refine .sub (F' := [(0, _), (3, _), (13, _)]) (.cons rfl (.cons rfl (.cons rfl .nil))) ?_
  rw [show (decide _ : Bool) = decide (x' = x) from decide_eq_decide.mpr (Cn.eq_iff x' x)]
  refine x_condb rfl (fun hc1 => ?_) (fun hc1 => ?_)
  ·
    refine x_seq (x_region ?_)
    refine tl_y rfl (y_assign rfl) ?_
    refine tl_nil (.then_normal ?_)
    refine x_ret (.then_ret (.dropTo _ inferInstance (ret1 rfl rfl (Le.refl _) (by
  rw [show saveC S s x x' head = (((S, s), x), 0) by rw [saveC, if_pos (by simpa using hc1)]]
  exact ⟨⟨r, A0, l0, c0, h, hb, rfl⟩, rfl⟩))))
  ·
    refine x_skip (.then_normal ?_)
    refine x_seq ?_
    refine x_draw 11 hmix rfl ?_
    refine to_y 0 rfl (by kernel_rfl) rfl (y_loadAgg rfl rfl (.own inferInstance inferInstance)) ?_
    refine to_p 1 rfl (by kernel_rfl) rfl (y_move (v := .pointer _) rfl) ?_
    refine to_p 2 rfl (by kernel_rfl) rfl (y_nilCheck rfl) ?_
    refine to_p 3 rfl (by kernel_rfl) rfl (y_fieldAddr rfl) ?_
    refine to_y 4 rfl (by kernel_rfl) rfl (y_load rfl rfl (.own inferInstance inferInstance)) ?_
    refine to_e 5 rfl (by kernel_rfl) rfl (e_call' rfl (Bytes_spec x' hh) ?_)
    rintro v M2 _ hM2 ⟨rfl, hv⟩
    obtain ⟨A', n', c', e, rfl, hcase⟩ : ∃ A' n' c' e, v = .tuple #[.slice A' n' c', .int .i64 e] ∧ ((mayB x' hl = true ∧ e = 0 ∧ Bytes M2 A' n' c' (bytesC x' head)) ∨ (mayB x' hl = false ∧ e = 1)) := by
      split at hv
      · obtain ⟨A', c', rfl, h⟩ := hv; exact ⟨A', _, c', 0, rfl, .inl ⟨by assumption, rfl, h⟩⟩
      · exact ⟨none, 0, 0, 1, hv, .inr ⟨by simpa using (by assumption : ¬ mayB x' hl = true), rfl⟩⟩
    refine ⟨⟨hM2, Keeps.mem⟩, ?_⟩
    refine to_p 6 rfl (by kernel_rfl) rfl (y_move (v := .tuple _) rfl) ?_
    refine to_p 7 rfl (by kernel_rfl) rfl (y_extract rfl) ?_
    refine to_p 8 rfl (by kernel_rfl) rfl (y_extract rfl) ?_
    refine to_p 9 rfl (by kernel_rfl) rfl (y_assign (v := .slice _ _ _) rfl) ?_
    refine to_p 10 rfl (by kernel_rfl) rfl (y_assign (v := .int _ _) rfl) ?_
    refine to_nil (by kernel_rfl) (.then_normal ?_)
    refine .sub (F' := [(0, _), (3, _), (5, _), (6, _)]) (.cons rfl (.cons rfl (.cons rfl (.cons rfl .nil)))) ?_
    refine x_seq (x_seq (x_region ?_))
    refine tl_y rfl (y_move (v := .int _ _) rfl) ?_
    refine tl_y rfl (y_neq rfl rfl) ?_
    refine tl_nil (.then_normal ?_)
    refine x_condb rfl (fun hc2 => ?_) (fun hc2 => ?_)
    ·
      refine x_seq (x_region ?_)
      refine tl_y rfl (y_move (v := .int _ _) rfl) ?_
      refine tl_y rfl (y_assign (v := .int _ _) rfl) ?_
      refine tl_nil (.then_normal ?_)
      refine .sub (F' := [(4, _)]) (.cons rfl .nil) ?_
      refine x_ret (.then_ret (.dropTo _ inferInstance (ret1 rfl rfl hM2 (by
  obtain ⟨hm, rfl⟩ : mayB x' hl = false ∧ e = 1 := by rcases hcase with ⟨_, rfl, _⟩ | h; exact absurd hc2 (by simp); exact h
  rw [show saveC S s x x' head = (((S, s), x), 1) by rw [saveC, if_neg (by simpa using hc1), if_pos (by rw [hl']; exact hm)]]
  exact ⟨⟨r, A0, l0, c0, h.mono hM2, hb.mono hM2, rfl⟩, rfl⟩))))
    ·
      obtain ⟨hm, rfl, hbb⟩ : mayB x' hl = true ∧ e = 0 ∧ Bytes M2 A' n' c' (bytesC x' head) := by rcases hcase with h | ⟨_, rfl⟩; exact h; exact absurd hc2 (by simp)
      refine x_skip (.then_normal ?_)
      refine x_seq (x_seq (x_region ?_))
      refine tl_y rfl (y_move (v := .pointer _) rfl) ?_
      refine tl_y rfl (y_nilCheck rfl) ?_
      refine tl_y rfl (y_fieldAddr rfl) ?_
      refine tl_y rfl (y_load rfl rfl (.own inferInstance inferInstance)) ?_
      refine tl_y rfl (y_move (v := .slice _ _ _) rfl) ?_
      refine .to (dL d r S (sL p d s A0 l0 c0 :: (b1, .cells (List.toArray (ccells x')) 81 (0, 0)) :: cL c x HA hl hc p :: R)) inferInstance ?_
      refine tl_e rfl (e_call' rfl (Save_spec (hg.mono hM2) (h.mono hM2) ok hw hB (hb.mono hM2) hbb) ?_)
      rintro _ M3 _ hM3 ⟨⟨r', A3, l3, c3, h3, hb3, rfl⟩, rfl⟩
      refine tl_y rfl (y_assign (v := .int _ _) rfl) ?_
      refine tl_nil (.then_normal ?_)
      refine .sub (F' := [(0, _), (3, _), (7, _)]) (.cons rfl (.cons rfl (.cons rfl .nil))) ?_
      refine x_seq (x_region ?_)
      refine tl_y rfl (y_move (v := .int _ _) rfl) ?_
      refine tl_y rfl (y_neq rfl rfl) ?_
      refine tl_nil (.then_normal ?_)
      refine x_condb rfl (fun hc3 => ?_) (fun hc3 => ?_)
      ·
        refine x_seq (x_region ?_)
        refine tl_y rfl (y_move (v := .int _ _) rfl) ?_
        refine tl_y rfl (y_assign (v := .int _ _) rfl) ?_
        refine tl_nil (.then_normal ?_)
        refine .sub (F' := [(4, _)]) (.cons rfl .nil) ?_
        refine x_ret (.then_ret (.dropTo _ inferInstance (ret1 rfl rfl (hM2.trans hM3) (by
  have hne : (saveRes S s (bytesC x' head)).2 ≠ 0 := by simpa using hc3
  rw [show saveC S s x x' head = (((saveRes S s (bytesC x' head)).1, x), (saveRes S s (bytesC x' head)).2) by rw [saveC, if_neg (by simpa using hc1), if_neg (by rw [hl', hm]; simp), if_pos hne]]
  exact ⟨⟨r', A3, l3, c3, h3, hb3, rfl⟩, rfl⟩))))
      ·
        refine x_skip (.then_normal ?_)
        refine x_seq (x_region ?_)
        refine tl_y rfl (y_move (v := .pointer _) rfl) ?_
        refine tl_y rfl (y_loadAgg rfl rfl (.own inferInstance inferInstance)) ?_
        refine tl_y rfl (y_nilCheck rfl) ?_
        refine tl_y rfl (y_fieldAddr rfl) ?_
        refine tl_e rfl (e_store rfl rfl (by rfl) (by rfl) inferInstance inferInstance inferInstance ?_)
        refine tl_nil (.then_normal ?_)
        refine .sub (F' := []) .nil ?_
        refine x_seq (x_region ?_)
        refine tl_y rfl (y_assign rfl) ?_
        refine tl_nil (.then_normal ?_)
        refine x_ret (.dropTo (dL d r' (saveRes S s (bytesC x' head)).1.1 (sL p d (saveRes S s (bytesC x' head)).1.2 A3 l3 c3 :: cL c x' HA hl hc p :: R)) inferInstance (ret1 rfl rfl (hM2.trans hM3) (by
  have hne : (saveRes S s (bytesC x' head)).2 = 0 := by simpa using hc3
  rw [show saveC S s x x' head = (((saveRes S s (bytesC x' head)).1, x'), 0) by rw [saveC, if_neg (by simpa using hc1), if_neg (by rw [hl', hm]; simp), if_neg (by simp [hne])]]
  exact ⟨⟨r', A3, l3, c3, h3, hb3, rfl⟩, rfl⟩)))
end
end Go.Proofs.YtbgdjdhbejbhkaaDoor
