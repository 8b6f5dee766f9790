/-
The statement DiskStaysSaid: for every number of sectors and every script DiskStays returns true, and its arguments read as they did.
-/
import Derived.Test.YtlednbmmchalkaaStays
import Derived.Test.YtlednbmmchalkaaPlaysRow
import Derived.Test.YtlednbmmchalkaaRowBase
import Derived.Test.YtlednbmmchalkaaChecked
import Derived.Test.YtlednbmmchalkaaRows
set_option linter.unusedVariables false
namespace Go.Proofs.Ytlednbmmchalkaa
open Go Go.Eng Go.ChangeShapes Go.WideShapes Go.ChangeAt Go.RowKit
theorem stays_con {H : Type} {enc : TypeId × Value → H} {W : World} {v0 v1 : Value} {r : Reach} {b : Nat} (k0 : Value.okWide Try.prog W r b 5 v0) (k1 : Value.okWide Try.prog W r b 47 v1)
    (h0 : Rd enc Try.prog W 5 v0.cells.toList) (h1 : Rd enc Try.prog W 47 v1.cells.toList) :
    Con Try.prog 7 #[v0, v1] W (memOf W) [] (fun v _ _ => v = .bool true) noPanic := by
  obtain ⟨c0, rfl⟩ := byte_arg k0 h0
  obtain ⟨A, n, c, vs, e1, hr, hx⟩ := h1.slice (by omega)
  obtain rfl := one_of rfl k1 e1
  obtain ⟨as_, ha⟩ := acts_of n vs hr.len hx
  exact DiskStays_spec c0 hr ha
set_option maxRecDepth 100000 in
theorem diskStays_lifted (os : Os) (started : os.Started) (H : Type) (enc : TypeId × Value → H) :
    ReturnsInHanded {} Try.checked os 7 .any (Rows.diskStaysSpec.pre6 enc Try.prog Try.f7 Rows.diskStaysRow.domain false) (Rows.diskStaysSpec.post enc Try.prog Try.f7 false true false false) := by
  refine returnsInHanded_of_change (C := Try.checked) own started (by kernel_rfl) Try.func7
    (ChangeSpec.witness6 (enc := enc) (C := Try.checked) false ⟨#[], #[.int .u8 0, .slice none 0 0], []⟩ 8 (by kernel_rfl) (by kernel_rfl) (by kernel_rfl) (by kernel_rfl)) ?_
  intro W base args ds gs before hval0 hW hcnd _
  have hval : ∀ (j : Nat) t v, Try.f7.params[j]? = some t → args[j]? = some v → Value.okWide Try.prog W .any base t v := hval0
  have hW' := hW
  obtain ⟨p, q, hA0, hV, rfl, hfz, hnd⟩ := hW
  have hA : DataW.TrodAll enc Try.prog W 0 (fun _ => true) true Try.f7.params.toList args.toList ds p := hA0
  rw [Try.params7] at hA hval
  obtain ⟨v0, vs0, d0, ds0, p0, q0, hargs, rfl, rfl, h0, r0⟩ := trodAll_cons hA
  obtain ⟨v1, vs1, d1, ds1, p1, q1, rfl, rfl, rfl, h1, r1⟩ := trodAll_cons r0
  obtain ⟨rfl, rfl, rfl⟩ := trodAll_nil r1
  obtain rfl : args = #[v0, v1] := by cases args; simp_all
  obtain ⟨rfl, rfl⟩ := trodVars_none hV
  have k0 := h0
  have lt0 : ∀ x ∈ p0, x.block < W.heap.size := by obtain ⟨m, hm⟩ := k0; exact DataW.trod_lt m _ _ _ hm
  have k1 := h1
  have lt1 : ∀ x ∈ p1, x.block < W.heap.size := by obtain ⟨m, hm⟩ := k1; exact DataW.trod_lt m _ _ _ hm
  refine (calls_of_con (stays_con (hval 0 _ v0 rfl rfl) (hval 1 _ v1 rfl rfl) (rd_of h0) (rd_of h1))).mono fun e W' ⟨he, bel⟩ => ?_
  subst he
  exact ⟨_, rfl, _, _, _, [], _, [], hW', trodAll_mk1 (shutBool _), (trodAll_cons_mk (Below.trod laidOut (by kernel_rfl) (of_decide_eq_true (by kernel_rfl)) k0 bel lt0) (trodAll_cons_mk (Below.trod laidOut (by kernel_rfl) (of_decide_eq_true (by kernel_rfl)) k1 bel lt1) trodAll_mk0)), rfl, bel.frame _, fun h => by cases h⟩
theorem diskStays_over : Rows.diskStaysRow.holds Try.pinned (OpenSpec.ofChange Rows.diskStaysSpec) :=
  OpenClaim.holds_of_wide 7 Try.f7 rfl rfl rfl rfl rfl rfl rfl ⟨rfl, rfl, rfl, rfl, rfl⟩ rfl rfl rfl rfl rfl (by kernel_rfl) Try.func7 (by kernel_rfl)
    (of_decide_eq_true (by kernel_rfl)) (by unfold Func.isWrapper; first | (rw [if_pos (by decide +kernel)]; kernel_rfl) | (rw [if_neg (by decide +kernel)]; exact ⟨rfl, rfl⟩))
    (fun os started H enc _ => diskStays_lifted os started H enc)
/-- The statement. -/
theorem diskStays_proved : Rows.DiskStaysSaid := diskStays_over
end Go.Proofs.Ytlednbmmchalkaa
