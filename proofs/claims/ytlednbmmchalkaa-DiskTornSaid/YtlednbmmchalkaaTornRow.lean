/-
The statement DiskTornSaid: for every two bytes and every two choices DiskTorn returns true, and its arguments read as they did.
-/
import Derived.Test.YtlednbmmchalkaaTorn
import Derived.Test.YtlednbmmchalkaaEngR
import Derived.Test.YtlednbmmchalkaaChecked
import Derived.Test.YtlednbmmchalkaaRows
set_option linter.unusedVariables false
namespace Go.Proofs.Ytlednbmmchalkaa
open Go Go.Eng Go.ChangeShapes Go.WideShapes Go.ChangeAt Go.RowKit
theorem own : ownKnob Try.prog.godebug = none := by kernel_rfl
theorem laidOut : laidOutB Try.prog = true := by kernel_rfl
theorem shutBool {H : Type} {enc : TypeId × Value → H} {W : World} {base : Nat} {sp : Nat → Bool} {held : Bool} (b : Bool) : DataW.Trod enc Try.prog W base sp held 4 (.bool b) (.lit (.bool b)) [] := ⟨1, by simp [DataW.trod, Value.cells, Try.underlying4]⟩
theorem torn_con {H : Type} {enc : TypeId × Value → H} {W : World} {v0 v1 v2 : Value} {r : Reach} {b : Nat} (k0 : Value.okWide Try.prog W r b 5 v0) (k1 : Value.okWide Try.prog W r b 5 v1) (k2 : Value.okWide Try.prog W r b 39 v2)
    (h0 : Rd enc Try.prog W 5 v0.cells.toList) (h1 : Rd enc Try.prog W 5 v1.cells.toList) (h2 : Rd enc Try.prog W 39 v2.cells.toList) :
    Con Try.prog 4 #[v0, v1, v2] W (memOf W) [] (fun v _ _ => v = .bool true) noPanic := by
  obtain ⟨n0, e0, w0⟩ := h0.int
  obtain rfl := one_of rfl k0 e0
  obtain ⟨n1, e1, w1⟩ := h1.int
  obtain rfl := one_of rfl k1 e1
  obtain ⟨hl, hx⟩ := h2.array (e := 5)
  obtain ⟨a, ea, wa⟩ := (hx 0 (by omega)).int
  obtain ⟨c, ec, wc⟩ := (hx 1 (by omega)).int
  rw [agg_of rfl k2]
  have hcs : v2.cells.toList = [.int .u8 a, .int .u8 c] := by
    match hv : v2.cells.toList, hl with
    | [x, y], _ => rw [hv] at ea ec; simp at ea ec; rw [ea, ec]
  rw [hcs]
  obtain ⟨c0, rfl⟩ := u8_of w0
  obtain ⟨c1, rfl⟩ := u8_of w1
  obtain ⟨c2, rfl⟩ := u8_of wa
  obtain ⟨c3, rfl⟩ := u8_of wc
  exact DiskTorn_spec c0 c1 c2 c3
set_option maxRecDepth 100000 in
theorem diskTorn_lifted (os : Os) (started : os.Started) (H : Type) (enc : TypeId × Value → H) :
    ReturnsInHanded {} Try.checked os 4 .any (Rows.diskTornSpec.pre6 enc Try.prog Try.f4 Rows.diskTornRow.domain false) (Rows.diskTornSpec.post enc Try.prog Try.f4 false true false false) := by
  refine returnsInHanded_of_change (C := Try.checked) own started (by kernel_rfl) Try.func4
    (ChangeSpec.witness6 (enc := enc) (C := Try.checked) false ⟨#[], #[.int .u8 0, .int .u8 0, .agg #[.int .u8 0, .int .u8 0]], []⟩ 8 (by kernel_rfl) (by kernel_rfl) (by kernel_rfl) (by kernel_rfl)) ?_
  intro W base args ds gs before hval0 hW hcnd _
  have hval : ∀ (j : Nat) t v, Try.f4.params[j]? = some t → args[j]? = some v → Value.okWide Try.prog W .any base t v := hval0
  have hW' := hW
  obtain ⟨p, q, hA0, hV, rfl, hfz, hnd⟩ := hW
  have hA : DataW.TrodAll enc Try.prog W 0 (fun _ => true) true Try.f4.params.toList args.toList ds p := hA0
  rw [Try.params4] at hA hval
  obtain ⟨v0, vs0, d0, ds0, p0, q0, hargs, rfl, rfl, h0, r0⟩ := trodAll_cons hA
  obtain ⟨v1, vs1, d1, ds1, p1, q1, rfl, rfl, rfl, h1, r1⟩ := trodAll_cons r0
  obtain ⟨v2, vs2, d2, ds2, p2, q2, rfl, rfl, rfl, h2, r2⟩ := trodAll_cons r1
  obtain ⟨rfl, rfl, rfl⟩ := trodAll_nil r2
  obtain rfl : args = #[v0, v1, v2] := by cases args; simp_all
  obtain ⟨rfl, rfl⟩ := trodVars_none hV
  have k0 := h0
  have lt0 : ∀ x ∈ p0, x.block < W.heap.size := by obtain ⟨m, hm⟩ := k0; exact DataW.trod_lt m _ _ _ hm
  have k1 := h1
  have lt1 : ∀ x ∈ p1, x.block < W.heap.size := by obtain ⟨m, hm⟩ := k1; exact DataW.trod_lt m _ _ _ hm
  have k2 := h2
  have lt2 : ∀ x ∈ p2, x.block < W.heap.size := by obtain ⟨m, hm⟩ := k2; exact DataW.trod_lt m _ _ _ hm
  refine (calls_of_con (torn_con (hval 0 _ v0 rfl rfl) (hval 1 _ v1 rfl rfl) (hval 2 _ v2 rfl rfl) (rd_of h0) (rd_of h1) (rd_of h2))).mono fun e W' ⟨he, bel⟩ => ?_
  subst he
  exact ⟨_, rfl, _, _, _, [], _, [], hW', trodAll_mk1 (shutBool _), (trodAll_cons_mk (Below.trod laidOut (by kernel_rfl) (of_decide_eq_true (by kernel_rfl)) k0 bel lt0) (trodAll_cons_mk (Below.trod laidOut (by kernel_rfl) (of_decide_eq_true (by kernel_rfl)) k1 bel lt1) (trodAll_cons_mk (Below.trod laidOut (by kernel_rfl) (of_decide_eq_true (by kernel_rfl)) k2 bel lt2) trodAll_mk0))), rfl, bel.frame _, fun h => by cases h⟩
theorem diskTorn_over : Rows.diskTornRow.holds Try.pinned (OpenSpec.ofChange Rows.diskTornSpec) :=
  OpenClaim.holds_of_wide 4 Try.f4 rfl rfl rfl rfl rfl rfl rfl ⟨rfl, rfl, rfl, rfl, rfl⟩ rfl rfl rfl rfl rfl (by kernel_rfl) Try.func4 (by kernel_rfl)
    (of_decide_eq_true (by kernel_rfl)) (by unfold Func.isWrapper; first | (rw [if_pos (by decide +kernel)]; kernel_rfl) | (rw [if_neg (by decide +kernel)]; exact ⟨rfl, rfl⟩))
    (fun os started H enc _ => diskTorn_lifted os started H enc)
/-- The statement. -/
theorem diskTorn_proved : Rows.DiskTornSaid := diskTorn_over
end Go.Proofs.Ytlednbmmchalkaa
