/-
Contracts of functions, each proved by a walk through its code.
-/
import Derived.Test.YtlednbmmchalkaaPlays
import Derived.Test.YtlednbmmchalkaaRowBase
import Derived.Test.YtlednbmmchalkaaChecked
import Derived.Test.YtlednbmmchalkaaRows
set_option linter.unusedVariables false
namespace Go.Proofs.Ytlednbmmchalkaa
open Go Go.Eng Go.ChangeShapes Go.WideShapes Go.ChangeAt Go.RowKit
section
variable {H : Type} {enc : TypeId × Value → H} {W : World}
theorem act_of {cs : List Value} (h : Rd enc Try.prog W 51 cs) : ∃ a Ac nc cc Af nf cf, cs = acells a Ac nc cc Af nf cf ∧ Bytes (memOf W) Ac nc cc a.choices ∧ Ints (memOf W) Af nf cf a.fail := by
  obtain ⟨hl, hf⟩ := h.struct
  have f0 := hf _ (List.mem_cons_self)
  have f1 := hf _ (List.mem_cons_of_mem _ List.mem_cons_self)
  have f2 := hf _ (List.mem_cons_of_mem _ (List.mem_cons_of_mem _ List.mem_cons_self))
  have f3 := hf _ (List.mem_cons_of_mem _ (List.mem_cons_of_mem _ (List.mem_cons_of_mem _ List.mem_cons_self)))
  have f4 := hf _ (List.mem_cons_of_mem _ (List.mem_cons_of_mem _ (List.mem_cons_of_mem _ (List.mem_cons_of_mem _ List.mem_cons_self))))
  have f5 := hf _ (List.mem_cons_of_mem _ (List.mem_cons_of_mem _ (List.mem_cons_of_mem _ (List.mem_cons_of_mem _ (List.mem_cons_of_mem _ List.mem_cons_self)))))
  rw [TI.cellsOf (ti3 : TI Try.prog 3 _ _ _ _)] at f0 f1
  rw [TI.cellsOf (ti5 : TI Try.prog 5 _ _ _ _)] at f2
  rw [TI.cellsOf (ti4 : TI Try.prog 4 _ _ _ _)] at f3
  rw [TI.cellsOf (ti34 : TI Try.prog 34 _ _ _ _)] at f4
  rw [TI.cellsOf (ti30 : TI Try.prog 30 _ _ _ _)] at f5
  obtain ⟨n0, e0, w0⟩ := Rd.int (k := .i64) f0
  obtain ⟨n1, e1, w1⟩ := Rd.int (k := .i64) f1
  obtain ⟨n2, e2, w2⟩ := Rd.int (k := .u8) f2
  obtain ⟨n3, e3⟩ := Rd.bool f3
  obtain ⟨A4, l4, c4, b4, e4, h4⟩ := Rd.bytes f4
  obtain ⟨hl5, hf5⟩ := Rd.struct f5
  have g0 := hf5 _ (List.mem_cons_self)
  have g1 := hf5 _ (List.mem_cons_of_mem _ List.mem_cons_self)
  rw [TI.cellsOf (ti28 : TI Try.prog 28 _ _ _ _)] at g0
  rw [TI.cellsOf (ti3 : TI Try.prog 3 _ _ _ _)] at g1
  obtain ⟨A5, l5, c5, t5, e5, h5, w5⟩ := Rd.ints (k := .i64) g0
  obtain ⟨n6, e6, w6⟩ := Rd.int (k := .i64) g1
  obtain ⟨c2, rfl⟩ := u8_of w2
  refine ⟨⟨n0, n1, c2, n3, b4, t5, n6⟩, A4, l4, c4, A5, l5, c5, ?_, h4, h5⟩
  match cs, hl with
  | [x0, x1, x2, x3, x4, x5, x6], _ =>
    simp at e0 e1 e2 e3 e4 e5 e6
    rw [e0, e1, e2, e3, e4, e5, e6]
theorem acts_of : ∀ (n : Nat) (vs : List Value), vs.length = n * 7 → (∀ i, i < n → Rd enc Try.prog W 51 ((vs.drop (i * 7)).take 7)) → ∃ as_, Acts (memOf W) vs as_
  | 0, vs, hl, _ => ⟨[], by rw [List.eq_nil_of_length_eq_zero (by omega : vs.length = 0)]; exact .nil⟩
  | n + 1, vs, hl, h => by
    obtain ⟨a, Ac, nc, cc, Af, nf, cf, e, hb, hi⟩ := act_of (h 0 (by omega))
    obtain ⟨as_, ha⟩ := acts_of n (vs.drop 7) (by rw [List.length_drop]; omega) (fun i hi => by
      have := h (i + 1) (by omega)
      rwa [show (i + 1) * 7 = 7 + i * 7 by omega, ← List.drop_drop] at this)
    refine ⟨a :: as_, ?_⟩
    rw [Nat.zero_mul, List.drop_zero] at e
    rw [← List.take_append_drop 7 vs, e]
    exact .cons hb hi ha
theorem plays_con {v0 v1 : Value} {r : Reach} {b : Nat} (k0 : Value.okWide Try.prog W r b 5 v0) (k1 : Value.okWide Try.prog W r b 47 v1)
    (h0 : Rd enc Try.prog W 5 v0.cells.toList) (h1 : Rd enc Try.prog W 47 v1.cells.toList) :
    Con Try.prog 6 #[v0, v1] W (memOf W) [] (fun v _ _ => v = .bool true) noPanic := by
  obtain ⟨c0, rfl⟩ := byte_arg k0 h0
  obtain ⟨A, n, c, vs, e1, hr, hx⟩ := h1.slice (by omega)
  obtain rfl := one_of rfl k1 e1
  obtain ⟨as_, ha⟩ := acts_of n vs hr.len hx
  exact DiskPlays_spec c0 hr ha
end
set_option maxRecDepth 100000 in
theorem diskPlays_lifted (os : Os) (started : os.Started) (H : Type) (enc : TypeId × Value → H) :
    ReturnsInHanded {} Try.checked os 6 .any (Rows.diskPlaysSpec.pre6 enc Try.prog Try.f6 Rows.diskPlaysRow.domain false) (Rows.diskPlaysSpec.post enc Try.prog Try.f6 false true false false) := by
  refine returnsInHanded_of_change (C := Try.checked) own started (by kernel_rfl) Try.func6
    (ChangeSpec.witness6 (enc := enc) (C := Try.checked) false ⟨#[], #[.int .u8 0, .slice none 0 0], []⟩ 8 (by kernel_rfl) (by kernel_rfl) (by kernel_rfl) (by kernel_rfl)) ?_
  intro W base args ds gs before hval0 hW hcnd _
  have hval : ∀ (j : Nat) t v, Try.f6.params[j]? = some t → args[j]? = some v → Value.okWide Try.prog W .any base t v := hval0
  have hW' := hW
  obtain ⟨p, q, hA0, hV, rfl, hfz, hnd⟩ := hW
  have hA : DataW.TrodAll enc Try.prog W 0 (fun _ => true) true Try.f6.params.toList args.toList ds p := hA0
  rw [Try.params6] at hA hval
  obtain ⟨v0, vs0, d0, ds0, p0, q0, hargs, rfl, rfl, h0, r0⟩ := trodAll_cons hA
  obtain ⟨v1, vs1, d1, ds1, p1, q1, rfl, rfl, rfl, h1, r1⟩ := trodAll_cons r0
  obtain ⟨rfl, rfl, rfl⟩ := trodAll_nil r1
  obtain rfl : args = #[v0, v1] := by cases args; simp_all
  obtain ⟨rfl, rfl⟩ := trodVars_none hV
  have k0 := h0
  have lt0 : ∀ x ∈ p0, x.block < W.heap.size := by obtain ⟨m, hm⟩ := k0; exact DataW.trod_lt m _ _ _ hm
  have k1 := h1
  have lt1 : ∀ x ∈ p1, x.block < W.heap.size := by obtain ⟨m, hm⟩ := k1; exact DataW.trod_lt m _ _ _ hm
  refine (calls_of_con (plays_con (hval 0 _ v0 rfl rfl) (hval 1 _ v1 rfl rfl) (rd_of h0) (rd_of h1))).mono fun e W' ⟨he, bel⟩ => ?_
  subst he
  exact ⟨_, rfl, _, _, _, [], _, [], hW', trodAll_mk1 (shutBool _), (trodAll_cons_mk (Below.trod laidOut (by kernel_rfl) (of_decide_eq_true (by kernel_rfl)) k0 bel lt0) (trodAll_cons_mk (Below.trod laidOut (by kernel_rfl) (of_decide_eq_true (by kernel_rfl)) k1 bel lt1) trodAll_mk0)), rfl, bel.frame _, fun h => by cases h⟩
theorem diskPlays_over : Rows.diskPlaysRow.holds Try.pinned (OpenSpec.ofChange Rows.diskPlaysSpec) :=
  OpenClaim.holds_of_wide 6 Try.f6 rfl rfl rfl rfl rfl rfl rfl ⟨rfl, rfl, rfl, rfl, rfl⟩ rfl rfl rfl rfl rfl (by kernel_rfl) Try.func6 (by kernel_rfl)
    (of_decide_eq_true (by kernel_rfl)) (by unfold Func.isWrapper; first | (rw [if_pos (by decide +kernel)]; kernel_rfl) | (rw [if_neg (by decide +kernel)]; exact ⟨rfl, rfl⟩))
    (fun os started H enc _ => diskPlays_lifted os started H enc)
/-- The statement. -/
theorem diskPlays_proved : Rows.DiskPlaysSaid := diskPlays_over
end Go.Proofs.Ytlednbmmchalkaa
