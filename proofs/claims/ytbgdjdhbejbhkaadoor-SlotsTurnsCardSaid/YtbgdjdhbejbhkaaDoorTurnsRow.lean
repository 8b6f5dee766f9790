/-
Saved again and again the records lie by turns in both areas, with rising numbers, and what is loaded is the last: the tied card SlotsTurns. Conditions: those of the given row.
-/
import Derived.Test.YtbgdjdhbejbhkaaDoorLaw20b
import Derived.Test.YtbgdjdhbejbhkaaDoorRowBaseV
import Derived.Test.YtbgdjdhbejbhkaaDoorCards
import Derived.Test.YtbgdjdhbejbhkaaDoorTie
set_option linter.unusedVariables false
namespace Go.Proofs.YtbgdjdhbejbhkaaDoor
open Go Go.Eng Go.ChangeShapes Go.WideShapes Go.ChangeAt Go.RowKit
section
variable {H : Type} {enc : TypeId × Value → H} {W : World}
set_option maxRecDepth 100000 in
theorem turns_con {v0 : Value} {r : Reach} {b : Nat} (hl : laidMet Tryd.prog Rows.slotsTurnsRow.laid W) (k0 : Value.okWide Tryd.prog W r b 44 v0)
    (h0 : Rd enc Tryd.prog W 44 v0.cells.toList) :
    Con Tryd.prog 5 #[v0] W (memOf W) [] (fun v _ _ => v = .bool true) noPanic := by
  have hg : ShaG (memOf W) := shaG_of hl List.mem_cons_self (List.mem_cons_of_mem _ List.mem_cons_self)
  obtain ⟨A, n, c, vs, bss, e1, hr, hb⟩ := h0.brows
  obtain rfl := one_of rfl k0 e1
  exact SlotsTurns_spec hg hr hb
end
/-- The door's own heap meets the condition. -/
theorem slotsTurns_met (os : Os) (args : Array Value) : laidMetH Tryd.prog Rows.slotsTurnsRow.laid ((World.doorLaid Tryd.prog 200 os).forCall (fun _ _ => 0) ⟨#[], args, []⟩).memory :=
  laidMetH_of_parts3 (fuel := 8) (laidMet_of_run' 8 (by kernel_rfl) (by kernel_rfl)) (by kernel_rfl) (by kernel_rfl)
set_option maxRecDepth 100000 in
theorem slotsTurns_lifted (os : Os) (started : os.Started) (H : Type) (enc : TypeId × Value → H) :
    ReturnsInHanded {} Tryd.checked os 5 .any (fun w args => (Rows.slotsTurnsSpec.pre enc Tryd.prog Tryd.f5 Rows.slotsTurnsRow.domain false w args ∧ laidMetH Tryd.prog Rows.slotsTurnsRow.laid w) ∧ sizedMet enc Tryd.prog Tryd.f5 (OpenSpec.ofChange Rows.slotsTurnsSpec) false w args) (Rows.slotsTurnsSpec.post enc Tryd.prog Tryd.f5 false true false false) := by
  refine returnsInHanded_of_change_and (C := Tryd.checked) (X := fun w _ => laidMetH Tryd.prog Rows.slotsTurnsRow.laid w) (fun _ _ _ hh h => h.of_heap hh) own started (by kernel_rfl) Tryd.func5
    (ChangeSpec.witness_shaped (enc := enc) (C := Tryd.checked) (os := os) (X := fun w _ => laidMetH Tryd.prog Rows.slotsTurnsRow.laid w) false (World.doorLaid Tryd.prog 200 os) #[.slice none 0 0] 8 rfl (World.shaped_of_RefB (by kernel_rfl) (by kernel_rfl)) (by kernel_rfl) (by kernel_rfl) (by kernel_rfl) (slotsTurns_met os _)) ?_
  intro W base args ds gs before hval0 hW hcnd _ hL _
  have hlaid : laidMet Tryd.prog Rows.slotsTurnsRow.laid W := by rw [MakeChecks.laidMetH_plain _ _ _ (by kernel_rfl)] at hL; exact hL
  have hval : ∀ (j : Nat) t v, Tryd.f5.params[j]? = some t → args[j]? = some v → Value.okWide Tryd.prog W .any base t v := hval0
  have hW' := hW
  obtain ⟨p, q, hA0, hV, rfl, hfz, hnd⟩ := hW
  have hA : DataW.TrodAll enc Tryd.prog W 0 (fun _ => true) true Tryd.f5.params.toList args.toList ds p := hA0
  rw [Tryd.params5] at hA hval
  obtain ⟨v0, vs0, d0, ds0, p0, q0, hargs, rfl, rfl, h0, r0⟩ := trodAll_cons hA
  obtain ⟨rfl, rfl, rfl⟩ := trodAll_nil r0
  obtain rfl : args = #[v0] := by cases args; simp_all
  obtain ⟨rfl, rfl⟩ := trodVars_none hV
  have k0 := h0
  have lt0 : ∀ x ∈ p0, x.block < W.heap.size := by obtain ⟨m, hm⟩ := k0; exact DataW.trod_lt m _ _ _ hm
  refine (calls_of_con (turns_con hlaid (hval 0 _ v0 rfl rfl) (rd_of h0))).mono fun e W' ⟨he, bel⟩ => ?_
  subst he
  exact ⟨_, rfl, _, _, _, [], _, [], hW', trodAll_mk1 (shutBool _), (trodAll_cons_mk (Below.trod laidOut (by kernel_rfl) (of_decide_eq_true (by kernel_rfl)) k0 bel lt0) trodAll_mk0), rfl, bel.frame _, fun h => by cases h⟩
theorem slotsTurns_over : Rows.SlotsTurnsSaid :=
  OpenClaim.holds_of_wide 5 Tryd.f5 rfl rfl rfl rfl rfl rfl rfl ⟨rfl, rfl, rfl, rfl, rfl⟩ rfl rfl rfl rfl rfl (by kernel_rfl) Tryd.func5 (by kernel_rfl)
    (of_decide_eq_true (by kernel_rfl)) (by unfold Func.isWrapper; first | (rw [if_pos (by decide +kernel)]; kernel_rfl) | (rw [if_neg (by decide +kernel)]; exact ⟨rfl, rfl⟩))
    (fun os started H enc _ => slotsTurns_lifted os started H enc)
/-- The statement: the tied card. -/
theorem slotsTurns_proved : Rows.SlotsTurnsCardSaid :=
  Claim7.holds_tied_plain_at .later [] [.data, .data] true (true, "717c664ef342b1249ddb18e1bd683a7c6d54cdb8486c118ca5a32a411661039e") true
    slotsTurns_over (fun _ h => by cases h) (by kernel_rfl) (fun _ h => by cases h) slotsTurns_row_tie rfl ⟨rfl, rfl⟩ (by kernel_rfl) rfl
    (fun f fn hf hfn => by
      obtain rfl : f = 5 := Option.some.inj ((show Tryd.prog.funcNamed "tearoff/tearofflaw20.SlotsTurns" = some 5 by kernel_rfl).symm.trans hf) |>.symm
      obtain rfl : fn = Tryd.f5 := (Option.some.inj (Tryd.func5.symm.trans hfn)).symm
      exact ⟨by kernel_rfl, fun j t ht => by
        rw [Tryd.params5] at ht
        have hm : t ∈ [44] := by simpa using Array.mem_of_getElem? ht
        have hall : ([44].all fun u => !Tryd.prog.wantsStandIn u) = true := by kernel_rfl
        exact (show Tryd.prog.wantsStandIn t = false by simpa using List.all_eq_true.1 hall t hm)⟩)
    (by kernel_rfl)
end Go.Proofs.YtbgdjdhbejbhkaaDoor
