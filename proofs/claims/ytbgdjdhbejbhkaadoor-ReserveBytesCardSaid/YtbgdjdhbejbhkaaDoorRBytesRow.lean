/-
Bytes and back: the walk of the law, and the step to the tied card.
-/
import Derived.Test.YtbgdjdhbejbhkaaDoorLaw21i
import Derived.Test.YtbgdjdhbejbhkaaDoorRowBase21
import Derived.Test.YtbgdjdhbejbhkaaDoorCards
import Derived.Test.YtbgdjdhbejbhkaaDoorTie
set_option linter.unusedVariables false
namespace Go.Proofs.YtbgdjdhbejbhkaaDoor
open Go Go.Eng Go.ChangeShapes Go.WideShapes Go.ChangeAt Go.RowKit
section
variable {H : Type} {enc : TypeId × Value → H} {W : World}
set_option maxRecDepth 100000 in
theorem rbytes_con {v0 v1 v2 : Value} {r : Reach} {b : Nat} (hl : laidMet Tryd.prog Rows.reserveBytesRow.laid W) (k0 : Value.okWide Tryd.prog W r b 81 v0) (k1 : Value.okWide Tryd.prog W r b 45 v1) (k2 : Value.okWide Tryd.prog W r b 45 v2)
    (h0 : Rd enc Tryd.prog W 81 v0.cells.toList) (h1 : Rd enc Tryd.prog W 45 v1.cells.toList) (h2 : Rd enc Tryd.prog W 45 v2.cells.toList) :
    Con Tryd.prog 9 #[v0, v1, v2] W (memOf W) [] (fun v _ _ => v = .bool true) noPanic := by
  obtain ⟨x, rfl⟩ := counted_arg k0 h0
  obtain ⟨A, n, c, g, rfl, hA⟩ := bytes_arg k1 h1
  obtain ⟨B, m, d, k, rfl, hB⟩ := bytes_arg k2 h2
  exact ReserveBytes_spec (shaG_of2 rfl hl) x hA hB
end
/-- The door's own heap meets the condition. -/
theorem reserveBytes_met (os : Os) (args : Array Value) : laidMetH Tryd.prog Rows.reserveBytesRow.laid ((World.doorLaid Tryd.prog 2000 os).forCall (fun _ _ => 0) ⟨#[], args, []⟩).memory :=
  laidMetH_of_parts3 (fuel := 8) (laidMet_of_run' 8 (by kernel_rfl) (by kernel_rfl)) (by kernel_rfl) (by kernel_rfl)
set_option maxRecDepth 100000 in
theorem reserveBytes_lifted (os : Os) (started : os.Started) (H : Type) (enc : TypeId × Value → H) :
    ReturnsInHanded {} Tryd.checked os 9 .any (fun w args => (Rows.reserveBytesSpec.pre enc Tryd.prog Tryd.f9 Rows.reserveBytesRow.domain false w args ∧ laidMetH Tryd.prog Rows.reserveBytesRow.laid w) ∧ sizedMet enc Tryd.prog Tryd.f9 (OpenSpec.ofChange Rows.reserveBytesSpec) false w args) (Rows.reserveBytesSpec.post enc Tryd.prog Tryd.f9 false true false false) := by
  refine returnsInHanded_of_change_and (C := Tryd.checked) (X := fun w _ => laidMetH Tryd.prog Rows.reserveBytesRow.laid w) (fun _ _ _ hh h => h.of_heap hh) own started (by kernel_rfl) Tryd.func9
    (ChangeSpec.witness_shaped (enc := enc) (C := Tryd.checked) (os := os) (X := fun w _ => laidMetH Tryd.prog Rows.reserveBytesRow.laid w) false (World.doorLaid Tryd.prog 2000 os) #[.agg #[.int .u64 0, .int .u64 0, .int .u64 0, .int .u64 0, .bool false], .slice none 0 0, .slice none 0 0] 8 rfl (World.shaped_of_RefB (by kernel_rfl) (by kernel_rfl)) (by kernel_rfl) (by kernel_rfl) (by kernel_rfl) (reserveBytes_met os _)) ?_
  intro W base args ds gs before hval0 hW hcnd _ hL _
  have hlaid : laidMet Tryd.prog Rows.reserveBytesRow.laid W := by rw [MakeChecks.laidMetH_plain _ _ _ (by kernel_rfl)] at hL; exact hL
  have hval : ∀ (j : Nat) t v, Tryd.f9.params[j]? = some t → args[j]? = some v → Value.okWide Tryd.prog W .any base t v := hval0
  have hW' := hW
  obtain ⟨p, q, hA0, hV, rfl, hfz, hnd⟩ := hW
  have hA : DataW.TrodAll enc Tryd.prog W 0 (fun _ => true) true Tryd.f9.params.toList args.toList ds p := hA0
  rw [Tryd.params9] at hA hval
  obtain ⟨v0, vs0, d0, ds0, p0, q0, hargs, rfl, rfl, h0, r0⟩ := trodAll_cons hA
  obtain ⟨v1, vs1, d1, ds1, p1, q1, rfl, rfl, rfl, h1, r1⟩ := trodAll_cons r0
  obtain ⟨v2, vs2, d2, ds2, p2, q2, rfl, rfl, rfl, h2, r2⟩ := trodAll_cons r1
  obtain ⟨rfl, rfl, rfl⟩ := trodAll_nil r2
  obtain rfl : args = #[v0, v1, v2] := by cases args; simp_all
  obtain ⟨rfl, rfl⟩ := trodVars_none hV
  have k0 := h0
  have lt0 : ∀ x ∈ p0, x.block < W.heap.size := by obtain ⟨m, hm⟩ := k0; exact DataW.trod_lt m _ _ _ hm
  have k1 := h1
  have lt1 : ∀ x ∈ p1, x.block < W.heap.size := by obtain ⟨m, hm⟩ := k1; exact DataW.trod_lt m _ _ _ hm
  have k2 := h2
  have lt2 : ∀ x ∈ p2, x.block < W.heap.size := by obtain ⟨m, hm⟩ := k2; exact DataW.trod_lt m _ _ _ hm
  refine (calls_of_con (rbytes_con hlaid (hval 0 _ v0 rfl rfl) (hval 1 _ v1 rfl rfl) (hval 2 _ v2 rfl rfl) (rd_of h0) (rd_of h1) (rd_of h2))).mono fun e W' ⟨he, bel⟩ => ?_
  subst he
  exact ⟨_, rfl, _, _, _, [], _, [], hW', trodAll_mk1 (shutBool _), (trodAll_cons_mk (Below.trod laidOut (by kernel_rfl) (of_decide_eq_true (by kernel_rfl)) k0 bel lt0) (trodAll_cons_mk (Below.trod laidOut (by kernel_rfl) (of_decide_eq_true (by kernel_rfl)) k1 bel lt1) (trodAll_cons_mk (Below.trod laidOut (by kernel_rfl) (of_decide_eq_true (by kernel_rfl)) k2 bel lt2) trodAll_mk0))), rfl, bel.frame _, fun h => by cases h⟩
theorem reserveBytes_over : Rows.ReserveBytesSaid :=
  OpenClaim.holds_of_wide 9 Tryd.f9 rfl rfl rfl rfl rfl rfl rfl ⟨rfl, rfl, rfl, rfl, rfl⟩ rfl rfl rfl rfl rfl (by kernel_rfl) Tryd.func9 (by kernel_rfl)
    (of_decide_eq_true (by kernel_rfl)) (by unfold Func.isWrapper; first | (rw [if_pos (by decide +kernel)]; kernel_rfl) | (rw [if_neg (by decide +kernel)]; exact ⟨rfl, rfl⟩))
    (fun os started H enc _ => reserveBytes_lifted os started H enc)
/-- The statement: the tied card. -/
theorem reserveBytes_proved : Rows.ReserveBytesCardSaid :=
  Claim7.holds_tied_plain_at .later [] [.data, .data] true (true, "717c664ef342b1249ddb18e1bd683a7c6d54cdb8486c118ca5a32a411661039e") true
    reserveBytes_over (fun _ h => by cases h) (by kernel_rfl) (fun _ h => by cases h) reserveBytes_row_tie rfl ⟨rfl, rfl⟩ (by kernel_rfl) rfl
    (fun f fn hf hfn => by
      obtain rfl : f = 9 := Option.some.inj ((show Tryd.prog.funcNamed "tearoff/tearofflaw21.ReserveBytes" = some 9 by kernel_rfl).symm.trans hf) |>.symm
      obtain rfl : fn = Tryd.f9 := (Option.some.inj (Tryd.func9.symm.trans hfn)).symm
      exact ⟨by kernel_rfl, fun j t ht => by
        rw [Tryd.params9] at ht
        have hm : t ∈ [81, 45, 45] := by simpa using Array.mem_of_getElem? ht
        have hall : ([81, 45, 45].all fun u => !Tryd.prog.wantsStandIn u) = true := by kernel_rfl
        exact (show Tryd.prog.wantsStandIn t = false by simpa using List.all_eq_true.1 hall t hm)⟩)
    (by kernel_rfl)
end Go.Proofs.YtbgdjdhbejbhkaaDoor
