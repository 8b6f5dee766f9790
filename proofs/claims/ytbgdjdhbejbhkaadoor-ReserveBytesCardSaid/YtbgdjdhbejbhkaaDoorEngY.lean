/-
Contracts of functions, each proved by a walk through its code.
-/
import Derived.Test.YtbgdjdhbejbhkaaDoorEngX
import Derived.Laws.StructEq
set_option linter.unusedVariables false
set_option linter.unusedSimpArgs false
namespace Go.Eng
/-! ### Structs of numbers that are compared -/
section
variable {P : Program} {ty : TypeId} {F : Fr} {M : Mem} {L : Own} {x y : Operand} {t t' : TypeId}
def EqF (P : Program) (fs : List Field) (xs ys : List Value) (r : Prop) [Decidable r] : Prop := ∀ (d : Nat) w, (Op.eqFields (d + 1) xs.toArray ys.toArray fs).run P w = .ok (decide r) w
theorem eqF_nil {xs ys : List Value} : EqF P [] xs ys True := fun d w => by simp [Op.eqFields]
theorem run_part {t : TypeId} {d : TypeDesc} {z : Value} {s b : Nat} [ti : TI P t d z s b] (ha : aggD d = false) {cs : List Value} {o : Nat} {v : Value} (h : cs[o]? = some v) (w : World) : (part t cs.toArray o).run P w = .ok v w := by
  simp [part, run_isAgg ti.und, ha, h]
theorem eqF_int {f : Field} {fs : List Field} {k : IntKind} {z : Value} {s b0 : Nat} [ti : TI P f.type (.int k) z s b0] {xs ys : List Value} {a b : Int} {r : Prop} [Decidable r] (hn : f.name ≠ "_") (hx : xs[f.offset]? = some (.int k a)) (hy : ys[f.offset]? = some (.int k b)) (h : EqF P fs xs ys r) :
    EqF P (f :: fs) xs ys (a = b ∧ r) := fun d w => by
  simp only [Op.eqFields, if_pos hn, Sem.run_bind, run_part (d := .int k) rfl hx, run_part (d := .int k) rfl hy, Result.andThen_ok, run_equalIn_int w d f.type k k a b ti.und]
  by_cases hab : a = b
  · subst hab
    simp [h d w]
  · simp [hab]
theorem eqF_bool {f : Field} {fs : List Field} {z : Value} {s b0 : Nat} [ti : TI P f.type .bool z s b0] {xs ys : List Value} {a b : Bool} {r : Prop} [Decidable r] (hn : f.name ≠ "_") (hx : xs[f.offset]? = some (.bool a)) (hy : ys[f.offset]? = some (.bool b)) (h : EqF P fs xs ys r) :
    EqF P (f :: fs) xs ys (a = b ∧ r) := fun d w => by
  simp only [Op.eqFields, if_pos hn, Sem.run_bind, run_part (d := .bool) rfl hx, run_part (d := .bool) rfl hy, Result.andThen_ok, run_equalIn_bool' w d f.type a b ti.und]
  by_cases hab : a = b
  · subst hab
    simp [h d w]
  · simp [hab]
structure EqS (P : Program) (t : TypeId) (xs ys : List Value) (r : Prop) [Decidable r] : Prop where
  g : P.eqGuardType P.depth t = false
  run : ∀ w, (Op.equalIn 10000 t (.agg xs.toArray) (.agg ys.toArray)).run P w = .ok (decide r) w
theorem eqS_of {xs ys : List Value} {r : Prop} [Decidable r] (fs : Array Field) (hu : P.underlying t = some (.struct fs)) (hp : P.stoodInHeld t = false) (hg : P.eqGuardType P.depth t = false) (h : EqF P fs.toList xs ys r) : EqS P t xs ys r := by
  have hf : P.fieldsOf t = fs := by simp [Program.fieldsOf, hu]
  refine ⟨hg, fun w => ?_⟩
  rw [run_equalIn_struct w 9999 t xs.toArray ys.toArray (by rw [hf]; exact hu) hp, hf]
  exact h 9998 w
theorem y_eqlS {xs ys : List Value} {r : Prop} [Decidable r] (hx : ev F x = some (.agg xs.toArray)) (hy : ev F y = some (.agg ys.toArray)) (h : EqS P t xs ys r) : Yld P (.binOp .eql t x y t') ty F M L (.bool (decide r)) := fun w ρ hs hρ => by
  have hr : (binOp .eql t (.agg xs.toArray) (.agg ys.toArray)).run P w = .ok (.bool (decide r)) w := by rw [run_eql_struct, h.run w]; rfl
  simp only [execOp, hρ _ _ hx, hρ _ _ hy, Sem.run_bind, run_eqGuard_agg w .eql t x y _ _ h.g, Result.andThen_ok, hr, Sem.run_pure]
theorem y_neqS {xs ys : List Value} {r : Prop} [Decidable r] (hx : ev F x = some (.agg xs.toArray)) (hy : ev F y = some (.agg ys.toArray)) (h : EqS P t xs ys r) : Yld P (.binOp .neq t x y t') ty F M L (.bool (!decide r)) := fun w ρ hs hρ => by
  have hr : (binOp .neq t (.agg xs.toArray) (.agg ys.toArray)).run P w = .ok (.bool (!decide r)) w := by rw [run_neq_struct, h.run w]; rfl
  simp only [execOp, hρ _ _ hx, hρ _ _ hy, Sem.run_bind, run_eqGuard_agg w .neq t x y _ _ h.g, Result.andThen_ok, hr, Sem.run_pure]
end
section
variable {P : Program} {F : Fr} {G : World} {M : Mem} {L L' : Own}
theorem rv3 {fn : Func} {r r' r'' : ResultVar} {v v' v'' : Value} (hr : fn.results = #[r, r', r'']) (h : RC P F M L r v) (h' : RC P F M L r' v') (h'' : RC P F M L r'' v'') : RV P fn F M L (.tuple #[v, v', v'']) := fun w tmps hs ht => by
  have h1 := h w tmps hs ht
  have h2 := h' w tmps hs ht
  have h3 := h'' w tmps hs ht
  simp only [results, hr, List.mapM_toArray, List.mapM_cons, List.mapM_nil, Sem.run_bind, Sem.run_map]
  cases r <;> cases r' <;> cases r'' <;> simp_all [Sem.run_bind]
theorem Con.bring {f : FuncId} {args : Array Value} {K : Value → Mem → Own → Prop} {Kp : List PanicEntry → Mem → Own → Prop} (b : Nat) {o : Obj} (hs : Sel L b o L') (h : Con P f args G M ((b, o) :: L') K Kp) : Con P f args G M L K Kp := h.perm hs.perm
end
end Go.Eng
