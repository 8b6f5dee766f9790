/-
Contracts of functions, each proved by a walk through its code.
-/
import Derived.Test.YtbjnjedfoiedeaaDoorRef8bEtc
import Derived.Test.YtbjnjedfoiedeaaDoorEngWEtc
import Derived.Test.YtbjnjedfoiedeaaDoorTypes1Etc
import Derived.Test.YtbjnjedfoiedeaaDoorMerkle3Etc
set_option linter.unusedVariables false
set_option linter.unusedSimpArgs false
namespace Go.Proofs.YtbjnjedfoiedeaaDoor
open Go Go.Eng
theorem y_neg64 {P : Program} {ty : TypeId} {F : Fr} {M : Mem} {L : Own} {x : Operand} {t : TypeId} {a : UInt64} (hx : ev F x = some (u64v a)) : Yld P (.unOp .neg t x) ty F M L (u64v (0 - a)) := by
  have h := y_neg (P := P) (M := M) (L := L) (t := t) (ty := ty) hx
  have e : IntKind.u64.wrap (0 - (a.toNat : Int)) = ((0 - a).toNat : Int) := by
    have ha := a.toNat_lt
    rw [wrapU64, UInt64.toNat_sub, show (0 : UInt64).toNat = 0 from rfl]; omega
  rwa [e] at h
theorem low64 (q : UInt32) : ((~~~ q.toUInt64) &&& (0 - ~~~ q.toUInt64)).toNat = pw2 (chg q.toNat - 1) := by
  have hq := q.toNat_lt
  have h1 : (~~~ q.toUInt64).toNat = 2 ^ 64 - 1 - q.toNat := by rw [UInt64.toNat_not, UInt32.toNat_toUInt64]
  have h2 : (0 - ~~~ q.toUInt64).toNat = q.toNat + 1 := by
    rw [UInt64.toNat_sub, h1, show (0 : UInt64).toNat = 0 from rfl]; omega
  rw [UInt64.toNat_and, h1, h2]
  exact low_bit 64 q.toNat (by show q.toNat + 1 < 2 ^ 64; omega)
set_option linter.constructorNameAsVariable false
structure BitG (M : Mem) : Prop where
  tab : ∃ T fr, M 0 = some (.cells (deB.map fun (x : Nat) => Value.int .u8 ((x : Nat) : Int)).toArray T fr)
section
variable {G : World} {M : Mem} {L : Own}
theorem tz_spec (hg : BitG M) (q : UInt32) :
    Con Tryd.prog 47 #[.int .u64 ((~~~ q.toUInt64).toNat : Int)] G M L (fun v M' L' => M = M' ∧ L = L' ∧ v = .int .i64 ((chg q.toNat - 1 : Nat) : Int)) noPanic := by
  obtain ⟨T, fr, ht⟩ := hg.tab
  have hq := q.toNat_lt
  have h33 := chg_lt 32 q.toNat (by show q.toNat < 2 ^ 32; omega)
  have h1 : (~~~ q.toUInt64).toNat = 2 ^ 64 - 1 - q.toNat := by rw [UInt64.toNat_not, UInt32.toNat_toUInt64]
  have hd := deB_at ⟨chg q.toNat - 1, by omega⟩
  simp only at hd
  have hix : (shr64 (((~~~ q.toUInt64) &&& (0 - ~~~ q.toUInt64)) * 285870213051353865) 58).toNat = 2 ^ (chg q.toNat - 1) * 285870213051353865 % 18446744073709551616 / 288230376151711744 := by
    rw [shr64, UInt64.toNat_ofNat', UInt64.toNat_mul, low64]
    show _ % 2 ^ 64 = _
    rw [Nat.mod_eq_of_lt (by omega)]
    rfl
  obtain ⟨ix, hxe⟩ : ∃ ix, ix = 2 ^ (chg q.toNat - 1) * 285870213051353865 % 18446744073709551616 / 288230376151711744 := ⟨_, rfl⟩
  rw [← hxe] at hd hix
  have hl : ix < deB.length := by show ix < 64; omega
  have hl64 : ix < 64 := hl
  have hgt : deB[ix]? = some (chg q.toNat - 1) := by
    rw [List.getD_eq_getElem?_getD, List.getElem?_eq_getElem hl] at hd
    rw [List.getElem?_eq_getElem hl]
    simpa using hd
  refine enter (args := [_]) (fn := Tryd.f47) ⟨Tryd.func47, rfl, by kernel_rfl, by kernel_rfl⟩ 14 rfl ?_
  refine x_seq (x_region ?_)
  refine tl_y rfl (y_assign rfl) ?_
  refine tl_nil (.then_normal ?_)
  refine x_seq (x_seq (x_region ?_))
  refine tl_y rfl (y_move (v := .int _ _) rfl) ?_
  refine tl_y rfl (y_eql rfl rfl) ?_
  refine tl_nil (.then_normal ?_)
  refine x_false rfl (decide_eq_false (by omega)) ?_
  refine x_skip (.then_normal ?_)
  refine x_seq (x_region ?_)
  refine tl_y rfl (y_move (v := .int _ _) rfl) ?_
  refine tl_y rfl (y_move (v := .int _ _) rfl) ?_
  refine tl_y rfl (y_neg64 rfl) ?_
  refine tl_y rfl (y_and64 rfl rfl) ?_
  refine tl_y rfl (y_mul64 (b := 285870213051353865) rfl rfl) ?_
  refine tl_y rfl (y_shr64 (s := 58) rfl rfl) ?_
  rw [show u64v (shr64 (((~~~ q.toUInt64) &&& (0 - ~~~ q.toUInt64)) * 285870213051353865) 58) = .int .u64 ((ix : Nat) : Int) from congrArg (fun (x : Nat) => Value.int .u64 (x : Int)) hix]
  refine tl_y rfl (y_indexArr rfl rfl (by omega)) ?_
  refine tl_y rfl (y_load rfl rfl (.at_ (.ro (i := ix) ht (by rw [List.getElem?_toArray, List.getElem?_map, hgt]; rfl)) (by omega))) ?_
  refine tl_y rfl (y_convI rfl (by omega)) ?_
  refine tl_y rfl (y_assign (v := .int _ _) rfl) ?_
  refine tl_nil (.then_normal ?_)
  refine .sub (F' := [(2, _)]) (.cons rfl .nil) ?_
  refine x_ret (ret1 rfl rfl (Le.refl _) ⟨rfl, rfl, rfl⟩)
end
end Go.Proofs.YtbjnjedfoiedeaaDoor
set_option linter.unusedVariables false
set_option linter.unusedSimpArgs false
set_option linter.constructorNameAsVariable false
namespace Go.Proofs.YtbjnjedfoiedeaaDoor
open Go Go.Eng
section
variable {G : World} {M : Mem} {L : Own}
theorem Changes_spec (hg : BitG M) (q : UInt32) :
    Con Tryd.prog 20 #[.int .u32 (q.toNat : Int)] G M L (fun v M' L' => M = M' ∧ L = L' ∧ v = .int .i64 (chg q.toNat : Nat)) noPanic := by
  have hq := q.toNat_lt
  have hp := chg_pos q.toNat
  have h33 := chg_lt 32 q.toNat (by show q.toNat < 2 ^ 32; omega)
  refine enter (args := [_]) (fn := Tryd.f20) ⟨Tryd.func20, rfl, by kernel_rfl, by kernel_rfl⟩ 8 rfl ?_
  refine x_seq (x_region ?_)
  refine tl_y rfl (y_assign rfl) ?_
  refine tl_nil (.then_normal ?_)
  refine x_seq (x_region ?_)
  refine tl_y rfl (y_move (v := .int _ _) rfl) ?_
  refine tl_y rfl (y_u32u64 rfl) ?_
  refine tl_y rfl (y_com64 rfl) ?_
  refine tl_e rfl (e_call' rfl (tz_spec hg q) ?_)
  rintro _ _ _ _ ⟨rfl, rfl, rfl⟩
  refine tl_y rfl (y_addI rfl rfl (by omega)) ?_
  refine tl_y rfl (y_assign (v := .int _ _) rfl) ?_
  refine tl_nil (.then_normal ?_)
  refine .sub (F' := [(2, _)]) (.cons rfl .nil) ?_
  refine x_ret (ret1 rfl rfl (Le.refl _) ⟨rfl, rfl, by rw [show ((chg q.toNat - 1 : Nat) : Int) + 1 = (chg q.toNat : Nat) by omega]⟩)
end
end Go.Proofs.YtbjnjedfoiedeaaDoor
set_option linter.unusedVariables false
set_option linter.unusedSimpArgs false
namespace Go.Proofs.YtbjnjedfoiedeaaDoor
open Go Go.Eng
/-! ### Blocks that are lent: read-only for a while, then the owner's again -/
def lend (M : Mem) : Own → Mem
  | [] => M
  | p :: E => pub (lend M E) p.1 p.2
def back (M : Mem) (E : Own) : Mem := fun i => if i ∈ E.map Prod.fst then none else M i
structure Lent (M0 M : Mem) (E : Own) : Prop where
  le : Le M0 M
  at_ : ∀ p ∈ E, M p.1 = some p.2
  no : ∀ p ∈ E, M0 p.1 = none
  nd : (E.map Prod.fst).Nodup
theorem Lent.mono {M0 M M' : Mem} {E : Own} (h : Lent M0 M E) (hle : Le M M') : Lent M0 M' E := ⟨h.le.trans hle, fun p hp => hle _ _ (h.at_ p hp), h.no, h.nd⟩
theorem lend_other (M : Mem) : ∀ (E : Own) (i : Nat), i ∉ E.map Prod.fst → lend M E i = M i
  | [], i, _ => rfl
  | p :: E, i, h => by
    simp only [List.map_cons, List.mem_cons, not_or] at h
    rw [lend, pub, if_neg h.1]
    exact lend_other M E i h.2
theorem lend_at (M : Mem) : ∀ (E : Own), (E.map Prod.fst).Nodup → ∀ p ∈ E, lend M E p.1 = some p.2
  | [], _, p, hp => by cases hp
  | q :: E, h, p, hp => by
    simp only [List.map_cons, List.nodup_cons] at h
    rcases List.mem_cons.1 hp with rfl | hp
    · rw [lend, pub, if_pos rfl]
    · have hne : p.1 ≠ q.1 := fun he => h.1 (he ▸ List.mem_map_of_mem hp)
      rw [lend, pub, if_neg hne]
      exact lend_at M E h.2 p hp
theorem St.lend {G : World} {M : Mem} {E R : Own} {w : World} (h : St G M (E ++ R) w) : St G (lend M E) R w ∧ Lent M (lend M E) E := by
  have hnd := h.nd
  rw [List.map_append, List.nodup_append] at hnd
  obtain ⟨n1, n2, n3⟩ := hnd
  have hno : ∀ p ∈ E, M p.1 = none := fun p hp => (h.own p (List.mem_append_left _ hp)).2
  refine ⟨⟨h.os, h.tape, h.output, fun b o x => ?_, fun p hp => ?_, n2⟩, ⟨fun b o x => ?_, lend_at M E n1, hno, n1⟩⟩
  · by_cases hb : b ∈ E.map Prod.fst
    · obtain ⟨p, hp, rfl⟩ := List.mem_map.1 hb
      rw [lend_at M E n1 p hp] at x
      cases x
      exact (h.own p (List.mem_append_left _ hp)).1
    · rw [lend_other M E b hb] at x
      exact h.ro b o x
  · have hx := h.own p (List.mem_append_right _ hp)
    refine ⟨hx.1, ?_⟩
    rw [lend_other M E p.1 (fun hm => n3 _ hm _ (List.mem_map_of_mem hp) rfl)]
    exact hx.2
  · by_cases hb : b ∈ E.map Prod.fst
    · obtain ⟨p, hp, rfl⟩ := List.mem_map.1 hb
      rw [hno p hp] at x; cases x
    · rw [lend_other M E b hb]; exact x
theorem St.back {G : World} {M0 M : Mem} {E R : Own} {w : World} (h : St G M R w) (hl : Lent M0 M E) : St G (back M E) (E ++ R) w ∧ Le M0 (back M E) := by
  refine ⟨⟨h.os, h.tape, h.output, fun b o x => ?_, fun p hp => ?_, ?_⟩, fun b o x => ?_⟩
  · unfold Go.Proofs.YtbjnjedfoiedeaaDoor.back at x
    split at x
    · cases x
    · exact h.ro b o x
  · rcases List.mem_append.1 hp with hp | hp
    · exact ⟨h.ro _ _ (hl.at_ p hp), by unfold Go.Proofs.YtbjnjedfoiedeaaDoor.back; rw [if_pos (List.mem_map_of_mem hp)]⟩
    · have hx := h.own p hp
      refine ⟨hx.1, ?_⟩
      unfold Go.Proofs.YtbjnjedfoiedeaaDoor.back
      split
      · rfl
      · exact hx.2
  · rw [List.map_append, List.nodup_append]
    refine ⟨hl.nd, h.nd, fun a ha b hb he => ?_⟩
    subst he
    obtain ⟨p, hp, rfl⟩ := List.mem_map.1 ha
    obtain ⟨q, hq, he⟩ := List.mem_map.1 hb
    have h1 := (h.own q hq).2
    rw [he, hl.at_ p hp] at h1
    cases h1
  · unfold Go.Proofs.YtbjnjedfoiedeaaDoor.back
    split
    · rename_i hb
      obtain ⟨p, hp, rfl⟩ := List.mem_map.1 hb
      rw [hl.no p hp] at x; cases x
    · exact hl.le b o x
section
variable {P : Program} {n : Nat} {Q : Post} {F : Fr} {D : List Deferred} {G : World} {M M0 : Mem} {R E : Own} {ops : Array Oper} {rest : List Oper}
theorem T.lend {c : Code} (E : Own) (h : ∀ M', Lent M M' E → T P n c Q F D G M' R) : T P n c Q F D G M (E ++ R) := fun hok w a hw ha => h _ (St.lend hw).2 hok w a (St.lend hw).1 ha
theorem TL.lend (E : Own) (h : ∀ M', Lent M M' E → TL P n ops rest Q F D G M' R) : TL P n ops rest Q F D G M (E ++ R) := fun hok w a hw ha => h _ (St.lend hw).2 hok w a (St.lend hw).1 ha
theorem TQ.lend {x : Exit} (E : Own) (h : ∀ M', Lent M M' E → TQ Q x F D G M' R) : TQ Q x F D G M (E ++ R) := fun w hw => h _ (St.lend hw).2 w (St.lend hw).1
theorem T.back {c : Code} (hl : Lent M0 M E) (h : ∀ M', Le M0 M' → T P n c Q F D G M' (E ++ R)) : T P n c Q F D G M R := fun hok w a hw ha => h _ (St.back hw hl).2 hok w a (St.back hw hl).1 ha
theorem TL.back (hl : Lent M0 M E) (h : ∀ M', Le M0 M' → TL P n ops rest Q F D G M' (E ++ R)) : TL P n ops rest Q F D G M R := fun hok w a hw ha => h _ (St.back hw hl).2 hok w a (St.back hw hl).1 ha
theorem TQ.back {x : Exit} (hl : Lent M0 M E) (h : ∀ M', Le M0 M' → TQ Q x F D G M' (E ++ R)) : TQ Q x F D G M R := fun w hw => h _ (St.back hw hl).2 w (St.back hw hl).1
end
/-- A lent row is read like any other. -/
theorem Lent.row {M0 M : Mem} {E E1 : Own} (h : Lent M0 M E) (hs : ∀ p ∈ E1, p ∈ E) {e : TypeId} {s n cap : Nat} {A : Option Addr} {vs : List Value} (ho : OwnRow e s A n cap vs E1) : Row M s A n cap vs := by
  cases ho with
  | nil => exact Row.nil _ _
  | @row g n cap pre vs slack h1 h2 h3 h4 =>
    refine ⟨h1, h3, h4, fun _ => ⟨g, pre.length, _, e, (0, 0), rfl, h.at_ _ (hs _ List.mem_cons_self), fun j v hj => ?_⟩⟩
    rw [List.getElem?_toArray, List.getElem?_append_right (by omega), Nat.add_sub_cancel_left, List.getElem?_append_left (List.getElem?_eq_some_iff.1 hj).1]
    exact hj
end Go.Proofs.YtbjnjedfoiedeaaDoor
set_option linter.unusedVariables false
set_option linter.unusedSimpArgs false
namespace Go.Proofs.YtbjnjedfoiedeaaDoor
open Go Go.Eng
/-! ### Rows of bytes, each with an owner's entry of its own -/
inductive OwnBs : List Value → List (List UInt8) → Own → Prop
  | nil : OwnBs [] [] []
  | cons {A : Option Addr} {n c : Nat} {b : List UInt8} {E1 : Own} {vs : List Value} {bs : List (List UInt8)} {E : Own} : OwnRow 5 1 A n c (b.map bv) E1 → OwnBs vs bs E → OwnBs (.slice A n c :: vs) (b :: bs) (E1 ++ E)
  | perm {vs : List Value} {bs : List (List UInt8)} {E E' : Own} : OwnBs vs bs E → E.Perm E' → OwnBs vs bs E'
theorem OwnBs.len {vs : List Value} {bs : List (List UInt8)} {E : Own} (h : OwnBs vs bs E) : vs.length = bs.length := by
  induction h with
  | nil => rfl
  | cons _ _ ih => simp [ih]
  | perm _ _ ih => exact ih
theorem OwnBs.snoc {vs : List Value} {bs : List (List UInt8)} {E : Own} (h : OwnBs vs bs E) {A : Option Addr} {n c : Nat} {b : List UInt8} {E1 : Own} (h1 : OwnRow 5 1 A n c (b.map bv) E1) : OwnBs (vs ++ [.slice A n c]) (bs ++ [b]) (E1 ++ E) := by
  induction h with
  | nil => exact .cons h1 .nil
  | @cons A' n' c' b' E1' vs bs E hb _ ih =>
    refine .perm (.cons hb ih) ?_
    rw [← List.append_assoc, ← List.append_assoc]
    exact List.perm_append_comm.append_right E
  | perm _ hp ih => exact .perm ih (hp.append_left _)
theorem OwnBs.get {vs : List Value} {bs : List (List UInt8)} {E : Own} (h : OwnBs vs bs E) : ∀ i, i < bs.length → ∃ A n c E1 E2, vs[i]? = some (.slice A n c) ∧ OwnRow 5 1 A n c ((bs.getD i []).map bv) E1 ∧ E.Perm (E1 ++ E2) ∧ ∀ b' E1', OwnRow 5 1 A n c (b'.map bv) E1' → OwnBs vs (bs.set i b') (E1' ++ E2) := by
  induction h with
  | nil => intro i hi; simp at hi
  | @cons A n c b E1 vs bs E hb ht ih =>
    intro i hi
    cases i with
    | zero => exact ⟨A, n, c, E1, E, rfl, by simpa using hb, List.Perm.refl _, fun b' E1' h' => by simpa using OwnBs.cons h' ht⟩
    | succ i =>
      obtain ⟨A2, n2, c2, E2, E3, h1, h2, h3, h4⟩ := ih i (by simpa using hi)
      refine ⟨A2, n2, c2, E2, E1 ++ E3, by simpa using h1, by simpa using h2, ?_, fun b' E1' h' => ?_⟩
      · refine (h3.append_left E1).trans ?_
        rw [← List.append_assoc, ← List.append_assoc]
        exact List.perm_append_comm.append_right E3
      · refine .perm (.cons hb (h4 b' E1' h')) ?_
        rw [← List.append_assoc, ← List.append_assoc]
        exact List.perm_append_comm.append_right E3
  | perm _ hp ih =>
    intro i hi
    obtain ⟨A, n, c, E1, E2, h1, h2, h3, h4⟩ := ih i hi
    exact ⟨A, n, c, E1, E2, h1, h2, hp.symm.trans h3, h4⟩
theorem OwnBs.pub {vs : List Value} {bs : List (List UInt8)} {E : Own} (h : OwnBs vs bs E) {G : World} {w : World} : ∀ {M : Mem} {R : Own}, St G M (E ++ R) w → ∃ M', Le M M' ∧ St G M' R w ∧ BRows M' vs bs := by
  induction h with
  | nil => intro M R hw; exact ⟨M, Le.refl _, hw, .nil⟩
  | cons hb _ ih =>
    intro M R hw
    rw [List.append_assoc] at hw
    obtain ⟨M1, h1, h2, h3⟩ := hb.pub hw
    obtain ⟨M2, k1, k2, k3⟩ := ih h2
    exact ⟨M2, h1.trans k1, k2, .cons (h3.mono k1) k3⟩
  | perm _ hp ih => intro M R hw; exact ih (hw.perm (hp.symm.append_right R))
section
variable {P : Program} {n : Nat} {Q : Post} {F : Fr} {D : List Deferred} {G : World} {M : Mem} {R : Own} {ops : Array Oper} {rest : List Oper} {vs : List Value} {bs : List (List UInt8)} {E : Own}
theorem T.pubBs {c : Code} (ho : OwnBs vs bs E) (h : ∀ M', Le M M' → BRows M' vs bs → T P n c Q F D G M' R) : T P n c Q F D G M (E ++ R) := fun hok w a hw ha =>
  let ⟨M', h1, h2, h3⟩ := ho.pub hw
  h M' h1 h3 hok w a h2 ha
theorem TL.pubBs (ho : OwnBs vs bs E) (h : ∀ M', Le M M' → BRows M' vs bs → TL P n ops rest Q F D G M' R) : TL P n ops rest Q F D G M (E ++ R) := fun hok w a hw ha =>
  let ⟨M', h1, h2, h3⟩ := ho.pub hw
  h M' h1 h3 hok w a h2 ha
theorem TQ.pubBs {x : Exit} (ho : OwnBs vs bs E) (h : ∀ M', Le M M' → BRows M' vs bs → TQ Q x F D G M' R) : TQ Q x F D G M (E ++ R) := fun w hw =>
  let ⟨M', h1, h2, h3⟩ := ho.pub hw
  h M' h1 h3 w h2
end
/-! ### Rows of bytes that are read as they lie, whoever owns them -/
theorem cellAt_up {M M' : Mem} {L L' : Own} {ad : Addr} {v : Value} (h : CellAt M L ad v) (hle : Le M M') (hs : ∀ p ∈ L, p ∈ L') : CellAt M' L' ad v := fun w hw => h w ⟨fun b o x => hw.ro b o (hle b o x), fun p hp => hw.own p (hs p hp)⟩
theorem rowIn_up {M M' : Mem} {L L' : Own} {s n : Nat} {A : Option Addr} {vs : List Value} (h : RowIn M L s A n vs) (hle : Le M M') (hs : ∀ p ∈ L, p ∈ L') : RowIn M' L' s A n vs := ⟨h.len, fun hn =>
  let ⟨b, o, e, hc⟩ := h.addr hn
  ⟨b, o, e, fun j v hj => cellAt_up (hc j v hj) hle hs⟩⟩
def BIn (M : Mem) (L : Own) (vs : List Value) (bs : List (List UInt8)) : Prop := vs.length = bs.length ∧ ∀ i, i < bs.length → ∃ A n c, vs[i]? = some (.slice A n c) ∧ RowIn M L 1 A n ((bs.getD i []).map bv)
theorem BIn.up {M M' : Mem} {L L' : Own} {vs : List Value} {bs : List (List UInt8)} (h : BIn M L vs bs) (hle : Le M M') (hs : ∀ p ∈ L, p ∈ L') : BIn M' L' vs bs := ⟨h.1, fun i hi =>
  let ⟨A, n, c, e, hr⟩ := h.2 i hi
  ⟨A, n, c, e, rowIn_up hr hle hs⟩⟩
theorem brows_in {M : Mem} {L : Own} {vs : List Value} {bs : List (List UInt8)} (h : BRows M vs bs) : BIn M L vs bs := ⟨h.len, fun i hi =>
  let ⟨A, n, c, e, hr⟩ := h.get i hi
  ⟨A, n, c, e, Row.in_ hr⟩⟩
theorem OwnBs.lent {vs : List Value} {bs : List (List UInt8)} {E : Own} (h : OwnBs vs bs E) : ∀ {M0 M : Mem} {E0 : Own}, Lent M0 M E0 → (∀ p ∈ E, p ∈ E0) → BRows M vs bs := by
  induction h with
  | nil => intro M0 M E0 _ _; exact .nil
  | cons hb _ ih => intro M0 M E0 hl hs; exact .cons (hl.row (fun p hp => hs p (List.mem_append_left _ hp)) hb) (ih hl (fun p hp => hs p (List.mem_append_right _ hp)))
  | perm _ hp ih => intro M0 M E0 hl hs; exact ih hl (fun p hq => hs p (hp.mem_iff.1 hq))
theorem OwnBs.in_ {M : Mem} {L L' : Own} {vs : List Value} {bs : List (List UInt8)} {E : Own} (h : OwnBs vs bs E) (hs : SelE L E L') : BIn M L vs bs := ⟨h.len, fun i hi => by
  obtain ⟨A, n, c, E1, E2, e, hr, hp, _⟩ := h.get i hi
  have h1 : SelE L E1 (E2 ++ L') := ⟨hs.perm.trans (by rw [← List.append_assoc]; exact hp.append_right L')⟩
  exact ⟨A, n, c, e, hr.in_ h1 (by omega)⟩⟩
end Go.Proofs.YtbjnjedfoiedeaaDoor
set_option linter.unusedVariables false
set_option linter.unusedSimpArgs false
namespace Go.Proofs.YtbjnjedfoiedeaaDoor
open Go Go.Eng
/-- How many sums the next leaf makes, behind 'p' of them; how many were made so far. -/
def sumsN (H p : Nat) : Nat := if p = 0 then H else min H (chg (p - 1))
def madeN (H : Nat) : Nat → Nat
  | 0 => 0
  | p + 1 => madeN H p + sumsN H p
theorem sumsN_le (H p : Nat) : sumsN H p ≤ H := by unfold sumsN; split <;> omega
theorem madeN_le (H : Nat) : ∀ p, madeN H p ≤ H * p
  | 0 => Nat.zero_le _
  | p + 1 => by
    have h1 := madeN_le H p
    have h2 := sumsN_le H p
    rw [madeN, Nat.mul_succ]; omega
/-- All sums of the leaves so far. -/
def allN : Nat → Nat
  | 0 => 0
  | m + 1 => allN m + chg m
theorem allN_two : ∀ m, allN (2 * m) = 2 * m + allN m
  | 0 => rfl
  | m + 1 => by
    rw [show 2 * (m + 1) = 2 * m + 1 + 1 by omega, allN, allN, allN_two m, chg_even (q := 2 * m) (by omega), chg_odd (q := 2 * m + 1) (by omega), show (2 * m + 1) / 2 = m by omega, allN]
    omega
theorem allN_le (m : Nat) : allN m ≤ 2 * m := by
  induction m using Nat.strongRecOn with
  | ind m ih =>
    rcases Nat.eq_zero_or_pos m with h0 | h0
    · subst h0; exact Nat.le_refl _
    · have h1 := ih (m / 2) (by omega)
      have h2 := allN_two (m / 2)
      by_cases h : m % 2 = 1
      · rw [show m = 2 * (m / 2) + 1 by omega, allN, h2, chg_even (by omega)]; omega
      · rw [show m = 2 * (m / 2) by omega, h2]; omega
theorem madeN_all (H : Nat) : ∀ p, madeN H (p + 1) ≤ H + allN p
  | 0 => by rw [madeN, madeN, sumsN, if_pos rfl, allN]; omega
  | p + 1 => by
    have h1 := madeN_all H p
    rw [madeN, allN, sumsN, if_neg (by omega), show p + 1 - 1 = p by omega]
    omega
/-- Fewer than twice as many as there are leaves, and the tree is high. -/
theorem madeN_lt (H p : Nat) (h : 0 < p) : madeN H p < 2 * p + H := by
  obtain ⟨k, rfl⟩ : ∃ k, p = k + 1 := ⟨p - 1, by omega⟩
  have h1 := madeN_all H k
  have h2 := allN_le k
  omega
/-- The next leaf's way: what was there, but for the sums that change. -/
theorem wayAt_next (t : TreeV) (name : List UInt8) (keys : List (List UInt8)) {H p g : Nat} (h0 : 0 < p) (hg : g < H) (h : sumsN H p ≤ g) : wayAt t name keys p g = wayAt t name keys (p - 1) g := by
  obtain ⟨k, rfl⟩ : ∃ k, p = k + 1 := ⟨p - 1, by omega⟩
  rw [sumsN, if_neg (by omega)] at h
  rw [show k + 1 - 1 = k by omega] at h ⊢
  exact wayAt_same t name keys (by omega)
end Go.Proofs.YtbjnjedfoiedeaaDoor
set_option linter.unusedVariables false
set_option linter.unusedSimpArgs false
set_option linter.constructorNameAsVariable false
namespace Go.Proofs.YtbjnjedfoiedeaaDoor
open Go Go.Eng
/-- A walk's own block. -/
abbrev wL (b : Nat) (t : TreeV) (NA : Option Addr) (nc : Nat) (KA : Option Addr) (kl kc : Nat) (q : Int) (bw H : Nat) (made : Int) (R : Own) : Own :=
  (b, .cells (List.toArray [.int .u32 (t.code.toNat : Int), .int .i64 t.kind, .int .i64 t.n, .int .i64 t.h, .slice NA 16 nc, .slice KA kl kc, .int .i64 q, .slice (some ⟨bw, 0, none⟩) H H, .int .i64 made]) 86 (0, 0)) :: R
/-- What tells the sum of a place: the boxes that it looks into. -/
abbrev atV (xn xw xa : Nat) : Value := .func (.func 101) (List.toArray []) (List.toArray [.pointer (some ⟨xn, 0, none⟩), .pointer (some ⟨xw, 0, none⟩), .pointer (some ⟨xa, 0, none⟩)])
structure AtG (M : Mem) (b n xn xw xa : Nat) : Prop where
  n_ : ∃ T fr, M xn = some (.cells (List.toArray [.int .u32 (n : Int)]) T fr)
  w_ : ∃ T fr, M xw = some (.cells (List.toArray [.pointer (some ⟨b, 0, none⟩)]) T fr)
  a_ : ∃ T fr, M xa = some (.cells (List.toArray [atV xn xw xa]) T fr)
theorem AtG.mono {M M' : Mem} {b n xn xw xa : Nat} (h : AtG M b n xn xw xa) (hle : Le M M') : AtG M' b n xn xw xa :=
  ⟨let ⟨T, fr, e⟩ := h.n_; ⟨T, fr, hle _ _ e⟩, let ⟨T, fr, e⟩ := h.w_; ⟨T, fr, hle _ _ e⟩, let ⟨T, fr, e⟩ := h.a_; ⟨T, fr, hle _ _ e⟩⟩
section
variable {G : World} {M : Mem} {L R : Own} {b bw xn xw xa : Nat} {q made : Int} {NA KA : Option Addr} {nc kl kc : Nat} {kvs : List Value} {name : List UInt8} {keys : List (List UInt8)}
theorem At0_spec (hg : MrG M) (t : TreeV) {H : Nat} (hH : t.h = (H : Int)) (hH5 : H ≤ 20) (hname : Bytes M NA 16 nc name) (hk : Row M 1 KA kl kc kvs) (hkb : BRows M kvs keys) (hkl : kl = pw2 H) (hks : ∀ b ∈ keys, b.length ≤ 1000000000000) (ha : AtG M b kl xn xw xa) (i : Nat) (hi : i < pw2 H) (place : UInt32) (hp : place.toNat = pw2 H + i) :
    Con Tryd.prog 101 #[.int .u32 (place.toNat : Int), .pointer (some ⟨xn, 0, none⟩), .pointer (some ⟨xw, 0, none⟩), .pointer (some ⟨xa, 0, none⟩)] G M (wL b t NA nc KA kl kc q bw H made R) (fun v M' L' => wL b t NA nc KA kl kc q bw H made R = L' ∧ ∃ A' m' c', v = .slice A' m' c' ∧ Bytes M' A' m' c' ((lvl t name keys 0).getD i [])) noPanic := by
  have hpw := pw2_25 (h := H) (by omega)
  have hle := hk.le
  have hvl := hkb.len
  have hkn : kvs.length = kl := by have := hk.len; omega
  obtain ⟨g, o, rfl, hcell⟩ := hk.addr (by omega)
  obtain ⟨A2, n2, c2, hv2, hb2⟩ := hkb.get i (by omega)
  have hn2 := hb2.size
  have hn2' := hks _ (getD_mem keys i [] (by omega))
  obtain ⟨T1, f1, h1⟩ := ha.n_
  obtain ⟨T2, f2, h2⟩ := ha.w_
  obtain ⟨T3, f3, h3⟩ := ha.a_
  refine enter (args := [_, _, _, _]) (fn := Tryd.f101) ⟨Tryd.func101, rfl, by kernel_rfl, by kernel_rfl⟩ 61 rfl ?_
  refine x_seq (x_region ?_)
  refine tl_y rfl (y_assign rfl) ?_
  refine tl_nil (.then_normal ?_)
  refine x_seq (x_seq (x_region ?_))
  refine tl_y rfl (y_move (v := .int _ _) rfl) ?_
  refine tl_y rfl (y_load rfl rfl (.ro (i := 0) h1 rfl)) ?_
  refine tl_y rfl (y_geq rfl rfl) ?_
  refine tl_nil (.then_normal ?_)
  refine x_true rfl (by rw [decide_eq_true_iff]; omega) ?_
  refine x_seq ?_
  refine x_draw 27 hmix rfl ?_
  refine to_y 0 rfl (by kernel_rfl) rfl (y_load rfl rfl (.ro (i := 0) h2 rfl)) ?_
  refine to_p 1 rfl (by kernel_rfl) rfl (y_nilCheck rfl) ?_
  refine to_p 2 rfl (by kernel_rfl) rfl (y_fieldAddr rfl) ?_
  refine to_p 3 rfl (by kernel_rfl) rfl (y_fieldAddr rfl) ?_
  refine to_y 4 rfl (by kernel_rfl) rfl (y_load rfl rfl (.own inferInstance inferInstance)) ?_
  refine to_y 5 rfl (by kernel_rfl) rfl (y_load rfl rfl (.ro (i := 0) h2 rfl)) ?_
  refine to_p 6 rfl (by kernel_rfl) rfl (y_nilCheck rfl) ?_
  refine to_p 7 rfl (by kernel_rfl) rfl (y_fieldAddr rfl) ?_
  refine to_p 8 rfl (by kernel_rfl) rfl (y_fieldAddr rfl) ?_
  refine to_y 9 rfl (by kernel_rfl) rfl (y_load rfl rfl (.own inferInstance inferInstance)) ?_
  refine to_y 10 rfl (by kernel_rfl) rfl (y_load rfl rfl (.ro (i := 0) h2 rfl)) ?_
  refine to_p 11 rfl (by kernel_rfl) rfl (y_nilCheck rfl) ?_
  refine to_p 12 rfl (by kernel_rfl) rfl (y_fieldAddr rfl) ?_
  refine to_y 13 rfl (by kernel_rfl) rfl (y_load rfl rfl (.own inferInstance inferInstance)) ?_
  refine to_p 14 rfl (by kernel_rfl) rfl (y_move (v := .int _ _) rfl) ?_
  refine to_y 15 rfl (by kernel_rfl) rfl (y_load rfl rfl (.ro (i := 0) h2 rfl)) ?_
  refine to_p 16 rfl (by kernel_rfl) rfl (y_nilCheck rfl) ?_
  refine to_p 17 rfl (by kernel_rfl) rfl (y_fieldAddr rfl) ?_
  refine to_y 18 rfl (by kernel_rfl) rfl (y_load rfl rfl (.own inferInstance inferInstance)) ?_
  refine to_p 19 rfl (by kernel_rfl) rfl (y_move (v := .int _ _) rfl) ?_
  refine to_y 20 rfl (by kernel_rfl) rfl (y_load rfl rfl (.ro (i := 0) h1 rfl)) ?_
  refine to_p 21 rfl (by kernel_rfl) rfl (y_subN32 rfl rfl (by omega)) ?_
  rw [show (place.toNat : Int) - (kl : Int) = (i : Int) by omega]
  refine to_p 22 rfl (by kernel_rfl) rfl (y_indexAddr rfl rfl (by omega)) ?_
  refine to_y 23 rfl (by kernel_rfl) rfl (y_load rfl rfl (.at_ (hcell _ i _ hv2) (by omega))) ?_
  refine to_e 24 rfl (by kernel_rfl) rfl (e_buildSlice rfl (by decide) (fun b2 => ?_))
  refine ⟨⟨Le.refl _, Keeps.mem⟩, ?_⟩
  refine .pub b2 inferInstance (fun M1 hd hb2' => ?_)
  refine to_e 25 rfl (by kernel_rfl) rfl (e_call' rfl (Part_spec (hg.mono hd).sha (hg.mono hd).kec t.kind t.n (hname.mono hd) place 33410 (by omega) (Row.whole hb2' rfl (by omega)) (.cons (hb2.mono hd) .nil) (by simp only [List.flatten_cons, List.flatten_nil, List.length_append, List.length_nil]; omega)) ?_)
  rintro _ M2 _ hM2 ⟨rfl, A3, m3, c3, rfl, hA3⟩
  rw [show [keys.getD i []].flatten = keys.getD i [] by simp] at hA3
  refine ⟨⟨hd.trans hM2, Keeps.mem⟩, ?_⟩
  refine to_p 26 rfl (by kernel_rfl) rfl (y_assign (v := .slice _ _ _) rfl) ?_
  refine to_nil (by kernel_rfl) (.then_normal ?_)
  refine .sub (F' := [(5, _)]) (.cons rfl .nil) ?_
  refine x_ret (.then_ret (ret1 rfl rfl (hd.trans hM2) ⟨rfl, _, _, _, rfl, by
    rw [lvl, leavesB_get _ _ _ (by omega), leafB, hH, Int.toNat_natCast, ← hp]
    exact hA3⟩))
theorem AtS_spec (hg : MrG M) (t : TreeV) {H : Nat} (hH : t.h = (H : Int)) (hH5 : H ≤ 20) (hname : Bytes M NA 16 nc name) (hk : Row M 1 KA kl kc kvs) (hkb : BRows M kvs keys) (hkl : kl = pw2 H) (hks : ∀ b ∈ keys, b.length ≤ 1000000000000) (ha : AtG M b kl xn xw xa) (h : Nat) (hh : h < H)
    (ih : ∀ (M' : Mem) (i : Nat) (place : UInt32), Le M M' → i < pw2 (H - h) → place.toNat = pw2 (H - h) + i → Con Tryd.prog 101 #[.int .u32 (place.toNat : Int), .pointer (some ⟨xn, 0, none⟩), .pointer (some ⟨xw, 0, none⟩), .pointer (some ⟨xa, 0, none⟩)] G M' (wL b t NA nc KA kl kc q bw H made R) (fun v M2 L2 => wL b t NA nc KA kl kc q bw H made R = L2 ∧ ∃ A' m' c', v = .slice A' m' c' ∧ Bytes M2 A' m' c' ((lvl t name keys h).getD i [])) noPanic)
    (i : Nat) (hi : i < pw2 (H - (h + 1))) (place : UInt32) (hp : place.toNat = pw2 (H - (h + 1)) + i) :
    Con Tryd.prog 101 #[.int .u32 (place.toNat : Int), .pointer (some ⟨xn, 0, none⟩), .pointer (some ⟨xw, 0, none⟩), .pointer (some ⟨xa, 0, none⟩)] G M (wL b t NA nc KA kl kc q bw H made R) (fun v M' L' => wL b t NA nc KA kl kc q bw H made R = L' ∧ ∃ A' m' c', v = .slice A' m' c' ∧ Bytes M' A' m' c' ((lvl t name keys (h + 1)).getD i [])) noPanic := by
  have hpw := pw2_25 (h := H) (by omega)
  have hle := hk.le
  have hvl := hkb.len
  have hkn : kvs.length = kl := by have := hk.len; omega
  have hhf := pw2_half hh
  have hll := lvl_len t name keys (H := H) (by omega) h (by omega)
  have hmono := pw2_le (j := H - h) (k := H) (by omega)
  obtain ⟨x, hx⟩ : ∃ x : UInt32, x.toNat = 2 * place.toNat := ⟨UInt32.ofNat (2 * place.toNat), by rw [UInt32.toNat_ofNat', Nat.mod_eq_of_lt (by omega)]⟩
  obtain ⟨y, hy⟩ : ∃ y : UInt32, y.toNat = 2 * place.toNat + 1 := ⟨UInt32.ofNat (2 * place.toNat + 1), by rw [UInt32.toNat_ofNat', Nat.mod_eq_of_lt (by omega)]⟩
  have hsx := (lvl_short t name keys h).get (2 * i)
  have hsy := (lvl_short t name keys h).get (2 * i + 1)
  obtain ⟨T1, f1, h1⟩ := ha.n_
  obtain ⟨T2, f2, h2⟩ := ha.w_
  obtain ⟨T3, f3, h3⟩ := ha.a_
  refine enter (args := [_, _, _, _]) (fn := Tryd.f101) ⟨Tryd.func101, rfl, by kernel_rfl, by kernel_rfl⟩ 61 rfl ?_
  refine x_seq (x_region ?_)
  refine tl_y rfl (y_assign rfl) ?_
  refine tl_nil (.then_normal ?_)
  refine x_seq (x_seq (x_region ?_))
  refine tl_y rfl (y_move (v := .int _ _) rfl) ?_
  refine tl_y rfl (y_load rfl rfl (.ro (i := 0) h1 rfl)) ?_
  refine tl_y rfl (y_geq rfl rfl) ?_
  refine tl_nil (.then_normal ?_)
  refine x_false rfl (by rw [decide_eq_false_iff_not]; omega) ?_
  refine x_skip (.then_normal ?_)
  refine .sub (F' := [(0, _), (2, _), (3, _)]) (.cons rfl (.cons rfl (.cons rfl .nil))) ?_
  refine x_seq ?_
  refine x_draw 27 hmix rfl ?_
  refine to_y 0 rfl (by kernel_rfl) rfl (y_load rfl rfl (.ro (i := 0) h2 rfl)) ?_
  refine to_p 1 rfl (by kernel_rfl) rfl (y_nilCheck rfl) ?_
  refine to_p 2 rfl (by kernel_rfl) rfl (y_fieldAddr rfl) ?_
  refine to_p 3 rfl (by kernel_rfl) rfl (y_fieldAddr rfl) ?_
  refine to_y 4 rfl (by kernel_rfl) rfl (y_load rfl rfl (.own inferInstance inferInstance)) ?_
  refine to_y 5 rfl (by kernel_rfl) rfl (y_load rfl rfl (.ro (i := 0) h2 rfl)) ?_
  refine to_p 6 rfl (by kernel_rfl) rfl (y_nilCheck rfl) ?_
  refine to_p 7 rfl (by kernel_rfl) rfl (y_fieldAddr rfl) ?_
  refine to_p 8 rfl (by kernel_rfl) rfl (y_fieldAddr rfl) ?_
  refine to_y 9 rfl (by kernel_rfl) rfl (y_load rfl rfl (.own inferInstance inferInstance)) ?_
  refine to_y 10 rfl (by kernel_rfl) rfl (y_load rfl rfl (.ro (i := 0) h2 rfl)) ?_
  refine to_p 11 rfl (by kernel_rfl) rfl (y_nilCheck rfl) ?_
  refine to_p 12 rfl (by kernel_rfl) rfl (y_fieldAddr rfl) ?_
  refine to_y 13 rfl (by kernel_rfl) rfl (y_load rfl rfl (.own inferInstance inferInstance)) ?_
  refine to_p 14 rfl (by kernel_rfl) rfl (y_move (v := .int _ _) rfl) ?_
  refine to_y 15 rfl (by kernel_rfl) rfl (y_load rfl rfl (.ro (i := 0) h3 rfl)) ?_
  refine to_p 16 rfl (by kernel_rfl) rfl (y_move (v := .int _ _) rfl) ?_
  refine to_p 17 rfl (by kernel_rfl) rfl (y_mulN32 rfl rfl (by omega)) ?_
  rw [show (2 : Int) * (place.toNat : Int) = ((x.toNat : Nat) : Int) by rw [hx]; omega]
  refine to_y 19 rfl (by kernel_rfl) rfl (y_load rfl rfl (.ro (i := 0) h3 rfl)) ?_
  refine to_p 20 rfl (by kernel_rfl) rfl (y_move (v := .int _ _) rfl) ?_
  refine to_p 21 rfl (by kernel_rfl) rfl (y_mulN32 rfl rfl (by omega)) ?_
  refine to_p 22 rfl (by kernel_rfl) rfl (y_addN32 rfl rfl (by omega)) ?_
  rw [show (2 : Int) * (place.toNat : Int) + 1 = ((y.toNat : Nat) : Int) by rw [hy]; omega]
  refine to_e 18 rfl (by kernel_rfl) rfl (e_callv rfl rfl (ih M (2 * i) x (Le.refl _) (by omega) (by omega)) (fun _ _ _ _ h => h.elim) ?_)
  rintro _ M1 _ hM1 ⟨rfl, A1, n1, c1, rfl, hA1⟩
  have hn1 := hA1.size
  refine ⟨⟨hM1, Keeps.mem⟩, ?_⟩
  refine to_e 23 rfl (by kernel_rfl) rfl (e_callv rfl rfl (ih M1 (2 * i + 1) y hM1 (by omega) (by omega)) (fun _ _ _ _ h => h.elim) ?_)
  rintro _ M2 _ hM2 ⟨rfl, A2, n2, c2, rfl, hA2⟩
  have hn2 := hA2.size
  have hm := hM1.trans hM2
  refine ⟨⟨hm, Keeps.mem⟩, ?_⟩
  refine to_e 24 rfl (by kernel_rfl) rfl (e_buildSlice rfl (by decide) (fun b2 => ?_))
  refine ⟨⟨hm, Keeps.mem⟩, ?_⟩
  refine .pub b2 inferInstance (fun M3 hM3 hb2 => ?_)
  have hd := hm.trans hM3
  refine to_e 25 rfl (by kernel_rfl) rfl (e_call' rfl (Part_spec (hg.mono hd).sha (hg.mono hd).kec t.kind t.n (hname.mono hd) place 33667 (by omega) (Row.whole hb2 rfl (by omega)) (.cons (hA1.mono (hM2.trans hM3)) (.cons (hA2.mono hM3) .nil)) (by simp only [List.flatten_cons, List.flatten_nil, List.length_append, List.length_nil]; omega)) ?_)
  rintro _ M4 _ hM4 ⟨rfl, A5, m5, c5, rfl, hA5⟩
  rw [show [(lvl t name keys h).getD (2 * i) [], (lvl t name keys h).getD (2 * i + 1) []].flatten = (lvl t name keys h).getD (2 * i) [] ++ (lvl t name keys h).getD (2 * i + 1) [] by simp] at hA5
  refine ⟨⟨hd.trans hM4, Keeps.mem⟩, ?_⟩
  refine to_p 26 rfl (by kernel_rfl) rfl (y_assign (v := .slice _ _ _) rfl) ?_
  refine to_nil (by kernel_rfl) (.then_normal ?_)
  refine .sub (F' := [(5, _)]) (.cons rfl .nil) ?_
  refine x_ret (ret1 rfl rfl (hd.trans hM4) ⟨rfl, _, _, _, rfl, by
    rw [lvl, nextB_get _ _ _ (by omega), innB, show (lvl t name keys h).length / 2 + i = place.toNat by omega]
    exact hA5⟩)
theorem At_spec (t : TreeV) {H : Nat} (hH : t.h = (H : Int)) (hH5 : H ≤ 20) (hkl : kl = pw2 H) (hks : ∀ b ∈ keys, b.length ≤ 1000000000000) :
    ∀ (h : Nat), h ≤ H → ∀ (M : Mem) (i : Nat) (place : UInt32), MrG M → Bytes M NA 16 nc name → Row M 1 KA kl kc kvs → BRows M kvs keys → AtG M b kl xn xw xa → i < pw2 (H - h) → place.toNat = pw2 (H - h) + i →
    Con Tryd.prog 101 #[.int .u32 (place.toNat : Int), .pointer (some ⟨xn, 0, none⟩), .pointer (some ⟨xw, 0, none⟩), .pointer (some ⟨xa, 0, none⟩)] G M (wL b t NA nc KA kl kc q bw H made R) (fun v M' L' => wL b t NA nc KA kl kc q bw H made R = L' ∧ ∃ A' m' c', v = .slice A' m' c' ∧ Bytes M' A' m' c' ((lvl t name keys h).getD i [])) noPanic
  | 0, _, M, i, place, hg, hname, hk, hkb, ha, hi, hp => At0_spec hg t hH hH5 hname hk hkb hkl hks ha i hi place hp
  | h + 1, hh, M, i, place, hg, hname, hk, hkb, ha, hi, hp => AtS_spec hg t hH hH5 hname hk hkb hkl hks ha h (by omega) (fun M' i' place' hle hi' hp' => At_spec t hH hH5 hkl hks h (by omega) M' i' place' (hg.mono hle) (hname.mono hle) (hk.mono hle) (hkb.mono hle) (ha.mono hle) hi' hp') i hi place hp
/-- What tells sums is made. -/
theorem wsums_spec (t : TreeV) {H : Nat} (hkl : kl ≤ 4294967295) :
    Con Tryd.prog 80 #[.pointer (some ⟨b, 0, none⟩)] G M (wL b t NA nc KA kl kc q bw H made R) (fun v M' L' => wL b t NA nc KA kl kc q bw H made R = L' ∧ ∃ xn xw xa, v = atV xn xw xa ∧ AtG M' b kl xn xw xa) noPanic := by
  refine enter (args := [_]) (fn := Tryd.f80) ⟨Tryd.func80, rfl, by kernel_rfl, by kernel_rfl⟩ 13 rfl ?_
  refine x_seq (x_region ?_)
  refine tl_e rfl (e_box rfl (fun b1 => ?_))
  refine tl_y rfl (y_assign rfl) ?_
  refine tl_nil (.then_normal ?_)
  refine x_seq (x_region ?_)
  refine tl_y rfl (y_load rfl rfl (.own inferInstance inferInstance)) ?_
  refine tl_y rfl (y_nilCheck rfl) ?_
  refine tl_y rfl (y_fieldAddr rfl) ?_
  refine tl_y rfl (y_load rfl rfl (.own inferInstance inferInstance)) ?_
  refine tl_y rfl (y_len rfl) ?_
  refine tl_y rfl (y_convE (b := (kl : Int)) rfl (by rw [wrapU32]; omega)) ?_
  refine tl_e rfl (e_alloc (fun b2 => ?_))
  refine tl_e rfl (e_store rfl rfl (by rfl) (by rfl) inferInstance inferInstance inferInstance ?_)
  refine tl_nil (.then_normal ?_)
  refine .sub (F' := [(1, _), (3, _)]) (.cons rfl (.cons rfl .nil)) ?_
  refine x_seq (x_region ?_)
  refine tl_e rfl (e_alloc (fun b3 => ?_))
  refine tl_nil (.then_normal ?_)
  refine x_seq (x_region ?_)
  refine tl_y rfl (y_makeFunc rfl rfl) ?_
  refine tl_e rfl (e_store rfl rfl (by rfl) (by rfl) inferInstance inferInstance inferInstance ?_)
  refine tl_nil (.then_normal ?_)
  refine x_seq (x_region ?_)
  refine tl_y rfl (y_load rfl rfl (.own inferInstance inferInstance)) ?_
  refine tl_y rfl (y_assign (v := .func _ _ _) rfl) ?_
  refine tl_nil (.then_normal ?_)
  refine .sub (F' := [(2, _)]) (.cons rfl .nil) ?_
  refine .pub b1 inferInstance (fun M1 hM1 hb1 => ?_)
  refine .pub b2 inferInstance (fun M2 hM2 hb2 => ?_)
  refine .pub b3 inferInstance (fun M3 hM3 hb3 => ?_)
  refine x_ret (ret1 rfl rfl (hM1.trans (hM2.trans hM3)) ⟨rfl, b2, b1, b3, rfl, ⟨_, _, hM3 _ _ hb2⟩, ⟨_, _, hM3 _ _ (hM2 _ _ hb1)⟩, ⟨_, _, hb3⟩⟩)
end
end Go.Proofs.YtbjnjedfoiedeaaDoor
set_option linter.unusedVariables false
set_option linter.unusedSimpArgs false
set_option linter.constructorNameAsVariable false
namespace Go.Proofs.YtbjnjedfoiedeaaDoor
open Go Go.Eng
structure WkG (M : Mem) : Prop where
  mr : MrG M
  bit : BitG M
theorem WkG.mono {M M' : Mem} (h : WkG M) (hle : Le M M') : WkG M' := ⟨h.mr.mono hle, ⟨let ⟨T, fr, e⟩ := h.bit.tab; ⟨T, fr, hle _ _ e⟩⟩⟩
/-- A walk's own blocks. -/
abbrev wkL (b : Nat) (t : TreeV) (NA : Option Addr) (nc : Nat) (KA : Option Addr) (kl kc : Nat) (q : Int) (bw H : Nat) (made : Int) (ws : List Value) (R : Own) : Own :=
  wL b t NA nc KA kl kc q bw H made ((bw, .cells (List.toArray ws) 22 (0, 0)) :: R)
/-- A walk, of which 'p' leaves were told. -/
def WalkS (M : Mem) (t : TreeV) (H : Nat) (name : List UInt8) (keys : List (List UInt8)) (b p : Nat) (E : Own) : Prop :=
  ∃ bw NA nc KA kc kvs ws, E = wkL b t NA nc KA (pw2 H) kc ((p : Int) - 1) bw H ((madeN H p : Nat) : Int) ws [] ∧ Bytes M NA 16 nc name ∧ Row M 1 KA (pw2 H) kc kvs ∧ BRows M kvs keys ∧ ws.length = H ∧ (0 < p → BRows M ws (wayB t name keys (p - 1) H))
theorem WalkS.mono {M M' : Mem} {t : TreeV} {H : Nat} {name : List UInt8} {keys : List (List UInt8)} {b p : Nat} {E : Own} (h : WalkS M t H name keys b p E) (hle : Le M M') : WalkS M' t H name keys b p E := by
  obtain ⟨bw, NA, nc, KA, kc, kvs, ws, h1, h2, h3, h4, h5, h6⟩ := h
  exact ⟨bw, NA, nc, KA, kc, kvs, ws, h1, h2.mono hle, h3.mono hle, h4.mono hle, h5, fun hp => (h6 hp).mono hle⟩
theorem wayB_at (t : TreeV) (name : List UInt8) (keys : List (List UInt8)) (q : Nat) {k j : Nat} (h : j < k) : (wayB t name keys q k).getD j [] = wayAt t name keys q j := by
  rw [List.getD_eq_getElem?_getD, wayB, List.getElem?_map, List.getElem?_range h]; rfl
theorem brows_of_get {M : Mem} : ∀ {vs : List Value} {bss : List (List UInt8)}, vs.length = bss.length → (∀ i, i < bss.length → ∃ A n c, vs[i]? = some (.slice A n c) ∧ Bytes M A n c (bss.getD i [])) → BRows M vs bss
  | [], [], _, _ => .nil
  | v :: vs, b :: bss, hl, h => by
    obtain ⟨A, n, c, e, hb⟩ := h 0 (by simp)
    obtain rfl : v = .slice A n c := by simpa using e
    exact .cons (by simpa using hb) (brows_of_get (by simpa using hl) (fun i hi => by simpa using h (i + 1) (by simpa using hi)))
theorem sib_add (m z : Nat) : sib (2 * m + z) = 2 * m + sib z := by
  unfold sib
  by_cases h : z % 2 = 1
  · rw [if_pos h, if_pos (by omega)]; omega
  · rw [if_neg h, if_neg (by omega)]; omega
theorem pw2_div_add {H j q : Nat} (hj : j ≤ H) : (pw2 H + q) / pw2 j = pw2 (H - j) + q / pw2 j := by
  rw [pw2_mul hj, Nat.mul_add_div (pw2_pos j)]
section
variable {G : World} {M : Mem} {L R : Own} {b bw : Nat} {NA KA : Option Addr} {nc kl kc : Nat} {kvs ws : List Value} {name : List UInt8} {keys : List (List UInt8)}
theorem wstep1_spec (hg : WkG M) {t : TreeV} {H : Nat} (hH : t.h = (H : Int)) (hH10 : H ≤ 10) (hks : ∀ b ∈ keys, b.length ≤ 1000000000000) {p : Nat} (hp : p ≤ pw2 H) (hname : Bytes M NA 16 nc name) (hk : Row M 1 KA (pw2 H) kc kvs) (hkb : BRows M kvs keys) (hws : ws.length = H) (hw : 0 < p → BRows M ws (wayB t name keys (p - 1) H)) :
    Con Tryd.prog 45 #[.pointer (some ⟨b, 0, none⟩)] G M (wkL b t NA nc KA (pw2 H) kc ((p : Int) - 1) bw H ((madeN H p : Nat) : Int) ws R)
      (fun v M' L' => v = .bool (decide (p < pw2 H)) ∧ ∃ E', L' = E' ++ R ∧ WalkS M' t H name keys b (if p < pw2 H then p + 1 else p) E') noPanic := by
  have hpw := pw2_le (j := H) (k := 10) hH10
  rw [show pw2 10 = 1024 from rfl] at hpw
  have hsn := sumsN_le H p
  have hmn := madeN_le H p
  have hmn2 : H * p ≤ 10 * 1024 := Nat.mul_le_mul hH10 (by omega)
  refine enter (args := [_]) (fn := Tryd.f45) ⟨Tryd.func45, rfl, by kernel_rfl, by kernel_rfl⟩ 80 rfl ?_
  refine x_seq (x_region ?_)
  refine tl_y rfl (y_assign rfl) ?_
  refine tl_nil (.then_normal ?_)
  refine x_seq (x_seq ?_)
  refine x_draw 11 hmix rfl ?_
  refine to_p 0 rfl (by kernel_rfl) rfl (y_move (v := .pointer _) rfl) ?_
  refine to_p 1 rfl (by kernel_rfl) rfl (y_nilCheck rfl) ?_
  refine to_p 2 rfl (by kernel_rfl) rfl (y_fieldAddr rfl) ?_
  refine to_y 3 rfl (by kernel_rfl) rfl (y_load rfl rfl (.own inferInstance inferInstance)) ?_
  refine to_p 4 rfl (by kernel_rfl) rfl (y_addI rfl rfl (by omega)) ?_
  rw [show ((p : Int) - 1) + 1 = ((p : Nat) : Int) by omega]
  refine to_p 5 rfl (by kernel_rfl) rfl (y_move (v := .pointer _) rfl) ?_
  refine to_p 6 rfl (by kernel_rfl) rfl (y_nilCheck rfl) ?_
  refine to_p 7 rfl (by kernel_rfl) rfl (y_fieldAddr rfl) ?_
  refine to_y 8 rfl (by kernel_rfl) rfl (y_load rfl rfl (.own inferInstance inferInstance)) ?_
  refine to_p 9 rfl (by kernel_rfl) rfl (y_len rfl) ?_
  refine to_p 10 rfl (by kernel_rfl) rfl (y_eql rfl rfl) ?_
  refine to_nil (by kernel_rfl) (.then_normal ?_)
  refine .sub (F' := [(0, _), (17, _)]) (.cons rfl (.cons rfl .nil)) ?_
  refine x_cond rfl (fun hc1 => ?_) (fun hc1 => ?_)
  ·
    refine x_seq (x_region ?_)
    refine tl_y rfl (y_assign rfl) ?_
    refine tl_nil (.then_normal ?_)
    refine x_ret (.then_ret (ret1 rfl rfl (Le.refl _) ⟨by rw [decide_eq_false (by omega)], _, rfl, by rw [if_neg (by omega)]; exact ⟨bw, NA, nc, KA, kc, kvs, ws, rfl, hname, hk, hkb, hws, hw⟩⟩))
  ·
    have hlt : p < pw2 H := by omega
    refine x_skip (.then_normal ?_)
    refine x_seq (x_region ?_)
    refine tl_y rfl (y_move (v := .pointer _) rfl) ?_
    refine tl_y rfl (y_nilCheck rfl) ?_
    refine tl_y rfl (y_fieldAddr rfl) ?_
    refine tl_y rfl (y_fieldAddr rfl) ?_
    refine tl_y rfl (y_load rfl rfl (.own inferInstance inferInstance)) ?_
    refine tl_y rfl (y_assign (v := .int _ _) rfl) ?_
    refine tl_nil (.then_normal ?_)
    refine .sub (F' := [(0, _), (3, _)]) (.cons rfl (.cons rfl .nil)) ?_
    refine x_join (I := fun F D M1 L1 => D = [] ∧ M = M1 ∧ wkL b t NA nc KA (pw2 H) kc ((p : Int) - 1) bw H ((madeN H p : Nat) : Int) ws R = L1 ∧ F = [(0, .pointer (some ⟨b, 0, none⟩)), (3, .int .i64 ((sumsN H p : Nat) : Int))]) ?_ (fun Jj1 => ?_)
    ·
      rintro _ _ _ _ ⟨rfl, rfl, rfl, rfl⟩  -- slots [0, 3]
      refine x_seq (x_region ?_)
      refine tl_y rfl (y_move (v := .pointer _) rfl) ?_
      refine tl_y rfl (y_nilCheck rfl) ?_
      refine tl_y rfl (y_fieldAddr rfl) ?_
      refine tl_y rfl (y_load rfl rfl (.own inferInstance inferInstance)) ?_
      refine tl_y rfl (y_addI rfl rfl (by omega)) ?_
      rw [show ((p : Int) - 1) + 1 = ((p : Nat) : Int) by omega]
      refine tl_y rfl (y_nilCheck rfl) ?_
      refine tl_y rfl (y_fieldAddr rfl) ?_
      refine tl_e rfl (e_store rfl rfl (by rfl) (by rfl) inferInstance inferInstance inferInstance ?_)
      refine tl_nil (.then_normal ?_)
      refine .sub (F' := [(0, _), (3, _)]) (.cons rfl (.cons rfl .nil)) ?_
      refine x_seq ?_
      refine x_draw 15 hmix rfl ?_
      refine to_p 0 rfl (by kernel_rfl) rfl (y_move (v := .pointer _) rfl) ?_
      refine to_p 2 rfl (by kernel_rfl) rfl (y_move (v := .pointer _) rfl) ?_
      refine to_p 3 rfl (by kernel_rfl) rfl (y_nilCheck rfl) ?_
      refine to_p 4 rfl (by kernel_rfl) rfl (y_fieldAddr rfl) ?_
      refine to_y 5 rfl (by kernel_rfl) rfl (y_load rfl rfl (.own inferInstance inferInstance)) ?_
      refine to_p 6 rfl (by kernel_rfl) rfl (y_len rfl) ?_
      refine to_p 7 rfl (by kernel_rfl) rfl (y_move (v := .pointer _) rfl) ?_
      refine to_p 8 rfl (by kernel_rfl) rfl (y_nilCheck rfl) ?_
      refine to_p 9 rfl (by kernel_rfl) rfl (y_fieldAddr rfl) ?_
      refine to_y 10 rfl (by kernel_rfl) rfl (y_load rfl rfl (.own inferInstance inferInstance)) ?_
      refine to_p 11 rfl (by kernel_rfl) rfl (y_addI rfl rfl (by omega)) ?_
      obtain ⟨x, hx⟩ : ∃ x : UInt32, x.toNat = pw2 H + p := ⟨UInt32.ofNat (pw2 H + p), by rw [UInt32.toNat_ofNat', Nat.mod_eq_of_lt (by omega)]⟩
      rw [show ((pw2 H : Nat) : Int) + ((p : Nat) : Int) = ((x.toNat : Nat) : Int) by omega]
      refine to_p 12 rfl (by kernel_rfl) rfl (y_convN32 rfl (by omega)) ?_
      refine to_e 1 rfl (by kernel_rfl) rfl (e_call' rfl (wsums_spec t (H := H) (by omega)) ?_)
      rintro _ M1 _ hM1 ⟨rfl, xn, xw, xa, rfl, ha⟩
      refine ⟨⟨hM1, Keeps.mem⟩, ?_⟩
      refine to_p 13 rfl (by kernel_rfl) rfl (y_assign (v := .func _ _ _) rfl) ?_
      refine to_p 14 rfl (by kernel_rfl) rfl (y_assign (v := .int _ _) rfl) ?_
      refine to_nil (by kernel_rfl) (.then_normal ?_)
      refine .sub (F' := [(0, _), (3, _), (4, _), (5, _)]) (.cons rfl (.cons rfl (.cons rfl (.cons rfl .nil)))) ?_
      refine x_seq (x_seq (x_region ?_))
      refine tl_y rfl (y_move (v := .int _ _) rfl) ?_
      refine tl_y rfl (y_move rfl) ?_
      refine tl_nil (.then_normal ?_)
      refine x_block ?_
      refine x_loop (I := fun m' F D M2 L2 => ∃ (g : Nat) (ws1 : List Value), m' = sumsN H p - g ∧ g ≤ sumsN H p ∧ Le M1 M2 ∧ ws1.length = H ∧ (∀ j, j < H → (j < g ∨ sumsN H p ≤ j) → ∃ A n c, ws1[j]? = some (.slice A n c) ∧ Bytes M2 A n c (wayAt t name keys p j)) ∧ D = [] ∧ wkL b t NA nc KA (pw2 H) kc ((p : Nat) : Int) bw H ((madeN H p + g : Nat) : Int) ws1 R = L2 ∧ F = [(0, .pointer (some ⟨b, 0, none⟩)), (4, atV xn xw xa), (5, .int .u32 (x.toNat : Int)), (56, .int .i64 ((sumsN H p : Nat) : Int)), (57, .int .i64 g)]) (sumsN H p) (F0 := [(0, _), (4, _), (5, _), (56, _), (57, _)]) ?_ (.cons rfl (.cons rfl (.cons rfl (.cons rfl (.cons rfl .nil))))) ?_  -- slots [0, 4, 5, 56, 57], written [57]
      · exact ⟨0, ws, rfl, by omega, Le.refl _, hws, fun j hj h => by
        rcases Nat.eq_zero_or_pos p with h0 | h0
        · subst h0; rw [sumsN, if_pos rfl] at h; omega
        · obtain ⟨A, n, c, e, hb⟩ := (hw h0).get j (by rw [wayB_len]; exact hj)
          rw [wayB_at _ _ _ _ hj, ← wayAt_next t name keys h0 hj (by omega)] at hb
          exact ⟨A, n, c, e, hb.mono hM1⟩, rfl, rfl, rfl⟩
      rintro m _ _ M2 _ ⟨g, ws1, rfl, hgs, he, hwl, hwa, rfl, rfl, rfl⟩
      refine x_seq (x_region ?_)
      refine tl_y rfl (y_lss rfl rfl) ?_
      refine tl_nil (.then_normal ?_)
      refine x_seq ?_
      refine x_cond rfl (fun hc2 => ?_) (fun hc2 => ?_)
      ·
        have hgl : g < sumsN H p := by omega
        have hgH : g < H := by omega
        have hhf := (pw2_half hgH).2
        have hsl := sib_lt hgH hlt
        obtain ⟨y, hy⟩ : ∃ y, y = shr32 x g ^^^ 1 := ⟨_, rfl⟩
        have hyv : y.toNat = pw2 (H - g) + sib (p / pw2 g) := by
          have hle := Nat.div_le_self x.toNat (pw2 g)
          have hxl := x.toNat_lt
          rw [hy, UInt32.toNat_xor, shr32, UInt32.toNat_ofNat', show 2 ^ g = pw2 g from rfl, Nat.mod_eq_of_lt (by omega), hx, pw2_div_add (Nat.le_of_lt hgH), show (1 : UInt32).toNat = 1 from rfl, xor_one, hhf, sib_add]
        have hm := hM1.trans he
        refine x_skip (.then_normal ?_)
        refine x_seq ?_
        refine x_block ?_
        refine x_seq (x_region ?_)
        refine tl_y rfl (y_move (v := .int _ _) rfl) ?_
        refine tl_y rfl (y_assign (v := .int _ _) rfl) ?_
        refine tl_nil (.then_normal ?_)
        refine x_seq ?_
        refine x_draw 12 hmix rfl ?_
        refine to_p 0 rfl (by kernel_rfl) rfl (y_move (v := .pointer _) rfl) ?_
        refine to_p 1 rfl (by kernel_rfl) rfl (y_nilCheck rfl) ?_
        refine to_p 2 rfl (by kernel_rfl) rfl (y_fieldAddr rfl) ?_
        refine to_y 3 rfl (by kernel_rfl) rfl (y_load rfl rfl (.own inferInstance inferInstance)) ?_
        refine to_p 4 rfl (by kernel_rfl) rfl (y_move (v := .int _ _) rfl) ?_
        refine to_p 5 rfl (by kernel_rfl) rfl (y_move (v := .func _ _ _) rfl) ?_
        refine to_p 6 rfl (by kernel_rfl) rfl (y_move (v := .int _ _) rfl) ?_
        refine to_p 7 rfl (by kernel_rfl) rfl (y_move (v := .int _ _) rfl) ?_
        refine to_p 8 rfl (by kernel_rfl) rfl (y_shr32 rfl rfl) ?_
        refine to_p 9 rfl (by kernel_rfl) rfl (y_xor32 (b := 1) rfl rfl) ?_
        rw [← hy]
        refine to_e 10 rfl (by kernel_rfl) rfl (e_callv rfl rfl (At_spec t hH (by omega) rfl hks g (by omega) M2 (sib (p / pw2 g)) y (hg.mono hm).mr (hname.mono hm) (hk.mono hm) (hkb.mono hm) (ha.mono he) hsl hyv) (fun _ _ _ _ h => h.elim) ?_)
        rintro _ M3 _ hM3 ⟨rfl, A3, n3, c3, rfl, hA3⟩
        refine ⟨⟨hM3, Keeps.mem⟩, ?_⟩
        refine to_p 11 rfl (by kernel_rfl) rfl (y_indexAddrK g rfl rfl (by omega)) ?_
        refine to_t 12 rfl (by kernel_rfl) (by kernel_rfl) rfl (e_storeAt (c := ws1) rfl rfl rfl inferInstance (by omega) inferInstance ?_)
        refine to_nil (by kernel_rfl) (.then_normal ?_)
        refine .sub (F' := [(0, _), (4, _), (5, _), (56, _), (57, _)]) (.cons rfl (.cons rfl (.cons rfl (.cons rfl (.cons rfl .nil))))) ?_
        refine x_region ?_
        refine tl_y rfl (y_move (v := .pointer _) rfl) ?_
        refine tl_y rfl (y_nilCheck rfl) ?_
        refine tl_y rfl (y_fieldAddr rfl) ?_
        refine tl_y rfl (y_load rfl rfl (.own inferInstance inferInstance)) ?_
        refine tl_y rfl (y_addI rfl rfl (by omega)) ?_
        refine tl_y rfl (y_nilCheck rfl) ?_
        refine tl_y rfl (y_fieldAddr rfl) ?_
        refine tl_e rfl (e_store rfl rfl (by rfl) (by rfl) inferInstance inferInstance inferInstance ?_)
        refine tl_nil (.block_normal (.then_normal ?_))
        refine .sub (F' := [(0, _), (4, _), (5, _), (56, _), (57, _)]) (.cons rfl (.cons rfl (.cons rfl (.cons rfl (.cons rfl .nil))))) ?_
        refine x_region ?_
        refine tl_y rfl (y_addI rfl rfl (by omega)) ?_
        refine tl_y rfl (y_move (v := .int _ _) rfl) ?_
        refine tl_nil (.loop_next (m' := sumsN H p - (g + 1)) (by omega) (F' := [(0, _), (4, _), (5, _), (56, _), (57, _)]) (.cons rfl (.cons rfl (.cons rfl (.cons rfl (.cons rfl .nil))))) ?_)
        exact ⟨g + 1, ws1.set g (.slice A3 n3 c3), rfl, by omega, he.trans hM3, by simp [hwl], fun j hj h => by
          rw [List.getElem?_set]
          by_cases hjg : g = j
          · subst hjg
            rw [if_pos rfl, if_pos (by omega)]
            exact ⟨A3, n3, c3, rfl, hA3⟩
          · rw [if_neg hjg]
            obtain ⟨A, n, c, e, hb⟩ := hwa j hj (by omega)
            exact ⟨A, n, c, e, hb.mono hM3⟩, rfl, rfl, rfl⟩
      ·
        obtain rfl : g = sumsN H p := by omega
        refine x_exit (.then_exit (.loop_exit (.block_exit (.then_normal ?_))))
        refine .sub (F' := []) .nil ?_
        refine x_seq (x_region ?_)
        refine tl_y rfl (y_assign rfl) ?_
        refine tl_nil (.then_normal ?_)
        refine x_ret (ret1 rfl rfl (hM1.trans he) ⟨by rw [decide_eq_true hlt], _, rfl, by
          rw [if_pos hlt]
          refine ⟨bw, NA, nc, KA, kc, kvs, ws1, ?_, hname.mono (hM1.trans he), hk.mono (hM1.trans he), hkb.mono (hM1.trans he), hwl, fun _ => ?_⟩
          · rw [show (((p + 1 : Nat) : Int)) - 1 = ((p : Nat) : Int) by omega, madeN]
          · rw [show p + 1 - 1 = p by omega]
            exact brows_of_get (by rw [wayB_len]; exact hwl) (fun i hi => by
              rw [wayB_len] at hi
              rw [wayB_at _ _ _ _ hi]
              exact hwa i hi (by omega))⟩)
    ·
      refine x_seq (x_region ?_)
      refine tl_y rfl (y_move (v := .pointer _) rfl) ?_
      refine tl_y rfl (y_nilCheck rfl) ?_
      refine tl_y rfl (y_fieldAddr rfl) ?_
      refine tl_y rfl (y_load rfl rfl (.own inferInstance inferInstance)) ?_
      refine tl_y rfl (y_geq rfl rfl) ?_
      refine tl_nil (.then_normal ?_)
      refine .sub (F' := [(0, _), (3, _), (27, _)]) (.cons rfl (.cons rfl (.cons rfl .nil))) ?_
      refine x_cond rfl (fun hc3 => ?_) (fun hc3 => ?_)
      ·
        obtain ⟨z, hz⟩ : ∃ z : UInt32, z.toNat = p - 1 := ⟨UInt32.ofNat (p - 1), by rw [UInt32.toNat_ofNat', Nat.mod_eq_of_lt (by omega)]⟩
        refine x_region ?_
        refine tl_y rfl (y_move (v := .int _ _) rfl) ?_
        refine tl_y rfl (y_move (v := .pointer _) rfl) ?_
        refine tl_y rfl (y_nilCheck rfl) ?_
        refine tl_y rfl (y_fieldAddr rfl) ?_
        refine tl_y rfl (y_load rfl rfl (.own inferInstance inferInstance)) ?_
        refine tl_y rfl (y_convE (b := ((z.toNat : Nat) : Int)) rfl (by rw [wrapU32]; omega)) ?_
        refine tl_e rfl (e_call' rfl (Changes_spec hg.bit z) ?_)
        rintro _ _ _ _ ⟨rfl, rfl, rfl⟩
        refine tl_y rfl (y_min rfl rfl) ?_
        refine tl_y rfl (y_assign (v := .int _ _) rfl) ?_
        refine tl_nil (.then_normal (.sub (F' := [(0, _), (3, _)]) (.cons rfl (.cons rfl .nil)) (Jj1 _ _ _ _ ?_)))
        exact ⟨rfl, rfl, rfl, by rw [hH, show (if ((chg z.toNat : Nat) : Int) < (H : Int) then ((chg z.toNat : Nat) : Int) else (H : Int)) = ((sumsN H p : Nat) : Int) by rw [hz, sumsN, if_neg (show ¬ p = 0 by omega)]; split <;> omega]⟩
      ·
        refine x_skip (.then_normal (.sub (F' := [(0, _), (3, _)]) (.cons rfl (.cons rfl .nil)) (Jj1 _ _ _ _ ?_)))
        exact ⟨rfl, rfl, rfl, by rw [hH, show sumsN H p = H by rw [sumsN, if_pos (by omega)]]⟩
theorem wstep_spec (hg : WkG M) {t : TreeV} {H : Nat} (hH : t.h = (H : Int)) (hH10 : H ≤ 10) (hks : ∀ b ∈ keys, b.length ≤ 1000000000000) {p : Nat} (hp : p ≤ pw2 H) {E : Own} (h : WalkS M t H name keys b p E) :
    Con Tryd.prog 45 #[.pointer (some ⟨b, 0, none⟩)] G M (E ++ R)
      (fun v M' L' => v = .bool (decide (p < pw2 H)) ∧ ∃ E', L' = E' ++ R ∧ WalkS M' t H name keys b (if p < pw2 H then p + 1 else p) E') noPanic := by
  obtain ⟨bw, NA, nc, KA, kc, kvs, ws, rfl, h2, h3, h4, h5, h6⟩ := h
  exact wstep1_spec hg hH hH10 hks hp h2 h3 h4 h5 h6
end
end Go.Proofs.YtbjnjedfoiedeaaDoor
set_option linter.unusedVariables false
set_option linter.unusedSimpArgs false
set_option linter.constructorNameAsVariable false
namespace Go.Proofs.YtbjnjedfoiedeaaDoor
open Go Go.Eng
section
variable {G : World} {M : Mem} {L R : Own} {b : Nat} {name : List UInt8} {keys : List (List UInt8)}
theorem Made_spec {t : TreeV} {H p : Nat} {E : Own} (h : WalkS M t H name keys b p E) :
    Con Tryd.prog 19 #[.pointer (some ⟨b, 0, none⟩)] G M (E ++ R) (fun v M' L' => M = M' ∧ E ++ R = L' ∧ v = .int .i64 ((madeN H p : Nat) : Int)) noPanic := by
  obtain ⟨bw, NA, nc, KA, kc, kvs, ws, rfl, h2, h3, h4, h5, h6⟩ := h
  refine enter (args := [_]) (fn := Tryd.f19) ⟨Tryd.func19, rfl, by kernel_rfl, by kernel_rfl⟩ 7 rfl ?_
  refine .to (wkL b t NA nc KA (pw2 H) kc ((p : Int) - 1) bw H ((madeN H p : Nat) : Int) ws R) ⟨List.Perm.refl _⟩ ?_
  refine x_seq (x_region ?_)
  refine tl_y rfl (y_assign rfl) ?_
  refine tl_nil (.then_normal ?_)
  refine x_seq (x_region ?_)
  refine tl_y rfl (y_move (v := .pointer _) rfl) ?_
  refine tl_y rfl (y_nilCheck rfl) ?_
  refine tl_y rfl (y_fieldAddr rfl) ?_
  refine tl_y rfl (y_load rfl rfl (.own inferInstance inferInstance)) ?_
  refine tl_y rfl (y_assign (v := .int _ _) rfl) ?_
  refine tl_nil (.then_normal ?_)
  refine .sub (F' := [(2, _)]) (.cons rfl .nil) ?_
  refine x_ret (ret1 rfl rfl (Le.refl _) ⟨rfl, rfl, rfl⟩)
theorem Skip_spec (hg : WkG M) {t : TreeV} {H : Nat} (hH : t.h = (H : Int)) (hH10 : H ≤ 10) (hks : ∀ b ∈ keys, b.length ≤ 1000000000000) {p : Nat} (hp : p ≤ pw2 H) {E : Own} (h : WalkS M t H name keys b p E) (n : Int) (hn : -9223372036854775808 ≤ n ∧ n ≤ 9223372036854775807) :
    Con Tryd.prog 15 #[.pointer (some ⟨b, 0, none⟩), .int .i64 n] G M (E ++ R) (fun v M' L' => v = .int .i64 ((min n.toNat (pw2 H - p) : Nat) : Int) ∧ ∃ E', L' = E' ++ R ∧ WalkS M' t H name keys b (p + min n.toNat (pw2 H - p)) E') noPanic := by
  have hpw := pw2_le (j := H) (k := 10) hH10
  rw [show pw2 10 = 1024 from rfl] at hpw
  have hmx : (if 0 > n then (0 : Int) else n) = (n.toNat : Int) := by split <;> omega
  refine enter (args := [_, _]) (fn := Tryd.f15) ⟨Tryd.func15, rfl, by kernel_rfl, by kernel_rfl⟩ 18 rfl ?_
  refine x_seq (x_region ?_)
  refine tl_y rfl (y_assign rfl) ?_
  refine tl_nil (.then_normal ?_)
  refine x_seq (x_seq (x_region ?_))
  refine tl_y rfl (y_move (v := .int _ _) rfl) ?_
  refine tl_y rfl (y_max rfl rfl) ?_
  rw [hmx]
  refine tl_y rfl (y_move rfl) ?_
  refine tl_nil (.then_normal ?_)
  refine x_block ?_
  refine x_loop (I := fun m' F D M1 L1 => ∃ (i : Nat) (E1 : Own), m' = n.toNat - i ∧ i ≤ n.toNat ∧ p + i ≤ pw2 H ∧ Le M M1 ∧ WalkS M1 t H name keys b (p + i) E1 ∧ D = [] ∧ L1 = E1 ++ R ∧ F = [(0, .pointer (some ⟨b, 0, none⟩)), (1, .int .i64 n), (4, .int .i64 0), (7, .int .i64 (n.toNat : Int)), (8, .int .i64 i)]) (n.toNat) (F0 := [(0, _), (1, _), (4, _), (7, _), (8, _)]) ?_ (.cons rfl (.cons rfl (.cons rfl (.cons rfl (.cons rfl .nil))))) ?_  -- slots [0, 1, 4, 7, 8], written [4, 8]
  · exact ⟨0, E, rfl, by omega, by omega, Le.refl _, h, rfl, rfl, rfl⟩
  rintro m _ _ M1 _ ⟨i, E1, rfl, hi, hpi, he, h1, rfl, rfl, rfl⟩
  refine x_seq (x_region ?_)
  refine tl_y rfl (y_lss rfl rfl) ?_
  refine tl_nil (.then_normal ?_)
  refine x_seq ?_
  refine x_cond rfl (fun hc1 => ?_) (fun hc1 => ?_)
  ·
    refine x_skip (.then_normal ?_)
    refine x_seq ?_
    refine x_block ?_
    refine x_seq (x_region ?_)
    refine tl_y rfl (y_move (v := .int _ _) rfl) ?_
    refine tl_y rfl (y_assign (v := .int _ _) rfl) ?_
    refine tl_nil (.then_normal ?_)
    refine x_seq (x_region ?_)
    refine tl_y rfl (y_move (v := .pointer _) rfl) ?_
    refine tl_e rfl (e_call' rfl (wstep_spec (hg.mono he) hH hH10 hks hpi h1) ?_)
    rintro _ M2 _ hM2 ⟨rfl, E2, rfl, h2⟩
    refine tl_y rfl (y_notd rfl) ?_
    refine tl_nil (.then_normal ?_)
    refine .sub (F' := [(0, _), (1, _), (4, _), (5, _), (7, _), (8, _), (13, _)]) (.cons rfl (.cons rfl (.cons rfl (.cons rfl (.cons rfl (.cons rfl (.cons rfl .nil))))))) ?_
    refine x_cond rfl (fun hc2 => ?_) (fun hc2 => ?_)
    ·
      rw [if_neg hc2] at h2
      refine x_seq (x_region ?_)
      refine tl_y rfl (y_move (v := .int _ _) rfl) ?_
      refine tl_y rfl (y_assign (v := .int _ _) rfl) ?_
      refine tl_nil (.then_normal ?_)
      refine x_ret (.block_ret (.then_ret (.loop_ret (.block_ret (.then_ret (ret1 rfl rfl (he.trans hM2) ⟨by rw [show min n.toNat (pw2 H - p) = i by omega], E2, rfl, by rw [show p + min n.toNat (pw2 H - p) = p + i by omega]; exact h2⟩))))))
    ·
      have hlt : p + i < pw2 H := Classical.not_not.1 hc2
      rw [if_pos hlt] at h2
      refine x_skip (.block_normal (.then_normal ?_))
      refine x_region ?_
      refine tl_y rfl (y_addI rfl rfl (by omega)) ?_
      refine tl_y rfl (y_move (v := .int _ _) rfl) ?_
      refine tl_nil (.loop_next (m' := n.toNat - (i + 1)) (by omega) (F' := [(0, _), (1, _), (4, _), (7, _), (8, _)]) (.cons rfl (.cons rfl (.cons rfl (.cons rfl (.cons rfl .nil))))) ?_)
      exact ⟨i + 1, E2, rfl, by omega, by omega, he.trans hM2, h2, rfl, rfl, rfl⟩
  ·
    refine x_exit (.then_exit (.loop_exit (.block_exit (.then_normal ?_))))
    refine .sub (F' := [(1, _)]) (.cons rfl .nil) ?_
    refine x_seq (x_region ?_)
    refine tl_y rfl (y_move (v := .int _ _) rfl) ?_
    refine tl_y rfl (y_max rfl rfl) ?_
    rw [hmx]
    refine tl_y rfl (y_assign (v := .int _ _) rfl) ?_
    refine tl_nil (.then_normal ?_)
    refine x_ret (ret1 rfl rfl he ⟨by rw [show min n.toNat (pw2 H - p) = n.toNat by omega], E1, rfl, by rw [show p + min n.toNat (pw2 H - p) = p + i by omega]; exact h1⟩)
theorem Next_spec (hg : WkG M) {t : TreeV} {H : Nat} (hH : t.h = (H : Int)) (hH10 : H ≤ 10) (hks : ∀ b ∈ keys, b.length ≤ 1000000000000) {p : Nat} (hp : p ≤ pw2 H) {E : Own} (h : WalkS M t H name keys b p E) :
    Con Tryd.prog 16 #[.pointer (some ⟨b, 0, none⟩)] G M (E ++ R) (fun v M' L' => if p < pw2 H then
        ∃ A c vs E1 E2 E', v = .tuple #[.int .u32 (p : Int), .slice A H c, .bool true] ∧ OwnRow 22 1 A H c vs E1 ∧ OwnBs vs (wayB t name keys p H) E2 ∧ WalkS M' t H name keys b (p + 1) E' ∧ L' = E1 ++ (E2 ++ (E' ++ R))
      else v = .tuple #[.int .u32 0, .slice none 0 0, .bool false] ∧ ∃ E', WalkS M' t H name keys b p E' ∧ L' = E' ++ R) noPanic := by
  have hpw := pw2_le (j := H) (k := 10) hH10
  rw [show pw2 10 = 1024 from rfl] at hpw
  refine enter (args := [_]) (fn := Tryd.f16) ⟨Tryd.func16, rfl, by kernel_rfl, by kernel_rfl⟩ 32 rfl ?_
  refine x_seq (x_region ?_)
  refine tl_y rfl (y_assign rfl) ?_
  refine tl_y rfl (y_assign rfl) ?_
  refine tl_y rfl (y_assign rfl) ?_
  refine tl_nil (.then_normal ?_)
  refine x_seq (x_seq (x_region ?_))
  refine tl_y rfl (y_move (v := .pointer _) rfl) ?_
  refine tl_e rfl (e_call' rfl (wstep_spec hg hH hH10 hks hp h) ?_)
  rintro _ M1 _ hM1 ⟨rfl, E1, rfl, h1⟩
  refine tl_y rfl (y_notd rfl) ?_
  refine tl_nil (.then_normal ?_)
  refine .sub (F' := [(0, _), (10, _)]) (.cons rfl (.cons rfl .nil)) ?_
  refine x_cond rfl (fun hc1 => ?_) (fun hc1 => ?_)
  ·
    rw [if_neg hc1] at h1
    refine x_seq (x_region ?_)
    refine tl_y rfl (y_assign rfl) ?_
    refine tl_y rfl (y_assign rfl) ?_
    refine tl_y rfl (y_assign rfl) ?_
    refine tl_nil (.then_normal ?_)
    refine x_ret (.then_ret (ret3 rfl rfl rfl rfl hM1 (by rw [if_neg hc1]; exact ⟨rfl, E1, h1, rfl⟩)))
  ·
    have hlt : p < pw2 H := Classical.not_not.1 hc1
    rw [if_pos hlt] at h1
    obtain ⟨bw, NA, nc, KA, kc, kvs, ws, rfl, h2, h3, h4, h5, h6⟩ := id h1
    have hB := h6 (by omega)
    rw [show p + 1 - 1 = p by omega] at hB
    refine .to (wkL b t NA nc KA (pw2 H) kc (((p + 1 : Nat) : Int) - 1) bw H ((madeN H (p + 1) : Nat) : Int) ws R) ⟨List.Perm.refl _⟩ ?_
    refine x_skip (.then_normal ?_)
    refine x_seq (x_region ?_)
    refine tl_y rfl (y_assign rfl) ?_
    refine tl_nil (.then_normal ?_)
    refine x_seq (x_seq (x_region ?_))
    refine tl_y rfl (y_move (v := .pointer _) rfl) ?_
    refine tl_y rfl (y_nilCheck rfl) ?_
    refine tl_y rfl (y_fieldAddr rfl) ?_
    refine tl_y rfl (y_load rfl rfl (.own inferInstance inferInstance)) ?_
    refine tl_y rfl (y_len rfl) ?_
    refine tl_y rfl (y_move rfl) ?_
    refine tl_nil (.then_normal ?_)
    refine .sub (F' := [(0, _), (5, _), (14, _), (15, _), (16, _)]) (.cons rfl (.cons rfl (.cons rfl (.cons rfl (.cons rfl .nil))))) ?_
    refine x_block ?_
    refine x_loop (I := fun m' F D M2 L2 => ∃ (k : Nat) (A : Option Addr) (c : Nat) (vs : List Value) (E1 E2 : Own), m' = H - k ∧ k ≤ H ∧ Le M1 M2 ∧ OwnRow 22 1 A k c vs E1 ∧ OwnBs vs ((wayB t name keys p H).take k) E2 ∧ D = [] ∧ L2 = E1 ++ (E2 ++ wkL b t NA nc KA (pw2 H) kc (((p + 1 : Nat) : Int) - 1) bw H ((madeN H (p + 1) : Nat) : Int) ws R) ∧ F = [(0, .pointer (some ⟨b, 0, none⟩)), (5, .slice A k c), (14, .slice (some ⟨bw, 0, none⟩) H H), (15, .int .i64 H), (16, .int .i64 k)]) (H) (F0 := [(0, _), (5, _), (14, _), (15, _), (16, _)]) ?_ (.cons rfl (.cons rfl (.cons rfl (.cons rfl (.cons rfl .nil))))) ?_  -- slots [0, 5, 14, 15, 16], written [5, 16]
    · exact ⟨0, none, 0, [], [], [], rfl, by omega, Le.refl _, .nil, .nil, rfl, rfl, rfl⟩
    rintro m _ _ M2 _ ⟨k, A, c, vs, E1, E2, rfl, hk, he, hE, hBs, rfl, rfl, rfl⟩
    refine x_seq (x_region ?_)
    refine tl_y rfl (y_lss rfl rfl) ?_
    refine tl_nil (.then_normal ?_)
    refine x_seq ?_
    refine x_cond rfl (fun hc2 => ?_) (fun hc2 => ?_)
    ·
      have hkH : k < H := by omega
      obtain ⟨A3, n3, c3, hv3, hb3⟩ := hB.get k (by rw [wayB_len]; exact hkH)
      replace hb3 := hb3.mono he
      have hn3 := hb3.size
      rw [wayB_at _ _ _ _ hkH] at hb3 hn3
      have hn3' : (wayAt t name keys p k).length ≤ 32 := (lvl_short t name keys k).get _
      refine x_skip (.then_normal ?_)
      refine x_seq ?_
      refine x_block ?_
      refine x_seq (x_region ?_)
      refine tl_y rfl (y_indexAddrK k rfl rfl (by omega)) ?_
      refine tl_y rfl (y_load rfl rfl (.ownAt (b := bw) (c := ws) inferInstance hv3)) ?_
      refine tl_y rfl (y_assign (v := .slice _ _ _) rfl) ?_
      refine tl_nil (.then_normal ?_)
      refine x_region ?_
      refine tl_y rfl (y_move (v := .slice _ _ _) rfl) ?_
      refine tl_y rfl (y_move (v := .slice _ _ _) rfl) ?_
      refine tl_e rfl (e_call' rfl (bytesClone_own (Row.in_ hb3) (by omega)) ?_)
      rintro _ _ _ _ ⟨rfl, A4, c4, E4, rfl, hE4, rfl⟩
      refine tl_e rfl (e_buildSlice rfl (by decide) (fun b1 => ?_))
      refine .pub b1 inferInstance (fun M5 hM5 hb5 => ?_)
      refine .to (E1 ++ (E4 ++ (E2 ++ wkL b t NA nc KA (pw2 H) kc (((p + 1 : Nat) : Int) - 1) bw H ((madeN H (p + 1) : Nat) : Int) ws R))) inferInstance ?_
      refine tl_e rfl (e_append (by decide) rfl rfl hE (.row (Row.whole (s := 1) hb5 rfl (by omega))) rfl (by omega) (by omega) (fun A7 c7 E7 hE7 => ?_))
      refine tl_y rfl (y_assign (v := .slice _ _ _) rfl) ?_
      refine tl_nil (.block_normal (.then_normal ?_))
      refine .sub (F' := [(0, _), (5, _), (14, _), (15, _), (16, _)]) (.cons rfl (.cons rfl (.cons rfl (.cons rfl (.cons rfl .nil))))) ?_
      refine x_region ?_
      refine tl_y rfl (y_addI rfl rfl (by omega)) ?_
      refine tl_y rfl (y_move (v := .int _ _) rfl) ?_
      refine tl_nil (.loop_next (m' := H - (k + 1)) (by omega) (F' := [(0, _), (5, _), (14, _), (15, _), (16, _)]) (.cons rfl (.cons rfl (.cons rfl (.cons rfl (.cons rfl .nil))))) ?_)
      exact ⟨k + 1, A7, c7, _, E7, E4 ++ E2, rfl, by omega, he.trans hM5, hE7, by
        rw [List.take_add_one, List.getElem?_eq_getElem (by rw [wayB_len]; exact hkH)]
        have := hBs.snoc hE4
        rw [show (wayB t name keys p H)[k]'(by rw [wayB_len]; exact hkH) = wayAt t name keys p k by simp [wayB, wayAt]]
        exact this, rfl, by rw [List.append_assoc], rfl⟩
    ·
      obtain rfl : k = H := by omega
      rw [List.take_of_length_le (by rw [wayB_len]; exact Nat.le_refl _)] at hBs
      refine x_exit (.then_exit (.loop_exit (.block_exit (.then_normal ?_))))
      refine .sub (F' := [(0, _), (5, _)]) (.cons rfl (.cons rfl .nil)) ?_
      refine x_seq (x_region ?_)
      refine tl_y rfl (y_move (v := .pointer _) rfl) ?_
      refine tl_y rfl (y_nilCheck rfl) ?_
      refine tl_y rfl (y_fieldAddr rfl) ?_
      refine tl_y rfl (y_load rfl rfl (.own inferInstance inferInstance)) ?_
      refine tl_y rfl (y_convE (b := ((p : Nat) : Int)) rfl (by rw [wrapU32]; omega)) ?_
      refine tl_y rfl (y_move (v := .slice _ _ _) rfl) ?_
      refine tl_y rfl (y_assign (v := .int _ _) rfl) ?_
      refine tl_y rfl (y_assign (v := .slice _ _ _) rfl) ?_
      refine tl_y rfl (y_assign rfl) ?_
      refine tl_nil (.then_normal ?_)
      refine .sub (F' := [(2, _), (3, _), (4, _)]) (.cons rfl (.cons rfl (.cons rfl .nil))) ?_
      refine x_ret (ret3 rfl rfl rfl rfl (hM1.trans he) (by rw [if_pos hlt]; exact ⟨A, c, vs, E1, E2, _, rfl, hE, hBs, h1.mono he, rfl⟩))
end
end Go.Proofs.YtbjnjedfoiedeaaDoor
