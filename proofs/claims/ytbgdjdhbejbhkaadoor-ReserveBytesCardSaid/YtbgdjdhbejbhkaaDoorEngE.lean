/-
The walk engine: rows, appends.
-/
import Derived.Test.YtbgdjdhbejbhkaaDoorEngD
import Derived.Laws.OwnMore
import Derived.Laws.CopyOwn
set_option linter.unusedVariables false
set_option linter.unusedSimpArgs false
namespace Go.Eng
/-! ### Rows that are only read -/
structure Row (M : Mem) (s : Nat) (A : Option Addr) (n cap : Nat) (vs : List Value) : Prop where
  len : vs.length = n * s
  le : n ≤ cap
  max : cap ≤ 9223372036854775807
  at_ : 0 < n → ∃ b o c T fr, A = some ⟨b, o, none⟩ ∧ M b = some (.cells c T fr) ∧ ∀ j v, vs[j]? = some v → c[o + j]? = some v
theorem Row.mono {M M' : Mem} {s n cap : Nat} {A : Option Addr} {vs : List Value} (h : Row M s A n cap vs) (hle : Le M M') : Row M' s A n cap vs :=
  ⟨h.len, h.le, h.max, fun hn => let ⟨b, o, c, T, fr, e, hm, hc⟩ := h.at_ hn; ⟨b, o, c, T, fr, e, hle _ _ hm, hc⟩⟩
theorem Row.nil (M : Mem) (s : Nat) : Row M s none 0 0 [] := ⟨by simp, Nat.le_refl _, by omega, fun h => by omega⟩
theorem Row.empty (M : Mem) (s : Nat) (A : Option Addr) {cap : Nat} (h : cap ≤ 9223372036854775807) : Row M s A 0 cap [] := ⟨by simp, Nat.zero_le _, h, fun h => by omega⟩
theorem Row.addr {M : Mem} {s n cap : Nat} {A : Option Addr} {vs : List Value} (h : Row M s A n cap vs) (hn : 0 < n) : ∃ b o, A = some ⟨b, o, none⟩ ∧ ∀ L j v, vs[j]? = some v → CellAt M L ⟨b, o + j, none⟩ v := by
  obtain ⟨b, o, c, T, fr, e, hm, hc⟩ := h.at_ hn
  exact ⟨b, o, e, fun L j v hj => CellAt.ro hm (hc j v hj)⟩
theorem Row.cells {M : Mem} {s n cap : Nat} {A : Option Addr} {vs : List Value} (h : Row M s A n cap vs) (hn : 0 < n) : ∃ b o, A = some ⟨b, o, none⟩ ∧ ∀ L, CellsAt M L ⟨b, o, none⟩ vs := by
  obtain ⟨b, o, c, T, fr, e, hm, hc⟩ := h.at_ hn
  exact ⟨b, o, e, fun L w hw j v hj => by rw [add_plain]; exact cell_of (hw.ro _ _ hm) (hc j v hj)⟩
theorem Row.slice {M : Mem} {s n cap l h m : Nat} {A : Option Addr} {vs : List Value} (r : Row M s A n cap vs) (h1 : l ≤ h) (h2 : h ≤ n) (h3 : h ≤ m) (h4 : m ≤ cap) :
    Row M s (sl A l m s) (h - l) (m - l) ((vs.drop (l * s)).take ((h - l) * s)) := by
  have hlen := r.len
  refine ⟨?_, by omega, by have := r.max; omega, fun hn => ?_⟩
  · rw [List.length_take, List.length_drop, hlen]
    have : (h - l) * s ≤ n * s - l * s := by rw [← Nat.sub_mul]; exact Nat.mul_le_mul_right _ (by omega)
    omega
  · obtain ⟨b, o, c, T, fr, e, hm, hc⟩ := r.at_ (by omega)
    refine ⟨b, o + l * s, c, T, fr, ?_, hm, fun j v hj => ?_⟩
    · unfold sl
      rw [if_neg (by omega), e]
      simp [add_plain]
    · rw [List.getElem?_take] at hj
      split at hj
      · rw [List.getElem?_drop] at hj
        have := hc _ v hj
        rwa [← Nat.add_assoc] at this
      · cases hj
/-! ### Rows that are owned: a slice and the entry of its block, if it has one -/
inductive OwnRow (e : TypeId) (s : Nat) : Option Addr → Nat → Nat → List Value → Own → Prop
  | nil : OwnRow e s none 0 0 [] []
  | row {g n cap : Nat} {pre vs slack : List Value} : vs.length = n * s → (vs ++ slack).length = cap * s → n ≤ cap → cap ≤ 9223372036854775807 →
      OwnRow e s (some ⟨g, pre.length, none⟩) n cap vs [(g, .cells (pre ++ (vs ++ slack)).toArray e (0, 0))]
theorem OwnRow.le {e : TypeId} {s n cap : Nat} {A : Option Addr} {vs : List Value} {E : Own} (h : OwnRow e s A n cap vs E) : n ≤ cap := by cases h <;> omega
theorem OwnRow.len {e : TypeId} {s n cap : Nat} {A : Option Addr} {vs : List Value} {E : Own} (h : OwnRow e s A n cap vs E) : vs.length = n * s := by cases h <;> simp_all
theorem OwnRow.max {e : TypeId} {s n cap : Nat} {A : Option Addr} {vs : List Value} {E : Own} (h : OwnRow e s A n cap vs E) : cap ≤ 9223372036854775807 := by cases h <;> omega
theorem OwnRow.pub {G : World} {M : Mem} {R : Own} {w : World} {e : TypeId} {s n cap : Nat} {A : Option Addr} {vs : List Value} {E : Own} (h : OwnRow e s A n cap vs E) (hw : St G M (E ++ R) w) :
    ∃ M', Le M M' ∧ St G M' R w ∧ Row M' s A n cap vs := by
  cases h with
  | nil => exact ⟨M, Le.refl _, hw, Row.nil _ _⟩
  | @row g n cap pre vs slack h1 h2 h3 h4 =>
    obtain ⟨k1, k2, k3⟩ := St.publish hw
    refine ⟨_, k2, k1, h1, h3, h4, fun _ => ⟨g, pre.length, _, e, (0, 0), rfl, k3, fun j v hj => ?_⟩⟩
    rw [List.getElem?_toArray, List.getElem?_append_right (by omega), Nat.add_sub_cancel_left, List.getElem?_append_left (List.getElem?_eq_some_iff.1 hj).1]
    exact hj
theorem OwnRow.cell {M : Mem} {R : Own} {e : TypeId} {s n cap : Nat} {A : Option Addr} {vs : List Value} {E : Own} (h : OwnRow e s A n cap vs E) (hn : 0 < vs.length) : ∃ g o, A = some ⟨g, o, none⟩ ∧ ∀ j v, vs[j]? = some v → CellAt M (E ++ R) ⟨g, o + j, none⟩ v := by
  cases h with
  | nil => simp at hn
  | @row g n cap pre vs slack h1 h2 h3 h4 =>
    refine ⟨g, pre.length, rfl, fun j v hj => CellAt.ownAt (c := pre ++ (vs ++ slack)) ⟨List.mem_cons_self⟩ ?_⟩
    rw [List.getElem?_append_right (by omega), Nat.add_sub_cancel_left, List.getElem?_append_left (List.getElem?_eq_some_iff.1 hj).1]
    exact hj
/-- What was just made, of a known number of cells. -/
theorem OwnRow.made {e : TypeId} {s n b : Nat} {vs : List Value} (h : vs.length = n * s) (h63 : n ≤ 9223372036854775807) : OwnRow e s (some ⟨b, 0, none⟩) n n vs [(b, .cells vs.toArray e (0, 0))] := by
  have := OwnRow.row (e := e) (s := s) (g := b) (n := n) (cap := n) (pre := []) (vs := vs) (slack := []) h (by simpa using h) (Nat.le_refl _) h63
  simpa using this
theorem OwnRow.made0 {e : TypeId} {s n b : Nat} {vs : List Value} (h : vs.length = n * s) (h63 : n ≤ 9223372036854775807) : OwnRow e s (some ⟨b, 0, none⟩) 0 n [] [(b, .cells vs.toArray e (0, 0))] := by
  have := OwnRow.row (e := e) (s := s) (g := b) (n := 0) (cap := n) (pre := []) (vs := []) (slack := vs) (by simp) (by simpa using h) (Nat.zero_le _) h63
  simpa using this
section
variable {P : Program} {n : Nat} {Q : Post} {F : Fr} {D : List Deferred} {G : World} {M : Mem} {L : Own} {d : Option Tmp} {ty : TypeId} {K : Fr → List Deferred → Mem → Own → Prop}
theorem run_firstCells {w : World} {s m : Nat} {A : Option Addr} {c : Nat} {vs : List Value} (hl : vs.length = m * s) (h : 0 < m * s → ∃ ad, A = some ad ∧ ∀ j v, vs[j]? = some v → w.cell? (ad.add j) = some v) :
    (Builtin.firstCells s m (.slice A m c)).run P w = .ok vs.toArray w := by
  cases A with
  | none =>
    have : vs = [] := by
      rcases Nat.eq_zero_or_pos (m * s) with h0 | h0
      · exact List.eq_nil_of_length_eq_zero (by omega)
      · obtain ⟨ad, e, _⟩ := h h0; cases e
    subst this
    simp [Builtin.firstCells]
  | some ad =>
    have hc : ∀ j v, vs[j]? = some v → w.cell? (ad.add j) = some v := by
      intro j v hj
      have : 0 < m * s := by have := (List.getElem?_eq_some_iff.1 hj).1; omega
      obtain ⟨ad', e, hh⟩ := h this
      cases e
      exact hh j v hj
    have := run_loadCells_list (P := P) (w := w) ad vs hc
    rw [hl] at this
    simp [Builtin.firstCells, this]
/-- The source of an append or a copy: its cells. -/
def Src (M : Mem) (L : Own) (s : Nat) (A : Option Addr) (m : Nat) (vs : List Value) : Prop := vs.length = m * s ∧ ∀ w, Sees M L w → 0 < m * s → ∃ ad, A = some ad ∧ ∀ j v, vs[j]? = some v → w.cell? (ad.add j) = some v
theorem Src.row {s m cap : Nat} {A : Option Addr} {vs : List Value} (h : Row M s A m cap vs) : Src M L s A m vs := ⟨h.len, fun w hw hm => by
  rcases Nat.eq_zero_or_pos m with h0 | h0
  · subst h0; simp at hm
  · obtain ⟨b, o, e, hc⟩ := h.cells h0
    exact ⟨_, e, hc L w hw⟩⟩
theorem Src.own {s m b : Nat} {vs : List Value} {T : TypeId} {fr : Nat × Nat} (hh : Has L b (.cells vs.toArray T fr)) (hl : vs.length = m * s) : Src M L s (some ⟨b, 0, none⟩) m vs := ⟨hl, fun w hw _ => ⟨_, rfl, fun j v hj => by
  rw [add_plain, Nat.zero_add]; exact cell_of (hw.own _ hh.mem) (by simpa using hj)⟩⟩
theorem Src.nil {s : Nat} {A : Option Addr} : Src M L s A 0 [] := ⟨by simp, fun w hw h => by simp at h⟩
theorem run_append {w : World} {t e : TypeId} {z : Value} {s b0 : Nat} {de : TypeDesc} {z0 : Value} {s0 b00 : Nat} (ti : TI P t (.slice e) z0 s0 b00) (te : TI P e de z s b0) (hz : z.cells.size = s) {E R : Own} {A B : Option Addr} {nn cap m c : Nat} {vs news : List Value} (ho : OwnRow e s A nn cap vs E) (hw : St G M (E ++ R) w)
    (hs : news.length = m * s ∧ (0 < m * s → ∃ ad, B = some ad ∧ ∀ j v, news[j]? = some v → w.cell? (ad.add j) = some v)) (hs0 : 0 < s) (h1 : news.all one = true) (h63 : nn + m ≤ 9223372036854775807) (hby : (nn + m) * b0 ≤ 140737488355328) :
    ∃ A' cap' E' w', (Builtin.append_ #[t, t] ty #[.slice A nn cap, .slice B m c]).run P w = .ok (.slice A' (nn + m) cap') w' ∧ OwnRow e s A' (nn + m) cap' (vs ++ news) E' ∧ St G M (E' ++ R) w' := by
  obtain ⟨j, hj, hjz, hjs, hjb⟩ := te.parts
  subst hjs
  subst hjb
  have hfirst : ∀ dr, (Builtin.firstCells j.size m (.slice B m c)).run P { w with drawn := dr } = .ok news.toArray { w with drawn := dr } := fun dr => run_firstCells hs.1 hs.2
  have holds : ∀ dr, (Builtin.firstCells j.size nn (.slice A nn cap)).run P { w with drawn := dr } = .ok vs.toArray { w with drawn := dr } := by
    intro dr
    refine run_firstCells ho.len fun hp => ?_
    cases ho with
    | nil => simp at hp
    | @row g _ _ pre _ slack k1 k2 k3 k4 =>
      refine ⟨_, rfl, fun i v hi => ?_⟩
      rw [add_plain]
      refine cell_of (w := { w with drawn := dr }) (hw.own _ List.mem_cons_self).1 ?_
      rw [List.getElem?_toArray, List.getElem?_append_right (by omega), Nat.add_sub_cancel_left, List.getElem?_append_left (List.getElem?_eq_some_iff.1 hi).1]
      exact hi
  by_cases hroom : nn + m ≤ cap
  · cases ho with
    | nil =>
      obtain rfl : m = 0 := by omega
      have hn : news = [] := List.eq_nil_of_length_eq_zero (by simpa using hs.1)
      subst hn
      refine ⟨none, 0, [], w, ?_, by simpa using OwnRow.nil, hw⟩
      have := hfirst w.drawn
      simp [Builtin.append_, run_underlying ti.und, sizeOf, typeInfo, hj, Builtin.lenOf, this]
    | @row g _ _ pre _ slack k1 k2 k3 k4 =>
      have hg := (hw.own _ (show (g, Obj.cells (pre ++ (vs ++ slack)).toArray e (0, 0)) ∈ _ from List.mem_cons_self)).1
      simp only [List.length_append] at k2
      have hle : nn * j.size + m * j.size ≤ cap * j.size := by rw [← Nat.add_mul]; exact Nat.mul_le_mul_right _ hroom
      have hfit : pre.length + nn * j.size + 0 + news.length ≤ (pre ++ (vs ++ slack)).toArray.size := by simp [hs.1]; omega
      have hst := run_storeCells_at P g (pre.length + nn * j.size) e news 0 (pre ++ (vs ++ slack)).toArray w hg hfit (fun u hu => List.all_eq_true.1 h1 u hu)
      simp only [Nat.add_zero] at hst
      have hrow : ((pre ++ (vs ++ slack)).toArray.toList.take (pre.length + nn * j.size) ++ news ++ (pre ++ (vs ++ slack)).toArray.toList.drop (pre.length + nn * j.size + news.length)) = pre ++ ((vs ++ news) ++ slack.drop news.length) := by
        simp only []
        rw [List.take_append, List.take_of_length_le (by omega : pre.length ≤ _), Nat.add_sub_cancel_left, ← k1, List.take_left, Nat.add_assoc, List.drop_append, List.drop_of_length_le (by omega : pre.length ≤ _), Nat.add_sub_cancel_left, List.drop_append, List.drop_of_length_le (by omega : vs.length ≤ _), Nat.add_sub_cancel_left]
        simp
      rw [hrow] at hst
      refine ⟨some ⟨g, pre.length, none⟩, cap, [(g, .cells (pre ++ ((vs ++ news) ++ slack.drop news.length)).toArray e (0, 0))], w.setRow g (pre ++ ((vs ++ news) ++ slack.drop news.length)).toArray, ?_, ?_, ?_⟩
      · have := hfirst w.drawn
        simp [Builtin.append_, run_underlying ti.und, sizeOf, typeInfo, hj, Builtin.lenOf, hroom, this, add_plain, hst]
      · refine OwnRow.row (by simp [k1, hs.1, Nat.add_mul]) ?_ hroom k4
        simp [hs.1]; omega
      · exact St.set hw rfl rfl rfl (setRow_heap w g _ _ e _ hg) (fun i hi => setRow_other w g i _ hi)
  · have h63' : ¬ ((nn + m : Nat) : Int) > IntKind.i64.max := by simp [IntKind.max, IntKind.signed, IntKind.bits]; omega
    have hfit : ¬ (Builtin.nextslicecap (nn + m) cap * j.bytes > 2 ^ 48) := by
      have := growslice_fits (need := nn + m) (old := cap) (bytes := j.bytes) (by omega) hby
      omega
    have hcap := grownCap_ge w (nn + m) cap e
    have hcapm := grownCap_le_maxLen w (nn + m) cap e (by simp only [maxLen]; omega)
    simp only [maxLen] at hcapm
    refine ⟨some ⟨w.heap.size, 0, none⟩, grownCap w (nn + m) cap e, [(w.heap.size, .cells ([] ++ ((vs ++ news) ++ (Builtin.zeroCells z.cells (grownCap w (nn + m) cap e - (nn + m))).toList)).toArray e (0, 0))],
      { w with drawn := w.drawn + 1, heap := w.heap.push (.cells ([] ++ ((vs ++ news) ++ (Builtin.zeroCells z.cells (grownCap w (nn + m) cap e - (nn + m))).toList)).toArray e (0, 0)) }, ?_, ?_, ?_⟩
    · have h1 : (Builtin.firstCells j.size m (.slice B m c)).run P w.drew = .ok news.toArray w.drew := hfirst (w.drawn + 1)
      have h2 : (Builtin.firstCells j.size nn (.slice A nn cap)).run P w.drew = .ok vs.toArray w.drew := holds (w.drawn + 1)
      have k1 : ¬ (9223372036854775807 < ((nn : Int) + (m : Int))) := by omega
      have k2 : ¬ (281474976710656 < Builtin.nextslicecap (nn + m) cap * j.bytes) := by omega
      simp [Builtin.append_, run_underlying ti.und, sizeOf, typeInfo, zeroValue, hj, hjz, Builtin.lenOf, hroom, k1, k2, Question.forced, h1, h2, newRow, grownCap]
      generalize Builtin.zeroCells z.cells _ = Z
      have hz' : vs.toArray ++ (news.toArray ++ Z) = vs.toArray ++ (news.toArray ++ Z.toList.toArray) := by simp
      have hz2 : vs.toArray ++ (news.toArray ++ Z) = (vs ++ (news ++ Z.toList)).toArray := by apply Array.ext'; simp
      first
        | (rw [hz2]; rfl)
        | (simp [World.alloc, World.drew]; done)
    · have := OwnRow.row (e := e) (s := j.size) (g := w.heap.size) (n := nn + m) (cap := grownCap w (nn + m) cap e) (pre := []) (vs := vs ++ news) (slack := (Builtin.zeroCells z.cells (grownCap w (nn + m) cap e - (nn + m))).toList)
        (by simp [ho.len, hs.1, Nat.add_mul]) (by
          have : (Builtin.zeroCells z.cells (grownCap w (nn + m) cap e - (nn + m))).size = (grownCap w (nn + m) cap e - (nn + m)) * j.size := by rw [size_zeroCells, hz]
          simp only [List.length_append, ho.len, hs.1, Array.length_toList, this, ← Nat.add_mul]
          congr 1; omega) hcap (by omega)
      exact this
    · have hd : St G M R w := hw.dropAll
      exact St.alloc hd rfl rfl rfl rfl
/-- 'append(a, b...)' where 'a' is owned. -/
theorem e_append {t : TypeId} {e : TypeId} {x y : Operand} {z z0 : Value} {s b0 s0 b00 : Nat} {de : TypeDesc} [ti : TI P t (.slice e) z0 s0 b00] [te : TI P e de z s b0] (hz : z.cells.size = s ∧ 0 < s) {E R : Own} {A B : Option Addr} {nn cap m c : Nat} {vs news : List Value}
    (hx : ev F x = some (.slice A nn cap)) (hy : ev F y = some (.slice B m c)) (ho : OwnRow e s A nn cap vs E) (hs : Src M (E ++ R) s B m news) (h1 : news.all one = true) (h63 : nn + m ≤ 9223372036854775807) (hby : (nn + m) * b0 ≤ 140737488355328)
    (h : ∀ A' cap' E', OwnRow e s A' (nn + m) cap' (vs ++ news) E' → K (putF d (.slice A' (nn + m) cap') F) D M (E' ++ R)) :
    Tr P n d (.call ⟨.builtin .append, #[x, y], #[t, t]⟩) ty Q F D G M (E ++ R) K := tr_value (fun c h => by cases h) fun w ρ hw hρ => by
  obtain ⟨A', cap', E', w', hr, hO, hS⟩ := run_append (P := P) (ty := ty) ti te hz.1 ho hw (B := B) (m := m) (c := c) (news := news) ⟨hs.1, hs.2 w hw.sees⟩ hz.2 h1 h63 hby
  refine ⟨_, w', M, _, ?_, hS, h A' cap' E' hO⟩
  simp only [execOp, resolve, invoke, builtin, Sem.run_bind, Sem.run_pure, Result.andThen_ok, List.map_toArray, List.map_cons, List.map_nil, hρ _ _ hx, hρ _ _ hy, hr]
end
section
variable {P : Program} {n : Nat} {Q : Post} {F : Fr} {D : List Deferred} {G : World} {M : Mem} {R : Own} {ops : Array Oper} {rest : List Oper}
theorem T.pubRow {c : Code} {e : TypeId} {s nn cap : Nat} {A : Option Addr} {vs : List Value} {E : Own} (ho : OwnRow e s A nn cap vs E) (h : ∀ M', Le M M' → Row M' s A nn cap vs → T P n c Q F D G M' R) : T P n c Q F D G M (E ++ R) := fun hok w a hw ha =>
  let ⟨M', h1, h2, h3⟩ := ho.pub hw
  h M' h1 h3 hok w a h2 ha
theorem TL.pubRow {e : TypeId} {s nn cap : Nat} {A : Option Addr} {vs : List Value} {E : Own} (ho : OwnRow e s A nn cap vs E) (h : ∀ M', Le M M' → Row M' s A nn cap vs → TL P n ops rest Q F D G M' R) : TL P n ops rest Q F D G M (E ++ R) := fun hok w a hw ha =>
  let ⟨M', h1, h2, h3⟩ := ho.pub hw
  h M' h1 h3 hok w a h2 ha
theorem TQ.pubRow {x : Exit} {e : TypeId} {s nn cap : Nat} {A : Option Addr} {vs : List Value} {E : Own} (ho : OwnRow e s A nn cap vs E) (h : ∀ M', Le M M' → Row M' s A nn cap vs → TQ Q x F D G M' R) : TQ Q x F D G M (E ++ R) := fun w hw =>
  let ⟨M', h1, h2, h3⟩ := ho.pub hw
  h M' h1 h3 w h2
end
end Go.Eng
