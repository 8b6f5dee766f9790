/-
Contracts of functions, each proved by a walk through its code.
-/
import Derived.Test.YtbgdjdhbejbhkaaDoorDisk3
set_option linter.unusedVariables false
set_option linter.unusedSimpArgs false
namespace Go.Proofs.YtbgdjdhbejbhkaaDoor
open Go Go.Eng
section
variable {G : World} {M : Mem} {R : Own} {p : Nat} {r : DRep} {S : DS}
/-- What was written last to a sector, of what is pending. -/
def lastW (i : Int) : List (Int × List UInt8) → Option (List UInt8)
  | [] => none
  | q :: ps => match lastW i ps with
    | some b => some b
    | none => if q.1 = i then some q.2 else none
theorem lastW_none {i : Int} : ∀ {ps : List (Int × List UInt8)}, (∀ q ∈ ps, q.1 ≠ i) → lastW i ps = none
  | [], _ => rfl
  | q :: ps, h => by
    simp only [lastW, lastW_none fun q' hq' => h q' (List.mem_cons_of_mem _ hq')]
    rw [if_neg (h q List.mem_cons_self)]
theorem lastW_some {i : Int} {q : Int × List UInt8} {qs : List (Int × List UInt8)} (hq : q.1 = i) (h : ∀ q ∈ qs, q.1 ≠ i) : ∀ (ps : List (Int × List UInt8)), lastW i (ps ++ q :: qs) = some q.2
  | [] => by simp [lastW, lastW_none h, hq]
  | q' :: ps => by simp only [List.cons_append, lastW, lastW_some hq h ps]
theorem split_at {α : Type} (l : List α) (k : Nat) (d : α) (h : k < l.length) : l = l.take k ++ l.getD k d :: l.drop (k + 1) := by
  rw [List.getD_eq_getElem?_getD, List.getElem?_eq_getElem h]
  simp
/-- Behind place 'k' nothing was written to the sector. -/
def noneBehind (i : Int) (ps : List (Int × List UInt8)) (k : Nat) : Prop := ∀ q ∈ ps.drop k, q.1 ≠ i
theorem noneBehind_step {i : Int} {ps : List (Int × List UInt8)} {k : Nat} (h : noneBehind i ps (k + 1)) (hk : k < ps.length) (hq : (ps.getD k default).1 ≠ i) : noneBehind i ps k := fun q hm => by
  have : ps.drop k = ps.getD k default :: ps.drop (k + 1) := by
    rw [List.drop_eq_getElem_cons hk, List.getD_eq_getElem?_getD, List.getElem?_eq_getElem hk]; rfl
  rw [this] at hm
  rcases List.mem_cons.1 hm with rfl | hm
  · exact hq
  · exact h q hm
theorem backward_spec {L : Own} {A : Option Addr} {n c : Nat} :
    Con Tryd.prog 162 #[.slice A n c] G M L (fun v M' L' => M = M' ∧ ∃ x0, L' = (x0, .cells (List.toArray [.slice A n c]) 132 (0, 0)) :: L ∧ v = .func (.func 178) (List.toArray []) (List.toArray [.pointer (some ⟨x0, 0, none⟩)])) noPanic := by
  refine enter (args := [_]) (fn := Tryd.f162) ⟨Tryd.func162, rfl, by kernel_rfl, by kernel_rfl⟩ 4 rfl ?_
  refine x_seq (x_region ?_)
  refine tl_e rfl (e_box rfl (fun b1 => ?_))
  refine tl_y rfl (y_assign rfl) ?_
  refine tl_nil (.then_normal ?_)
  refine x_seq (x_region ?_)
  refine tl_y rfl (y_makeFunc rfl rfl) ?_
  refine tl_y rfl (y_assign (v := .func _ _ _) rfl) ?_
  refine tl_nil (.then_normal ?_)
  refine x_ret (ret1 rfl rfl (Le.refl _) ⟨rfl, b1, rfl, rfl⟩)
theorem backward1_spec {l x0 : Nat} {A : Option Addr} {n c : Nat} {vs : List Value} {E X0 : Own} (hE : OwnRow 144 2 A n c vs E) {Inv : Nat → Mem → Own → Prop} {Dn : Mem → Own → Prop}
    (hy : ∀ k M1 X1, k < n → Le M M1 → Inv (k + 1) M1 X1 → YCon Tryd.prog l [.int .i64 k, .agg ((vs.drop (k * 2)).take 2).toArray] G M1 X1 (Inv k) Dn) (h0 : Inv n M X0) :
    Con Tryd.prog 178 #[.func (.yield l) (List.toArray []) (List.toArray []), .pointer (some ⟨x0, 0, none⟩)] G M ((x0, .cells (List.toArray [.slice A n c]) 132 (0, 0)) :: (E ++ X0))
      (fun v M' L' => ∃ X', L' = (x0, .cells (List.toArray [.slice A n c]) 132 (0, 0)) :: (E ++ X') ∧ (Inv 0 M' X' ∨ Dn M' X')) noPanic := by
  have hmx := hE.max
  have hle := hE.le
  have hlen := hE.len
  refine enter (args := [_, _]) (fn := Tryd.f178) ⟨Tryd.func178, rfl, by kernel_rfl, by kernel_rfl⟩ 19 rfl ?_
  refine x_seq (x_region ?_)
  refine tl_y rfl (y_load rfl rfl (.own inferInstance inferInstance)) ?_
  refine tl_y rfl (y_len rfl) ?_
  refine tl_y rfl (y_subI rfl rfl (by omega)) ?_
  refine tl_y rfl (y_assign (v := .int _ _) rfl) ?_
  refine tl_nil (.then_normal ?_)
  refine x_block ?_
  refine x_loop (I := fun m' F D M1 L1 => ∃ (k : Nat) (X1 : Own), k = m' ∧ k ≤ n ∧ Le M M1 ∧ Inv k M1 X1 ∧ D = [] ∧ L1 = (x0, .cells (List.toArray [.slice A n c]) 132 (0, 0)) :: (E ++ X1) ∧ F = [(0, .func (.yield l) (List.toArray []) (List.toArray [])), (1, .pointer (some ⟨x0, 0, none⟩)), (3, .int .i64 ((k : Int) - 1))]) (n) (F0 := [(0, _), (1, _), (3, _)]) ?_ (.cons rfl (.cons rfl (.cons rfl .nil))) ?_  -- slots [0, 1, 3], written [3]
  · exact ⟨n, X0, rfl, by omega, Le.refl _, h0, rfl, rfl, rfl⟩
  rintro m _ _ M1 L1 ⟨k, X1, rfl, hk, hM1, hI, rfl, rfl, rfl⟩
  refine x_seq (x_seq (x_region ?_))
  refine tl_y rfl (y_move (v := .int _ _) rfl) ?_
  refine tl_y rfl (y_geq rfl rfl) ?_
  refine tl_nil (.then_normal ?_)
  refine x_cond rfl (fun hc1 => ?_) (fun hc1 => ?_)
  ·
    obtain ⟨k, rfl⟩ : ∃ j, k = j + 1 := ⟨k - 1, by omega⟩
    obtain ⟨g, o, rfl, hcell⟩ := hE.cellsIn (M := M1) (L := (x0, .cells (List.toArray [.slice A n c]) 132 (0, 0)) :: (E ++ X1)) inferInstance (by omega)
    have hc1 := hcell (k * 2) 2 (by omega)
    have e0 : (((k + 1 : Nat) : Int) - 1) = (k : Int) := by omega
    rw [e0]
    refine x_skip (.then_normal ?_)
    refine x_seq ?_
    refine x_block ?_
    refine x_seq (x_region ?_)
    refine tl_y rfl (y_move (v := .func _ _ _) rfl) ?_
    refine tl_y rfl (y_move (v := .int _ _) rfl) ?_
    refine tl_y rfl (y_load rfl rfl (.own inferInstance inferInstance)) ?_
    refine tl_y rfl (y_move (v := .int _ _) rfl) ?_
    refine tl_y rfl (y_indexAddr rfl rfl (by omega)) ?_
    refine tl_y rfl (y_loadAgg rfl rfl (.at_ hc1 (by omega))) ?_
    refine .eqL (L' := ((x0, .cells (List.toArray [.slice (some ⟨g, o, none⟩) n c]) 132 (0, 0)) :: E) ++ X1) (by simp) ?_
    refine tl_e rfl (e_yieldB rfl rfl (hy k M1 X1 (by omega) hM1 hI) (fun b M2 X2 hM2 hb => ?_))
    rw [List.cons_append]
    refine tl_y rfl (y_not rfl) ?_
    refine tl_nil (.then_normal ?_)
    refine .sub (F' := [(0, _), (1, _), (3, _), (18, _)]) (.cons rfl (.cons rfl (.cons rfl (.cons rfl .nil)))) ?_
    refine x_condb rfl (fun hc2 => ?_) (fun hc2 => ?_)
    ·
      refine x_ret (.block_ret (.then_ret (.loop_ret (.block_ret (ret0 rfl (hM1.trans hM2) ⟨X2, rfl, by
  rcases hb with ⟨rfl, _⟩ | ⟨_, hb⟩
  · simp at hc2
  · exact .inr hb⟩)))))
    ·
      refine x_skip (.block_normal (.then_normal ?_))
      refine x_region ?_
      refine tl_y rfl (y_move (v := .int _ _) rfl) ?_
      refine tl_y rfl (y_subI rfl rfl (by omega)) ?_
      refine tl_y rfl (y_assign (v := .int _ _) rfl) ?_
      refine tl_nil (.loop_next (m' := k) (by omega) (F' := [(0, _), (1, _), (3, _)]) (.cons rfl (.cons rfl (.cons rfl .nil))) ?_)
      exact ⟨k, X2, rfl, by omega, hM1.trans hM2, by
  rcases hb with ⟨_, hb⟩ | ⟨rfl, hb⟩
  · exact hb
  · simp at hc2, rfl, rfl, rfl⟩
  ·
    refine x_exit (.then_exit (.loop_exit (.block_exit (end0 rfl hM1 ⟨X1, rfl, .inl (by
  obtain rfl : k = 0 := by omega
  exact hI)⟩))))
/-- What 'Read' answers. -/
def readRes (S : DS) (i : Int) : List UInt8 × Int :=
  if S.down then ([], 6) else if 0 ≤ i ∧ i < S.sure.length then ((lastW i S.pend).getD (S.sure.getD i.toNat []), 0) else ([], 1)
theorem Read_spec (h : IsDisk M r S) (i : Int) :
    Con Tryd.prog 142 #[.pointer (some ⟨p, 0, none⟩), .int .i64 i] G M (dL p r S R) (fun v M' L' => L' = dL p r S R ∧ ∃ A n c, v = .tuple #[.slice A n c, .int .i64 (readRes S i).2] ∧ Bytes M' A n c (readRes S i).1) noPanic := by
  have hpn := h.pn
  have hsn := h.sn
  have hpv := h.pend.len
  have hsv := h.sure.len
  refine enterM (args := [_, _]) (fn := Tryd.f142) ⟨Tryd.func142, rfl, by kernel_rfl, by kernel_rfl⟩ 40 rfl ?_
  refine x_seq (x_region ?_)
  refine tl_e rfl (e_box rfl (fun b1 => ?_))
  refine tl_e rfl (e_alloc (fun b2 => ?_))
  refine tl_e rfl (e_alloc (fun b3 => ?_))
  refine tl_nil (.then_normal ?_)
  refine x_seq ?_
  refine x_block ?_
  refine x_seq (x_region ?_)
  refine tl_y rfl (y_move (v := .pointer _) rfl) ?_
  refine tl_y rfl (y_nilCheck rfl) ?_
  refine tl_y rfl (y_fieldAddr rfl) ?_
  refine tl_y rfl (y_load rfl rfl (.own inferInstance inferInstance)) ?_
  refine tl_y rfl (y_assign (v := .bool _) rfl) ?_
  refine tl_nil (.then_normal ?_)
  refine .sub (F' := [(0, _), (3, _), (4, _), (5, _), (8, _)]) (.cons rfl (.cons rfl (.cons rfl (.cons rfl (.cons rfl .nil))))) ?_
  refine x_condb rfl (fun hc1 => ?_) (fun hc1 => ?_)
  ·
    refine x_seq (x_region ?_)
    refine tl_e rfl (e_store rfl rfl (by rfl) (by rfl) inferInstance inferInstance inferInstance ?_)
    refine tl_e rfl (e_store rfl rfl (by rfl) (by rfl) inferInstance inferInstance inferInstance ?_)
    refine tl_nil (.then_normal ?_)
    refine x_ret (.block_ret (.then_ret (.retM0 (L1 := dL p r S R) (rv2 rfl (rc_cell (by rfl) rfl (.own inferInstance inferInstance)) (rc_cell (by rfl) rfl (.own inferInstance inferInstance))) inferInstance (Le.refl _) (by
  rw [show readRes S i = ([], 6) by simp [readRes, hc1]]
  exact ⟨rfl, _, _, _, rfl, Row.nil _ _⟩))))
  ·
    refine x_seq (x_region ?_)
    refine tl_y rfl (y_move (v := .pointer _) rfl) ?_
    refine tl_y rfl (y_load rfl rfl (.own inferInstance inferInstance)) ?_
    refine tl_e rfl (e_call' rfl (Con.to (dL p r S ((b3, .cells (List.toArray [.int .i64 0]) 28 (0, 0)) :: (b2, .cells (List.toArray [.slice none 0 0]) 45 (0, 0)) :: (b1, .cells (List.toArray [.int .i64 i]) 3 (0, 0)) :: R)) inferInstance (is_spec h i)) ?_)
    rintro _ M1 L1 hM1 ⟨rfl, rfl, rfl⟩
    refine tl_y rfl (y_notd rfl) ?_
    refine tl_y rfl (y_assign (v := .bool _) rfl) ?_
    refine tl_nil (.then_normal ?_)
    refine .sub (F' := [(0, _), (3, _), (4, _), (5, _), (13, _)]) (.cons rfl (.cons rfl (.cons rfl (.cons rfl (.cons rfl .nil))))) ?_
    refine x_cond rfl (fun hc2 => ?_) (fun hc2 => ?_)
    ·
      refine x_seq (x_region ?_)
      refine tl_e rfl (e_store rfl rfl (by rfl) (by rfl) inferInstance inferInstance inferInstance ?_)
      refine tl_e rfl (e_store rfl rfl (by rfl) (by rfl) inferInstance inferInstance inferInstance ?_)
      refine tl_nil (.then_normal ?_)
      refine x_ret (.block_ret (.then_ret (.retM0 (L1 := dL p r S R) (rv2 rfl (rc_cell (by rfl) rfl (.own inferInstance inferInstance)) (rc_cell (by rfl) rfl (.own inferInstance inferInstance))) inferInstance (Le.refl _) (by
  rw [show readRes S i = ([], 1) by rw [readRes, if_neg (by simp [hc1]), if_neg hc2]]
  exact ⟨rfl, _, _, _, rfl, Row.nil _ _⟩))))
    ·
      refine x_skip (.block_normal (.then_normal ?_))
      refine x_seq (x_seq (x_region ?_))
      refine tl_y rfl (y_move (v := .pointer _) rfl) ?_
      refine tl_y rfl (y_nilCheck rfl) ?_
      refine tl_y rfl (y_fieldAddr rfl) ?_
      refine tl_y rfl (y_load rfl rfl (.own inferInstance inferInstance)) ?_
      refine tl_e rfl (e_call' rfl backward_spec ?_)
      rintro _ M2 L2 hM2 ⟨rfl, x0, rfl, rfl⟩
      refine tl_nil (.then_normal ?_)
      refine .sub (F' := [(0, _), (3, _), (4, _), (5, _), (22, _)]) (.cons rfl (.cons rfl (.cons rfl (.cons rfl (.cons rfl .nil))))) ?_
      refine x_block ?_
      refine x_rangeN rfl rfl (fun l r0 fn tm lps las lbd hps has hbd htm => ?_)
      -- RANGE: the iterator (label g1), then a round (asg, body), then behind it
      have hin : 0 ≤ i ∧ i < S.sure.length := Classical.not_not.1 hc2
      obtain ⟨xs, hxs⟩ : ∃ xs : LoopState → Option Code → Value → Own, ∀ st pd rc, xs st pd rc = lrec l st pd fn tm lps las lbd r0 :: (r0, .deferred (some [])) :: (b3, .cells (List.toArray [.int .i64 0]) 28 (0, 0)) :: (b2, .cells (List.toArray [rc]) 45 (0, 0)) :: (b1, .cells (List.toArray [.int .i64 i]) 3 (0, 0)) :: (p, .cells (List.toArray (dcells r S)) 134 (0, 0)) :: (r.E1 ++ R) := ⟨_, fun _ _ _ => rfl⟩
      refine Con.postD (Con.to ((x0, .cells (List.toArray [.slice r.pa r.pn r.pc]) 132 (0, 0)) :: (r.E2 ++ xs .ready none (.slice none 0 0))) (by rw [hxs]; infer_instance) (backward1_spec h.p (Inv := fun k M1 X1 => noneBehind i S.pend k ∧ X1 = xs .ready none (.slice none 0 0)) (Dn := fun M1 X1 => ∃ A' c' b, lastW i S.pend = some b ∧ Bytes M1 A' 64 c' b ∧ X1 = xs .done (some .ret) (.slice A' 64 c')) ?_ ⟨(fun q hq => by rw [hpn, List.drop_length] at hq; cases hq), rfl⟩)) ?_
      · rintro k M1 X1 hk hM1 ⟨hno, rfl⟩
        rw [hxs]
        obtain ⟨A1, n1, c1, hv1, hv2, hb1⟩ := (h.pend.mono hM1).get k (by omega)
        have hq := h.pl (S.pend.getD k default) (getD_mem _ _ _ (by omega))
        rw [take_two hv1 hv2]
        subst hps
        subst has
        subst hbd
        refine ycon_body htm rfl (by kernel_rfl) (fun R1 => ?_)
        simp only [List.cons_append, List.append_assoc]
        have hsz1 := hb1.size
        refine x_region ?_
        refine tl_e rfl (e_alloc (fun b9 => ?_))
        refine tl_e rfl (e_store rfl rfl (by rfl) (by rfl) inferInstance inferInstance inferInstance ?_)
        refine .bring l inferInstance ?_
        refine tl_nil (.asg (by kernel_rfl) ?_)
        refine x_block ?_
        refine x_seq (x_region ?_)
        refine tl_y rfl (y_fieldAddr rfl) ?_
        refine tl_y rfl (y_load rfl rfl (.own inferInstance inferInstance)) ?_
        refine tl_y rfl (y_load rfl rfl (.own inferInstance inferInstance)) ?_
        refine tl_y rfl (y_eql rfl rfl) ?_
        refine tl_nil (.then_normal ?_)
        refine .sub (F' := [(4, _), (5, _), (7, _), (28, _)]) (.cons rfl (.cons rfl (.cons rfl (.cons rfl .nil)))) ?_
        refine x_cond rfl (fun hc1 => ?_) (fun hc1 => ?_)
        ·
          refine x_seq (x_region ?_)
          refine tl_y rfl (y_fieldAddr rfl) ?_
          refine tl_y rfl (y_load rfl rfl (.own inferInstance inferInstance)) ?_
          refine tl_e rfl (e_call' rfl (bytesClone_spec hb1 (by omega)) ?_)
          rintro _ M2 L2 hM2 ⟨rfl, A2, c2, rfl, hA2⟩
          refine tl_e rfl (e_store rfl rfl (by rfl) (by rfl) inferInstance inferInstance inferInstance ?_)
          refine tl_e rfl (e_store rfl rfl (by rfl) (by rfl) inferInstance inferInstance inferInstance ?_)
          refine tl_nil (.then_normal ?_)
          refine .sub (F' := [(4, _), (5, _)]) (.cons rfl (.cons rfl .nil)) ?_
          refine x_ret (.block_ret (.off_ret ((r0, .deferred (some [])) :: (b3, .cells (List.toArray [.int .i64 0]) 28 (0, 0)) :: (b2, .cells (List.toArray [.slice A2 n1 c2]) 45 (0, 0)) :: (b1, .cells (List.toArray [.int .i64 i]) 3 (0, 0)) :: (p, .cells (List.toArray (dcells r S)) 134 (0, 0)) :: (r.E1 ++ (R ++ R1))) inferInstance inferInstance
  (X := (r0, .deferred (some [])) :: (b3, .cells (List.toArray [.int .i64 0]) 28 (0, 0)) :: (b2, .cells (List.toArray [.slice A2 n1 c2]) 45 (0, 0)) :: (b1, .cells (List.toArray [.int .i64 i]) 3 (0, 0)) :: (p, .cells (List.toArray (dcells r S)) 134 (0, 0)) :: (r.E1 ++ R)) (by simp) hM2 (by
    obtain rfl : n1 = 64 := by omega
    refine ⟨A2, c2, _, ?_, hA2, (hxs _ _ _).symm⟩
    conv => lhs; rw [split_at S.pend k default (by omega)]
    exact lastW_some hc1 hno _)))
        ·
          refine x_skip (.block_normal (.on ((r0, .deferred (some [])) :: (b3, .cells (List.toArray [.int .i64 0]) 28 (0, 0)) :: (b2, .cells (List.toArray [.slice none 0 0]) 45 (0, 0)) :: (b1, .cells (List.toArray [.int .i64 i]) 3 (0, 0)) :: (p, .cells (List.toArray (dcells r S)) 134 (0, 0)) :: (r.E1 ++ (R ++ R1))) inferInstance inferInstance
  (X := (r0, .deferred (some [])) :: (b3, .cells (List.toArray [.int .i64 0]) 28 (0, 0)) :: (b2, .cells (List.toArray [.slice none 0 0]) 45 (0, 0)) :: (b1, .cells (List.toArray [.int .i64 i]) 3 (0, 0)) :: (p, .cells (List.toArray (dcells r S)) 134 (0, 0)) :: (r.E1 ++ R)) (by simp) (Le.refl _) ⟨noneBehind_step hno (by omega) hc1, rfl⟩))
      · rintro v M3 L3 hM3 ⟨X', rfl, hX⟩
        rcases hX with ⟨hno, rfl⟩ | ⟨A', c', b, hb, hB, rfl⟩
        · refine ⟨lrec l .ready none fn tm lps las lbd r0 :: (r0, .deferred (some [])) :: (b3, .cells (List.toArray [.int .i64 0]) 28 (0, 0)) :: (b2, .cells (List.toArray [.slice none 0 0]) 45 (0, 0)) :: (b1, .cells (List.toArray [.int .i64 i]) 3 (0, 0)) :: dL p r S R, by rw [hxs]; infer_instance, .ready, none, _, by simp, rfl, ?_⟩
          have hlast : lastW i S.pend = none := lastW_none (fun q hq => hno q (by simpa using hq))
          obtain ⟨g, o, hsa, hcell⟩ := h.s.cellIn (M := M3) (L := lrec l .exhausted none fn tm lps las lbd r0 :: (r0, .deferred (some [])) :: (b3, .cells (List.toArray [.int .i64 0]) 28 (0, 0)) :: (b2, .cells (List.toArray [.slice none 0 0]) 45 (0, 0)) :: (b1, .cells (List.toArray [.int .i64 i]) 3 (0, 0)) :: dL p r S R) inferInstance (by omega)
          obtain ⟨A1, n1, c1, hv1, hb1⟩ := (h.sure.mono hM3).get i.toNat (by omega)
          have hbl := h.sl (S.sure.getD i.toNat []) (getD_mem _ _ _ (by omega))
          have hsz1 := hb1.size
          refine .block_normal (.then_normal ?_)
          refine .sub (F' := [(0, _), (3, _), (4, _), (5, _)]) (.cons rfl (.cons rfl (.cons rfl (.cons rfl .nil)))) ?_
          refine x_seq ?_
          refine x_draw 8 hmix rfl ?_
          refine to_p 0 rfl (by kernel_rfl) rfl (y_move (v := .pointer _) rfl) ?_
          refine to_p 1 rfl (by kernel_rfl) rfl (y_nilCheck rfl) ?_
          refine to_p 2 rfl (by kernel_rfl) rfl (y_fieldAddr rfl) ?_
          refine to_y 3 rfl (by kernel_rfl) rfl (y_load rfl rfl (.own inferInstance inferInstance)) ?_
          refine to_y 4 rfl (by kernel_rfl) rfl (y_load rfl rfl (.own inferInstance inferInstance)) ?_
          refine to_p 5 rfl (by kernel_rfl) rfl (y_indexAddr (b := g) (o := o) (by rw [hsa]; rfl) rfl (by omega)) ?_
          refine to_y 6 rfl (by kernel_rfl) rfl (y_load rfl rfl (.at_ (hcell i.toNat _ hv1) (by omega))) ?_
          refine to_e 7 rfl (by kernel_rfl) rfl (e_call' rfl (bytesClone_spec hb1 (by omega)) ?_)
          rintro _ M4 L4 hM4 ⟨rfl, A2, c2, rfl, hA2⟩
          refine ⟨⟨(by first | exact Le.refl _ | assumption), Keeps.mem⟩, ?_⟩
          refine to_t 8 rfl (by kernel_rfl) (by kernel_rfl) rfl (e_store rfl rfl (by rfl) (by rfl) inferInstance inferInstance inferInstance ?_)
          refine to_t 9 rfl (by kernel_rfl) (by kernel_rfl) rfl (e_store rfl rfl (by rfl) (by rfl) inferInstance inferInstance inferInstance ?_)
          refine to_nil (by kernel_rfl) (.then_normal ?_)
          refine .sub (F' := [(4, _), (5, _)]) (.cons rfl (.cons rfl .nil)) ?_
          refine x_ret (.retM1 (r := r0) (L1 := dL p r S R) inferInstance (rv2 rfl (rc_cell (by rfl) rfl (.own inferInstance inferInstance)) (rc_cell (by rfl) rfl (.own inferInstance inferInstance))) inferInstance (hM3.trans hM4) (by
  rw [show readRes S i = (S.sure.getD i.toNat [], 0) by rw [readRes, if_neg (by simp [hc1]), if_pos hin, hlast]; rfl]
  exact ⟨rfl, _, _, _, rfl, hA2⟩))
        · refine ⟨lrec l .done (some .ret) fn tm lps las lbd r0 :: (r0, .deferred (some [])) :: (b3, .cells (List.toArray [.int .i64 0]) 28 (0, 0)) :: (b2, .cells (List.toArray [.slice A' 64 c']) 45 (0, 0)) :: (b1, .cells (List.toArray [.int .i64 i]) 3 (0, 0)) :: dL p r S R, by rw [hxs]; infer_instance, .done, some .ret, _, by simp, rfl, rfl, ?_⟩
          refine x_ret (.block_ret (.then_ret (.retM1 (r := r0) (L1 := dL p r S R) inferInstance (rv2 rfl (rc_cell (by rfl) rfl (.own inferInstance inferInstance)) (rc_cell (by rfl) rfl (.own inferInstance inferInstance))) inferInstance hM3 (by
  rw [show readRes S i = (b, 0) by rw [readRes, if_neg (by simp [hc1]), if_pos hin, hb]; rfl]
  exact ⟨rfl, _, _, _, rfl, hB⟩))))
end
end Go.Proofs.YtbgdjdhbejbhkaaDoor
