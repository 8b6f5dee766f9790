/-
Contracts of functions, each proved by a walk through its code.
-/
import Derived.Test.YtbgdjdhbejbhkaaDoorDisk2Etc
import Derived.Test.YtbgdjdhbejbhkaaDoorBaseEtc
import Derived.Test.YtbgdjdhbejbhkaaDoorShaEtc
set_option linter.unusedVariables false
set_option linter.unusedSimpArgs false
namespace Go.Proofs.YtbgdjdhbejbhkaaDoor
open Go Go.Eng
section
variable {G : World} {M : Mem} {R : Own} {p : Nat} {r : DRep} {S : DS}
/-- What was written last to a sector, of what is pending. -/
def lastW (i : Int) : List (Int × List UInt8) → Option (List UInt8)
  | [] => none
  | q :: ps => match lastW i ps with
    | some b => some b
    | none => if q.1 = i then some q.2 else none
theorem lastW_none {i : Int} : ∀ {ps : List (Int × List UInt8)}, (∀ q ∈ ps, q.1 ≠ i) → lastW i ps = none
  | [], _ => rfl
  | q :: ps, h => by
    simp only [lastW, lastW_none fun q' hq' => h q' (List.mem_cons_of_mem _ hq')]
    rw [if_neg (h q List.mem_cons_self)]
theorem lastW_some {i : Int} {q : Int × List UInt8} {qs : List (Int × List UInt8)} (hq : q.1 = i) (h : ∀ q ∈ qs, q.1 ≠ i) : ∀ (ps : List (Int × List UInt8)), lastW i (ps ++ q :: qs) = some q.2
  | [] => by simp [lastW, lastW_none h, hq]
  | q' :: ps => by simp only [List.cons_append, lastW, lastW_some hq h ps]
theorem split_at {α : Type} (l : List α) (k : Nat) (d : α) (h : k < l.length) : l = l.take k ++ l.getD k d :: l.drop (k + 1) := by
  rw [List.getD_eq_getElem?_getD, List.getElem?_eq_getElem h]
  simp
/-- Behind place 'k' nothing was written to the sector. -/
def noneBehind (i : Int) (ps : List (Int × List UInt8)) (k : Nat) : Prop := ∀ q ∈ ps.drop k, q.1 ≠ i
theorem noneBehind_step {i : Int} {ps : List (Int × List UInt8)} {k : Nat} (h : noneBehind i ps (k + 1)) (hk : k < ps.length) (hq : (ps.getD k default).1 ≠ i) : noneBehind i ps k := fun q hm => by
  have : ps.drop k = ps.getD k default :: ps.drop (k + 1) := by
    rw [List.drop_eq_getElem_cons hk, List.getD_eq_getElem?_getD, List.getElem?_eq_getElem hk]; rfl
  rw [this] at hm
  rcases List.mem_cons.1 hm with rfl | hm
  · exact hq
  · exact h q hm
theorem backward_spec {L : Own} {A : Option Addr} {n c : Nat} :
    Con Tryd.prog 162 #[.slice A n c] G M L (fun v M' L' => M = M' ∧ ∃ x0, L' = (x0, .cells (List.toArray [.slice A n c]) 132 (0, 0)) :: L ∧ v = .func (.func 178) (List.toArray []) (List.toArray [.pointer (some ⟨x0, 0, none⟩)])) noPanic := by
  refine enter (args := [_]) (fn := Tryd.f162) ⟨Tryd.func162, rfl, by kernel_rfl, by kernel_rfl⟩ 4 rfl ?_
  refine x_seq (x_region ?_)
  refine tl_e rfl (e_box rfl (fun b1 => ?_))
  refine tl_y rfl (y_assign rfl) ?_
  refine tl_nil (.then_normal ?_)
  refine x_seq (x_region ?_)
  refine tl_y rfl (y_makeFunc rfl rfl) ?_
  refine tl_y rfl (y_assign (v := .func _ _ _) rfl) ?_
  refine tl_nil (.then_normal ?_)
  refine x_ret (ret1 rfl rfl (Le.refl _) ⟨rfl, b1, rfl, rfl⟩)
theorem backward1_spec {l x0 : Nat} {A : Option Addr} {n c : Nat} {vs : List Value} {E X0 : Own} (hE : OwnRow 144 2 A n c vs E) {Inv : Nat → Mem → Own → Prop} {Dn : Mem → Own → Prop}
    (hy : ∀ k M1 X1, k < n → Le M M1 → Inv (k + 1) M1 X1 → YCon Tryd.prog l [.int .i64 k, .agg ((vs.drop (k * 2)).take 2).toArray] G M1 X1 (Inv k) Dn) (h0 : Inv n M X0) :
    Con Tryd.prog 178 #[.func (.yield l) (List.toArray []) (List.toArray []), .pointer (some ⟨x0, 0, none⟩)] G M ((x0, .cells (List.toArray [.slice A n c]) 132 (0, 0)) :: (E ++ X0))
      (fun v M' L' => ∃ X', L' = (x0, .cells (List.toArray [.slice A n c]) 132 (0, 0)) :: (E ++ X') ∧ (Inv 0 M' X' ∨ Dn M' X')) noPanic := by
  have hmx := hE.max
  have hle := hE.le
  have hlen := hE.len
  refine enter (args := [_, _]) (fn := Tryd.f178) ⟨Tryd.func178, rfl, by kernel_rfl, by kernel_rfl⟩ 19 rfl ?_
  refine x_seq (x_region ?_)
  refine tl_y rfl (y_load rfl rfl (.own inferInstance inferInstance)) ?_
  refine tl_y rfl (y_len rfl) ?_
  refine tl_y rfl (y_subI rfl rfl (by omega)) ?_
  refine tl_y rfl (y_assign (v := .int _ _) rfl) ?_
  refine tl_nil (.then_normal ?_)
  refine x_block ?_
  refine x_loop (I := fun m' F D M1 L1 => ∃ (k : Nat) (X1 : Own), k = m' ∧ k ≤ n ∧ Le M M1 ∧ Inv k M1 X1 ∧ D = [] ∧ L1 = (x0, .cells (List.toArray [.slice A n c]) 132 (0, 0)) :: (E ++ X1) ∧ F = [(0, .func (.yield l) (List.toArray []) (List.toArray [])), (1, .pointer (some ⟨x0, 0, none⟩)), (3, .int .i64 ((k : Int) - 1))]) (n) (F0 := [(0, _), (1, _), (3, _)]) ?_ (.cons rfl (.cons rfl (.cons rfl .nil))) ?_  -- slots [0, 1, 3], written [3]
  · exact ⟨n, X0, rfl, by omega, Le.refl _, h0, rfl, rfl, rfl⟩
  rintro m _ _ M1 L1 ⟨k, X1, rfl, hk, hM1, hI, rfl, rfl, rfl⟩
  refine x_seq (x_seq (x_region ?_))
  refine tl_y rfl (y_move (v := .int _ _) rfl) ?_
  refine tl_y rfl (y_geq rfl rfl) ?_
  refine tl_nil (.then_normal ?_)
  refine x_cond rfl (fun hc1 => ?_) (fun hc1 => ?_)
  ·
    obtain ⟨k, rfl⟩ : ∃ j, k = j + 1 := ⟨k - 1, by omega⟩
    obtain ⟨g, o, rfl, hcell⟩ := hE.cellsIn (M := M1) (L := (x0, .cells (List.toArray [.slice A n c]) 132 (0, 0)) :: (E ++ X1)) inferInstance (by omega)
    have hc1 := hcell (k * 2) 2 (by omega)
    have e0 : (((k + 1 : Nat) : Int) - 1) = (k : Int) := by omega
    rw [e0]
    refine x_skip (.then_normal ?_)
    refine x_seq ?_
    refine x_block ?_
    refine x_seq (x_region ?_)
    refine tl_y rfl (y_move (v := .func _ _ _) rfl) ?_
    refine tl_y rfl (y_move (v := .int _ _) rfl) ?_
    refine tl_y rfl (y_load rfl rfl (.own inferInstance inferInstance)) ?_
    refine tl_y rfl (y_move (v := .int _ _) rfl) ?_
    refine tl_y rfl (y_indexAddr rfl rfl (by omega)) ?_
    refine tl_y rfl (y_loadAgg rfl rfl (.at_ hc1 (by omega))) ?_
    refine .eqL (L' := ((x0, .cells (List.toArray [.slice (some ⟨g, o, none⟩) n c]) 132 (0, 0)) :: E) ++ X1) (by simp) ?_
    refine tl_e rfl (e_yieldB rfl rfl (hy k M1 X1 (by omega) hM1 hI) (fun b M2 X2 hM2 hb => ?_))
    rw [List.cons_append]
    refine tl_y rfl (y_not rfl) ?_
    refine tl_nil (.then_normal ?_)
    refine .sub (F' := [(0, _), (1, _), (3, _), (18, _)]) (.cons rfl (.cons rfl (.cons rfl (.cons rfl .nil)))) ?_
    refine x_condb rfl (fun hc2 => ?_) (fun hc2 => ?_)
    ·
      refine x_ret (.block_ret (.then_ret (.loop_ret (.block_ret (ret0 rfl (hM1.trans hM2) ⟨X2, rfl, by
  rcases hb with ⟨rfl, _⟩ | ⟨_, hb⟩
  · simp at hc2
  · exact .inr hb⟩)))))
    ·
      refine x_skip (.block_normal (.then_normal ?_))
      refine x_region ?_
      refine tl_y rfl (y_move (v := .int _ _) rfl) ?_
      refine tl_y rfl (y_subI rfl rfl (by omega)) ?_
      refine tl_y rfl (y_assign (v := .int _ _) rfl) ?_
      refine tl_nil (.loop_next (m' := k) (by omega) (F' := [(0, _), (1, _), (3, _)]) (.cons rfl (.cons rfl (.cons rfl .nil))) ?_)
      exact ⟨k, X2, rfl, by omega, hM1.trans hM2, by
  rcases hb with ⟨_, hb⟩ | ⟨rfl, hb⟩
  · exact hb
  · simp at hc2, rfl, rfl, rfl⟩
  ·
    refine x_exit (.then_exit (.loop_exit (.block_exit (end0 rfl hM1 ⟨X1, rfl, .inl (by
  obtain rfl : k = 0 := by omega
  exact hI)⟩))))
/-- What 'Read' answers. -/
def readRes (S : DS) (i : Int) : List UInt8 × Int :=
  if S.down then ([], 6) else if 0 ≤ i ∧ i < S.sure.length then ((lastW i S.pend).getD (S.sure.getD i.toNat []), 0) else ([], 1)
theorem Read_spec (h : IsDisk M r S) (i : Int) :
    Con Tryd.prog 142 #[.pointer (some ⟨p, 0, none⟩), .int .i64 i] G M (dL p r S R) (fun v M' L' => L' = dL p r S R ∧ ∃ A n c, v = .tuple #[.slice A n c, .int .i64 (readRes S i).2] ∧ Bytes M' A n c (readRes S i).1) noPanic := by
  have hpn := h.pn
  have hsn := h.sn
  have hpv := h.pend.len
  have hsv := h.sure.len
  refine enterM (args := [_, _]) (fn := Tryd.f142) ⟨Tryd.func142, rfl, by kernel_rfl, by kernel_rfl⟩ 40 rfl ?_
  refine x_seq (x_region ?_)
  refine tl_e rfl (e_box rfl (fun b1 => ?_))
  refine tl_e rfl (e_alloc (fun b2 => ?_))
  refine tl_e rfl (e_alloc (fun b3 => ?_))
  refine tl_nil (.then_normal ?_)
  refine x_seq ?_
  refine x_block ?_
  refine x_seq (x_region ?_)
  refine tl_y rfl (y_move (v := .pointer _) rfl) ?_
  refine tl_y rfl (y_nilCheck rfl) ?_
  refine tl_y rfl (y_fieldAddr rfl) ?_
  refine tl_y rfl (y_load rfl rfl (.own inferInstance inferInstance)) ?_
  refine tl_y rfl (y_assign (v := .bool _) rfl) ?_
  refine tl_nil (.then_normal ?_)
  refine .sub (F' := [(0, _), (3, _), (4, _), (5, _), (8, _)]) (.cons rfl (.cons rfl (.cons rfl (.cons rfl (.cons rfl .nil))))) ?_
  refine x_condb rfl (fun hc1 => ?_) (fun hc1 => ?_)
  ·
    refine x_seq (x_region ?_)
    refine tl_e rfl (e_store rfl rfl (by rfl) (by rfl) inferInstance inferInstance inferInstance ?_)
    refine tl_e rfl (e_store rfl rfl (by rfl) (by rfl) inferInstance inferInstance inferInstance ?_)
    refine tl_nil (.then_normal ?_)
    refine x_ret (.block_ret (.then_ret (.retM0 (L1 := dL p r S R) (rv2 rfl (rc_cell (by rfl) rfl (.own inferInstance inferInstance)) (rc_cell (by rfl) rfl (.own inferInstance inferInstance))) inferInstance (Le.refl _) (by
  rw [show readRes S i = ([], 6) by simp [readRes, hc1]]
  exact ⟨rfl, _, _, _, rfl, Row.nil _ _⟩))))
  ·
    refine x_seq (x_region ?_)
    refine tl_y rfl (y_move (v := .pointer _) rfl) ?_
    refine tl_y rfl (y_load rfl rfl (.own inferInstance inferInstance)) ?_
    refine tl_e rfl (e_call' rfl (Con.to (dL p r S ((b3, .cells (List.toArray [.int .i64 0]) 28 (0, 0)) :: (b2, .cells (List.toArray [.slice none 0 0]) 45 (0, 0)) :: (b1, .cells (List.toArray [.int .i64 i]) 3 (0, 0)) :: R)) inferInstance (is_spec h i)) ?_)
    rintro _ M1 L1 hM1 ⟨rfl, rfl, rfl⟩
    refine tl_y rfl (y_notd rfl) ?_
    refine tl_y rfl (y_assign (v := .bool _) rfl) ?_
    refine tl_nil (.then_normal ?_)
    refine .sub (F' := [(0, _), (3, _), (4, _), (5, _), (13, _)]) (.cons rfl (.cons rfl (.cons rfl (.cons rfl (.cons rfl .nil))))) ?_
    refine x_cond rfl (fun hc2 => ?_) (fun hc2 => ?_)
    ·
      refine x_seq (x_region ?_)
      refine tl_e rfl (e_store rfl rfl (by rfl) (by rfl) inferInstance inferInstance inferInstance ?_)
      refine tl_e rfl (e_store rfl rfl (by rfl) (by rfl) inferInstance inferInstance inferInstance ?_)
      refine tl_nil (.then_normal ?_)
      refine x_ret (.block_ret (.then_ret (.retM0 (L1 := dL p r S R) (rv2 rfl (rc_cell (by rfl) rfl (.own inferInstance inferInstance)) (rc_cell (by rfl) rfl (.own inferInstance inferInstance))) inferInstance (Le.refl _) (by
  rw [show readRes S i = ([], 1) by rw [readRes, if_neg (by simp [hc1]), if_neg hc2]]
  exact ⟨rfl, _, _, _, rfl, Row.nil _ _⟩))))
    ·
      refine x_skip (.block_normal (.then_normal ?_))
      refine x_seq (x_seq (x_region ?_))
      refine tl_y rfl (y_move (v := .pointer _) rfl) ?_
      refine tl_y rfl (y_nilCheck rfl) ?_
      refine tl_y rfl (y_fieldAddr rfl) ?_
      refine tl_y rfl (y_load rfl rfl (.own inferInstance inferInstance)) ?_
      refine tl_e rfl (e_call' rfl backward_spec ?_)
      rintro _ M2 L2 hM2 ⟨rfl, x0, rfl, rfl⟩
      refine tl_nil (.then_normal ?_)
      refine .sub (F' := [(0, _), (3, _), (4, _), (5, _), (22, _)]) (.cons rfl (.cons rfl (.cons rfl (.cons rfl (.cons rfl .nil))))) ?_
      refine x_block ?_
      refine x_rangeN rfl rfl (fun l r0 fn tm lps las lbd hps has hbd htm => ?_)
      -- RANGE: the iterator (label g1), then a round (asg, body), then behind it
      have hin : 0 ≤ i ∧ i < S.sure.length := Classical.not_not.1 hc2
      obtain ⟨xs, hxs⟩ : ∃ xs : LoopState → Option Code → Value → Own, ∀ st pd rc, xs st pd rc = lrec l st pd fn tm lps las lbd r0 :: (r0, .deferred (some [])) :: (b3, .cells (List.toArray [.int .i64 0]) 28 (0, 0)) :: (b2, .cells (List.toArray [rc]) 45 (0, 0)) :: (b1, .cells (List.toArray [.int .i64 i]) 3 (0, 0)) :: (p, .cells (List.toArray (dcells r S)) 134 (0, 0)) :: (r.E1 ++ R) := ⟨_, fun _ _ _ => rfl⟩
      refine Con.postD (Con.to ((x0, .cells (List.toArray [.slice r.pa r.pn r.pc]) 132 (0, 0)) :: (r.E2 ++ xs .ready none (.slice none 0 0))) (by rw [hxs]; infer_instance) (backward1_spec h.p (Inv := fun k M1 X1 => noneBehind i S.pend k ∧ X1 = xs .ready none (.slice none 0 0)) (Dn := fun M1 X1 => ∃ A' c' b, lastW i S.pend = some b ∧ Bytes M1 A' 64 c' b ∧ X1 = xs .done (some .ret) (.slice A' 64 c')) ?_ ⟨(fun q hq => by rw [hpn, List.drop_length] at hq; cases hq), rfl⟩)) ?_
      · rintro k M1 X1 hk hM1 ⟨hno, rfl⟩
        rw [hxs]
        obtain ⟨A1, n1, c1, hv1, hv2, hb1⟩ := (h.pend.mono hM1).get k (by omega)
        have hq := h.pl (S.pend.getD k default) (getD_mem _ _ _ (by omega))
        rw [take_two hv1 hv2]
        subst hps
        subst has
        subst hbd
        refine ycon_body htm rfl (by kernel_rfl) (fun R1 => ?_)
        simp only [List.cons_append, List.append_assoc]
        have hsz1 := hb1.size
        refine x_region ?_
        refine tl_e rfl (e_alloc (fun b9 => ?_))
        refine tl_e rfl (e_store rfl rfl (by rfl) (by rfl) inferInstance inferInstance inferInstance ?_)
        refine .bring l inferInstance ?_
        refine tl_nil (.asg (by kernel_rfl) ?_)
        refine x_block ?_
        refine x_seq (x_region ?_)
        refine tl_y rfl (y_fieldAddr rfl) ?_
        refine tl_y rfl (y_load rfl rfl (.own inferInstance inferInstance)) ?_
        refine tl_y rfl (y_load rfl rfl (.own inferInstance inferInstance)) ?_
        refine tl_y rfl (y_eql rfl rfl) ?_
        refine tl_nil (.then_normal ?_)
        refine .sub (F' := [(4, _), (5, _), (7, _), (28, _)]) (.cons rfl (.cons rfl (.cons rfl (.cons rfl .nil)))) ?_
        refine x_cond rfl (fun hc1 => ?_) (fun hc1 => ?_)
        ·
          refine x_seq (x_region ?_)
          refine tl_y rfl (y_fieldAddr rfl) ?_
          refine tl_y rfl (y_load rfl rfl (.own inferInstance inferInstance)) ?_
          refine tl_e rfl (e_call' rfl (bytesClone_spec hb1 (by omega)) ?_)
          rintro _ M2 L2 hM2 ⟨rfl, A2, c2, rfl, hA2⟩
          refine tl_e rfl (e_store rfl rfl (by rfl) (by rfl) inferInstance inferInstance inferInstance ?_)
          refine tl_e rfl (e_store rfl rfl (by rfl) (by rfl) inferInstance inferInstance inferInstance ?_)
          refine tl_nil (.then_normal ?_)
          refine .sub (F' := [(4, _), (5, _)]) (.cons rfl (.cons rfl .nil)) ?_
          refine x_ret (.block_ret (.off_ret ((r0, .deferred (some [])) :: (b3, .cells (List.toArray [.int .i64 0]) 28 (0, 0)) :: (b2, .cells (List.toArray [.slice A2 n1 c2]) 45 (0, 0)) :: (b1, .cells (List.toArray [.int .i64 i]) 3 (0, 0)) :: (p, .cells (List.toArray (dcells r S)) 134 (0, 0)) :: (r.E1 ++ (R ++ R1))) inferInstance inferInstance
  (X := (r0, .deferred (some [])) :: (b3, .cells (List.toArray [.int .i64 0]) 28 (0, 0)) :: (b2, .cells (List.toArray [.slice A2 n1 c2]) 45 (0, 0)) :: (b1, .cells (List.toArray [.int .i64 i]) 3 (0, 0)) :: (p, .cells (List.toArray (dcells r S)) 134 (0, 0)) :: (r.E1 ++ R)) (by simp) hM2 (by
    obtain rfl : n1 = 64 := by omega
    refine ⟨A2, c2, _, ?_, hA2, (hxs _ _ _).symm⟩
    conv => lhs; rw [split_at S.pend k default (by omega)]
    exact lastW_some hc1 hno _)))
        ·
          refine x_skip (.block_normal (.on ((r0, .deferred (some [])) :: (b3, .cells (List.toArray [.int .i64 0]) 28 (0, 0)) :: (b2, .cells (List.toArray [.slice none 0 0]) 45 (0, 0)) :: (b1, .cells (List.toArray [.int .i64 i]) 3 (0, 0)) :: (p, .cells (List.toArray (dcells r S)) 134 (0, 0)) :: (r.E1 ++ (R ++ R1))) inferInstance inferInstance
  (X := (r0, .deferred (some [])) :: (b3, .cells (List.toArray [.int .i64 0]) 28 (0, 0)) :: (b2, .cells (List.toArray [.slice none 0 0]) 45 (0, 0)) :: (b1, .cells (List.toArray [.int .i64 i]) 3 (0, 0)) :: (p, .cells (List.toArray (dcells r S)) 134 (0, 0)) :: (r.E1 ++ R)) (by simp) (Le.refl _) ⟨noneBehind_step hno (by omega) hc1, rfl⟩))
      · rintro v M3 L3 hM3 ⟨X', rfl, hX⟩
        rcases hX with ⟨hno, rfl⟩ | ⟨A', c', b, hb, hB, rfl⟩
        · refine ⟨lrec l .ready none fn tm lps las lbd r0 :: (r0, .deferred (some [])) :: (b3, .cells (List.toArray [.int .i64 0]) 28 (0, 0)) :: (b2, .cells (List.toArray [.slice none 0 0]) 45 (0, 0)) :: (b1, .cells (List.toArray [.int .i64 i]) 3 (0, 0)) :: dL p r S R, by rw [hxs]; infer_instance, .ready, none, _, by simp, rfl, ?_⟩
          have hlast : lastW i S.pend = none := lastW_none (fun q hq => hno q (by simpa using hq))
          obtain ⟨g, o, hsa, hcell⟩ := h.s.cellIn (M := M3) (L := lrec l .exhausted none fn tm lps las lbd r0 :: (r0, .deferred (some [])) :: (b3, .cells (List.toArray [.int .i64 0]) 28 (0, 0)) :: (b2, .cells (List.toArray [.slice none 0 0]) 45 (0, 0)) :: (b1, .cells (List.toArray [.int .i64 i]) 3 (0, 0)) :: dL p r S R) inferInstance (by omega)
          obtain ⟨A1, n1, c1, hv1, hb1⟩ := (h.sure.mono hM3).get i.toNat (by omega)
          have hbl := h.sl (S.sure.getD i.toNat []) (getD_mem _ _ _ (by omega))
          have hsz1 := hb1.size
          refine .block_normal (.then_normal ?_)
          refine .sub (F' := [(0, _), (3, _), (4, _), (5, _)]) (.cons rfl (.cons rfl (.cons rfl (.cons rfl .nil)))) ?_
          refine x_seq ?_
          refine x_draw 8 hmix rfl ?_
          refine to_p 0 rfl (by kernel_rfl) rfl (y_move (v := .pointer _) rfl) ?_
          refine to_p 1 rfl (by kernel_rfl) rfl (y_nilCheck rfl) ?_
          refine to_p 2 rfl (by kernel_rfl) rfl (y_fieldAddr rfl) ?_
          refine to_y 3 rfl (by kernel_rfl) rfl (y_load rfl rfl (.own inferInstance inferInstance)) ?_
          refine to_y 4 rfl (by kernel_rfl) rfl (y_load rfl rfl (.own inferInstance inferInstance)) ?_
          refine to_p 5 rfl (by kernel_rfl) rfl (y_indexAddr (b := g) (o := o) (by rw [hsa]; rfl) rfl (by omega)) ?_
          refine to_y 6 rfl (by kernel_rfl) rfl (y_load rfl rfl (.at_ (hcell i.toNat _ hv1) (by omega))) ?_
          refine to_e 7 rfl (by kernel_rfl) rfl (e_call' rfl (bytesClone_spec hb1 (by omega)) ?_)
          rintro _ M4 L4 hM4 ⟨rfl, A2, c2, rfl, hA2⟩
          refine ⟨⟨(by first | exact Le.refl _ | assumption), Keeps.mem⟩, ?_⟩
          refine to_t 8 rfl (by kernel_rfl) (by kernel_rfl) rfl (e_store rfl rfl (by rfl) (by rfl) inferInstance inferInstance inferInstance ?_)
          refine to_t 9 rfl (by kernel_rfl) (by kernel_rfl) rfl (e_store rfl rfl (by rfl) (by rfl) inferInstance inferInstance inferInstance ?_)
          refine to_nil (by kernel_rfl) (.then_normal ?_)
          refine .sub (F' := [(4, _), (5, _)]) (.cons rfl (.cons rfl .nil)) ?_
          refine x_ret (.retM1 (r := r0) (L1 := dL p r S R) inferInstance (rv2 rfl (rc_cell (by rfl) rfl (.own inferInstance inferInstance)) (rc_cell (by rfl) rfl (.own inferInstance inferInstance))) inferInstance (hM3.trans hM4) (by
  rw [show readRes S i = (S.sure.getD i.toNat [], 0) by rw [readRes, if_neg (by simp [hc1]), if_pos hin, hlast]; rfl]
  exact ⟨rfl, _, _, _, rfl, hA2⟩))
        · refine ⟨lrec l .done (some .ret) fn tm lps las lbd r0 :: (r0, .deferred (some [])) :: (b3, .cells (List.toArray [.int .i64 0]) 28 (0, 0)) :: (b2, .cells (List.toArray [.slice A' 64 c']) 45 (0, 0)) :: (b1, .cells (List.toArray [.int .i64 i]) 3 (0, 0)) :: dL p r S R, by rw [hxs]; infer_instance, .done, some .ret, _, by simp, rfl, rfl, ?_⟩
          refine x_ret (.block_ret (.then_ret (.retM1 (r := r0) (L1 := dL p r S R) inferInstance (rv2 rfl (rc_cell (by rfl) rfl (.own inferInstance inferInstance)) (rc_cell (by rfl) rfl (.own inferInstance inferInstance))) inferInstance hM3 (by
  rw [show readRes S i = (b, 0) by rw [readRes, if_neg (by simp [hc1]), if_pos hin, hb]; rfl]
  exact ⟨rfl, _, _, _, rfl, hB⟩))))
end
end Go.Proofs.YtbgdjdhbejbhkaaDoor
set_option linter.unusedVariables false
set_option linter.unusedSimpArgs false
namespace Go.Proofs.YtbgdjdhbejbhkaaDoor
open Go Go.Eng
/-- The counts are within a bound. -/
def DS.within (S : DS) (B : Nat) : Prop := 0 ≤ S.count ∧ S.count ≤ B ∧ S.pend.length ≤ B
theorem within_fresh (n : Nat) : (fresh n).within 0 := ⟨by simp [fresh], by simp [fresh], by simp [fresh]⟩
theorem within_doing {S S2 : DS} {B : Nat} (h : S.within B) (h2 : S2.within (B + 1)) : (doingRes S S2).1.within (B + 1) := by
  obtain ⟨a, b, c⟩ := h
  unfold doingRes
  split
  · exact ⟨a, by show S.count ≤ _; omega, by show S.pend.length ≤ _; omega⟩
  · split
    · exact ⟨by show 0 ≤ S.count + 1; omega, by show S.count + 1 ≤ _; omega, by show S.pend.length ≤ _; omega⟩
    · split
      · exact ⟨by show 0 ≤ S.count + 1; omega, by show S.count + 1 ≤ _; omega, by show S.pend.length ≤ _; omega⟩
      · exact h2
theorem within_write {S : DS} {B : Nat} (h : S.within B) (i : Int) (bs : List UInt8) : (writeRes S i bs).1.within (B + 1) := by
  unfold writeRes
  obtain ⟨a, b, c⟩ := h
  split
  · exact ⟨a, by show S.count ≤ _; omega, by show S.pend.length ≤ _; omega⟩
  · exact within_doing ⟨a, b, c⟩ ⟨by show 0 ≤ S.count + 1; omega, by show S.count + 1 ≤ _; omega, by simp; omega⟩
theorem within_flush {S : DS} {B : Nat} (h : S.within B) : (flushRes S).1.within (B + 1) :=
  within_doing h ⟨by show 0 ≤ S.count + 1; have := h.1; omega, by show S.count + 1 ≤ _; have := h.2.1; omega, by simp [flushed]⟩
theorem within_up {S : DS} {B : Nat} (cs : List UInt8) (xs : List Int) (stop : Int) : (upped S cs xs stop).within B := ⟨by simp [upped], by simp [upped], by simp [upped]⟩
end Go.Proofs.YtbgdjdhbejbhkaaDoor
set_option linter.unusedVariables false
set_option linter.unusedSimpArgs false
namespace Go.Proofs.YtbgdjdhbejbhkaaDoor
open Go Go.Eng
/-- Two areas, and what counts. -/
structure SS where
  first : Nat
  n : Nat
  at_ : Nat
  num : UInt64
  b : List UInt8
def recH (num : UInt64) (b : List UInt8) : List UInt8 := putB num.toNat 8 ++ (putB b.length 4 ++ b)
def recB (n : Nat) (num : UInt64) (b : List UInt8) : List UInt8 := recH num b ++ ((sha (recH num b)).take 16 ++ List.replicate (64 * n - 28 - b.length) 0)
theorem recH_length (num : UInt64) (b : List UInt8) : (recH num b).length = 12 + b.length := by simp [recH, putB_length]; omega
theorem recB_length {n : Nat} {num : UInt64} {b : List UInt8} (h : b.length + 28 ≤ 64 * n) : (recB n num b).length = 64 * n := by
  simp [recB, recH_length, sha_length]; omega
def numOf (a : List UInt8) : Nat := getB (a.take 8)
def cntOf (a : List UInt8) : Nat := getB ((a.drop 8).take 4)
def datOf (a : List UInt8) : List UInt8 := (a.drop 12).take (cntOf a)
/-- The record that an area is; number 0: none. -/
def readRec (n : Nat) (a : List UInt8) : UInt64 × List UInt8 :=
  if numOf a = 0 ∨ 64 * n - 28 < cntOf a then (0, []) else if recB n (UInt64.ofNat (numOf a)) (datOf a) = a then (UInt64.ofNat (numOf a), datOf a) else (0, [])
/-- So many sectors from one on. -/
def areaB (S : DS) (at_ : Nat) : Nat → List UInt8
  | 0 => []
  | k + 1 => areaB S at_ k ++ (readRes S ((at_ + k : Nat) : Int)).1
def isBlank (b : List UInt8) : Bool := b.all (· == 0)
def loaded (s : SS) (one two : List UInt8) : SS × Int :=
  if (readRec s.n one).1.toNat < (readRec s.n two).1.toNat then ({ s with at_ := 1, num := (readRec s.n two).1, b := (readRec s.n two).2 }, 0)
  else ({ s with at_ := 0, num := (readRec s.n one).1, b := (readRec s.n one).2 }, if 0 < (readRec s.n one).1.toNat then 0 else if isBlank one = true ∨ isBlank two = true then 11 else 8)
def loadRes (S : DS) (s : SS) : SS × Int := if S.down then (s, 6) else loaded s (areaB S s.first s.n) (areaB S (s.first + s.n) s.n)
/-- So many sectors are written, unless it fails. -/
def saveGo (S : DS) (at_ : Nat) (all : List UInt8) : Nat → DS × Int
  | 0 => (S, 0)
  | k + 1 => if (saveGo S at_ all k).2 ≠ 0 then saveGo S at_ all k else writeRes (saveGo S at_ all k).1 ((at_ + k : Nat) : Int) ((all.drop (64 * k)).take 64)
def SS.to (s : SS) : Nat := if 0 < s.num.toNat then 1 - s.at_ else 0
def SS.saved (s : SS) (b : List UInt8) : SS := { s with at_ := s.to, num := s.num + 1, b := b }
def laid (S : DS) (s : SS) (b : List UInt8) : DS × Int := saveGo S (s.first + s.to * s.n) (recB s.n (s.num + 1) b) s.n
def saveRes (S : DS) (s : SS) (b : List UInt8) : (DS × SS) × Int :=
  if 64 * s.n - 28 < b.length then ((S, s), 1) else
  if (laid S s b).2 ≠ 0 then (((laid S s b).1, s), (laid S s b).2) else
  if (flushRes (laid S s b).1).2 ≠ 0 then (((flushRes (laid S s b).1).1, s), (flushRes (laid S s b).1).2) else (((flushRes (laid S s b).1).1, s.saved b), 0)
/-- There may be such slots on such a disk. -/
structure OkS (S : DS) (s : SS) : Prop where
  n : 1 ≤ s.n ∧ s.n ≤ 8
  in_ : s.first + 2 * s.n ≤ S.sure.length
  at_ : s.at_ ≤ 1
  b : s.b.length + 28 ≤ 64 * s.n
theorem doingRes_sure {S S2 : DS} {l : Nat} (h : S.sure.length = l) (h2 : S2.sure.length = l) : (doingRes S S2).1.sure.length = l := by
  unfold doingRes
  split
  · exact h
  · split
    · exact h
    · split
      · exact h
      · exact h2
theorem writeRes_sure (S : DS) (i : Int) (bs : List UInt8) : (writeRes S i bs).1.sure.length = S.sure.length := by
  unfold writeRes
  split
  · rfl
  · exact doingRes_sure rfl rfl
theorem flushRes_sure (S : DS) : (flushRes S).1.sure.length = S.sure.length := doingRes_sure rfl (by show (flushTo _ _).length = _; rw [flushTo_length])
theorem saveGo_sure (S : DS) (at_ : Nat) (all : List UInt8) : ∀ k, (saveGo S at_ all k).1.sure.length = S.sure.length
  | 0 => rfl
  | k + 1 => by
    unfold saveGo
    split
    · exact saveGo_sure S at_ all k
    · rw [writeRes_sure]; exact saveGo_sure S at_ all k
theorem saveGo_within {S : DS} {B : Nat} (h : S.within B) (at_ : Nat) (all : List UInt8) : ∀ k, (saveGo S at_ all k).1.within (B + k)
  | 0 => h
  | k + 1 => by
    have ih := saveGo_within h at_ all k
    unfold saveGo
    split
    · exact ⟨ih.1, by have := ih.2.1; omega, by have := ih.2.2; omega⟩
    · exact within_write ih _ _
theorem DS.within.mono {S : DS} {B B' : Nat} (h : S.within B) (hb : B ≤ B') : S.within B' := ⟨h.1, by have := h.2.1; omega, by have := h.2.2; omega⟩
theorem saveRes_sure (S : DS) (s : SS) (b : List UInt8) : (saveRes S s b).1.1.sure.length = S.sure.length := by
  unfold saveRes laid
  split
  · rfl
  · split
    · exact saveGo_sure _ _ _ _
    · split
      · rw [flushRes_sure]; exact saveGo_sure _ _ _ _
      · show (flushRes _).1.sure.length = _
        rw [flushRes_sure]; exact saveGo_sure _ _ _ _
theorem saveRes_within {S : DS} {B : Nat} (h : S.within B) {s : SS} (hn : s.n ≤ 8) (b : List UInt8) : (saveRes S s b).1.1.within (B + 9) := by
  have h1 := fun k => saveGo_within h (s.first + s.to * s.n) (recB s.n (s.num + 1) b) k
  unfold saveRes laid
  split
  · exact h.mono (by omega)
  · split
    · exact (h1 _).mono (by omega)
    · split
      · exact (within_flush (h1 _)).mono (by omega)
      · exact (within_flush (h1 _)).mono (by omega)
theorem to_le (s : SS) : s.to ≤ 1 ∨ 1 < s.at_ := by unfold SS.to; split <;> omega
theorem saveRes_ok {S : DS} {s : SS} (h : OkS S s) (b : List UInt8) : OkS (saveRes S s b).1.1 (saveRes S s b).1.2 := by
  have hs := saveRes_sure S s b
  have hto := to_le s
  have key : ∀ s', (saveRes S s b).1.2 = s' → OkS S s' → OkS (saveRes S s b).1.1 (saveRes S s b).1.2 := fun s' e o => e ▸ ⟨o.n, by rw [hs]; exact o.in_, o.at_, o.b⟩
  by_cases hb : 64 * s.n - 28 < b.length
  · exact key s (by unfold saveRes; rw [if_pos hb]) h
  · by_cases h1 : (laid S s b).2 ≠ 0
    · exact key s (by unfold saveRes; rw [if_neg hb, if_pos h1]) h
    · by_cases h2 : (flushRes (laid S s b).1).2 ≠ 0
      · exact key s (by unfold saveRes; rw [if_neg hb, if_neg h1, if_pos h2]) h
      · refine key (s.saved b) (by unfold saveRes; rw [if_neg hb, if_neg h1, if_neg h2]) ⟨h.n, h.in_, ?_, ?_⟩
        · have := h.at_; show s.to ≤ 1; omega
        · have := h.n; show b.length + 28 ≤ 64 * s.n; omega
theorem readRec_len (n : Nat) (hn : 1 ≤ n) (a : List UInt8) : (readRec n a).2.length + 28 ≤ 64 * n := by
  unfold readRec
  split
  · simp; omega
  · rename_i h
    split
    · simp only [datOf, List.length_take]; omega
    · simp; omega
theorem loadRes_ok {S : DS} {s : SS} (h : OkS S s) : OkS S (loadRes S s).1 := by
  have hn := h.n
  have hl := fun a => readRec_len s.n hn.1 a
  unfold loadRes
  split
  · exact h
  · unfold loaded
    split
    · exact ⟨h.n, h.in_, Nat.le_refl _, hl _⟩
    · exact ⟨h.n, h.in_, Nat.zero_le _, hl _⟩
theorem readRes_len {S : DS} (hd : S.down = false) (sl : ∀ b ∈ S.sure, b.length = 64) (pl : ∀ q ∈ S.pend, q.2.length = 64 ∧ 0 ≤ q.1 ∧ q.1 < S.sure.length) {i : Nat} (hi : i < S.sure.length) : (readRes S (i : Int)).2 = 0 ∧ (readRes S (i : Int)).1.length = 64 := by
  have hin : (0 : Int) ≤ (i : Int) ∧ (i : Int) < S.sure.length := by omega
  rw [show readRes S (i : Int) = ((lastW (i : Int) S.pend).getD (S.sure.getD i []), 0) by rw [readRes, if_neg (by simp [hd]), if_pos hin]; rfl]
  refine ⟨rfl, ?_⟩
  have hmem : ∀ ps : List (Int × List UInt8), (∀ q ∈ ps, q.2.length = 64) → ((lastW (i : Int) ps).getD (S.sure.getD i [])).length = 64 := fun ps => by
    induction ps with
    | nil => intro _; exact sl _ (getD_mem _ _ _ hi)
    | cons a ps ih =>
      intro hq
      simp only [lastW]
      have ih := ih (fun q hq' => hq q (List.mem_cons_of_mem _ hq'))
      cases hx : lastW (i : Int) ps with
      | some b' => rw [hx] at ih; exact ih
      | none =>
        rw [hx] at ih
        simp only
        split
        · exact hq a List.mem_cons_self
        · exact ih
  exact hmem _ (fun q hq => (pl q hq).1)
theorem areaB_length {S : DS} (hd : S.down = false) (sl : ∀ b ∈ S.sure, b.length = 64) (pl : ∀ q ∈ S.pend, q.2.length = 64 ∧ 0 ≤ q.1 ∧ q.1 < S.sure.length) {at_ : Nat} : ∀ k, at_ + k ≤ S.sure.length → (areaB S at_ k).length = 64 * k
  | 0, _ => rfl
  | k + 1, h => by
    rw [areaB, List.length_append, areaB_length hd sl pl k (by omega), (readRes_len hd sl pl (by omega)).2]; omega
end Go.Proofs.YtbgdjdhbejbhkaaDoor
set_option linter.unusedVariables false
set_option linter.unusedSimpArgs false
namespace Go.Proofs.YtbgdjdhbejbhkaaDoor
open Go Go.Eng
/-- Nothing fails, nothing is pending. -/
structure DS.calm (S : DS) : Prop where
  down : S.down = false
  fail : S.fail = []
  stop : S.stop = 0
  pend : S.pend = []
  count : 0 ≤ S.count
  len : ∀ b ∈ S.sure, b.length = 64
theorem calm_fresh (n : Nat) : (fresh n).calm := ⟨rfl, rfl, rfl, rfl, by simp [fresh], fun b hb => by rw [(List.mem_replicate.1 hb).2]; simp [zeros]⟩
def chunk (all : List UInt8) (k : Nat) : List UInt8 := (all.drop (64 * k)).take 64
/-- What is pending behind so many written sectors. -/
def pendOf (at_ : Nat) (all : List UInt8) : Nat → List (Int × List UInt8)
  | 0 => []
  | k + 1 => pendOf at_ all k ++ [(((at_ + k : Nat) : Int), chunk all k)]
def setSecs (s : List (List UInt8)) (at_ : Nat) (all : List UInt8) : Nat → List (List UInt8)
  | 0 => s
  | k + 1 => (setSecs s at_ all k).set (at_ + k) (chunk all k)
theorem setSecs_length (s : List (List UInt8)) (at_ : Nat) (all : List UInt8) : ∀ k, (setSecs s at_ all k).length = s.length
  | 0 => rfl
  | k + 1 => by simp [setSecs, setSecs_length s at_ all k]
theorem setSecs_get (s : List (List UInt8)) (at_ : Nat) (all : List UInt8) : ∀ k i, at_ + k ≤ s.length → (setSecs s at_ all k).getD i [] = if at_ ≤ i ∧ i < at_ + k then chunk all (i - at_) else s.getD i []
  | 0, i, _ => by rw [if_neg (by omega)]; rfl
  | k + 1, i, h => by
    have ih := setSecs_get s at_ all k i (by omega)
    rw [List.getD_eq_getElem?_getD] at ih ⊢
    rw [setSecs, List.getElem?_set]
    by_cases hi : at_ + k = i
    · subst hi
      rw [if_pos rfl, if_pos (by rw [setSecs_length]; omega), if_pos (by omega)]
      simp
    · rw [if_neg hi, ih]
      by_cases hc : at_ ≤ i ∧ i < at_ + k
      · rw [if_pos hc, if_pos (by omega)]
      · rw [if_neg hc, if_neg (by omega)]
theorem flush_pendOf (s : List (List UInt8)) (at_ : Nat) (all : List UInt8) : ∀ k, flushTo s (pendOf at_ all k) = setSecs s at_ all k
  | 0 => rfl
  | k + 1 => by rw [pendOf, flushTo_snoc, flush_pendOf s at_ all k, setSecs, Int.toNat_natCast]
theorem chunk_length {all : List UInt8} {n k : Nat} (h : all.length = 64 * n) (hk : k < n) : (chunk all k).length = 64 := by
  rw [chunk, List.length_take, List.length_drop]; omega
theorem saveGo_calm {S : DS} (h : S.calm) {at_ n : Nat} {all : List UInt8} (ha : all.length = 64 * n) (hb : at_ + n ≤ S.sure.length) : ∀ k, k ≤ n → saveGo S at_ all k = ({ S with pend := pendOf at_ all k, count := S.count + k }, 0)
  | 0, _ => by
    have := h.pend
    cases S
    simp_all [saveGo, pendOf]
  | k + 1, hk => by
    have ih := saveGo_calm h ha hb k (by omega)
    have hc := chunk_length ha (show k < n by omega)
    have h1 := h.down
    have h2 := h.fail
    have h3 := h.stop
    have h4 := h.count
    rw [saveGo, ih, if_neg (by simp)]
    show writeRes _ _ (chunk all k) = _
    rw [writeRes, if_neg (by rw [hc]; simp; omega), doingRes, if_neg (by simp [h1]), if_neg (by simp only [h3]; omega), if_neg (by simp [h2])]
    simp only [added, pendOf]
    rw [Int.add_assoc]
    rfl
theorem flush_calm {S : DS} {ps : List (Int × List UInt8)} {c : Int} (h1 : S.down = false) (h2 : S.fail = []) (h3 : S.stop = 0) (hc : 0 ≤ c) : flushRes { S with pend := ps, count := c } = ({ S with sure := flushTo S.sure ps, pend := [], count := c + 1 }, 0) := by
  rw [flushRes, doingRes, if_neg (by simp [h1]), if_neg (by simp only [h3]; omega), if_neg (by simp [h2])]
/-- The disk behind a save that comes to be. -/
def savedD (S : DS) (s : SS) (b : List UInt8) : DS := { S with sure := setSecs S.sure (s.first + s.to * s.n) (recB s.n (s.num + 1) b) s.n, pend := [], count := S.count + s.n + 1 }
theorem save_calm {S : DS} {s : SS} (h : S.calm) (ok : OkS S s) {b : List UInt8} (hb : b.length + 28 ≤ 64 * s.n) : saveRes S s b = ((savedD S s b, s.saved b), 0) := by
  have hn := ok.n
  have hin := ok.in_
  have hto := to_le s
  have hat := ok.at_
  have hq := Nat.mul_le_mul_right s.n (show s.to ≤ 1 by omega)
  have hgo := saveGo_calm h (at_ := s.first + s.to * s.n) (recB_length (num := s.num + 1) hb) (by omega) s.n (Nat.le_refl _)
  have hfl := flush_calm (ps := pendOf (s.first + s.to * s.n) (recB s.n (s.num + 1) b) s.n) (c := S.count + s.n) h.down h.fail h.stop (by have := h.count; omega)
  rw [saveRes, if_neg (by omega), laid, hgo, if_neg (by simp), hfl, if_neg (by simp), flush_pendOf]
  rfl
theorem calm_saved {S : DS} {s : SS} (h : S.calm) (ok : OkS S s) {b : List UInt8} (hb : b.length + 28 ≤ 64 * s.n) : (savedD S s b).calm := by
  refine ⟨h.down, h.fail, h.stop, rfl, by have := h.count; show 0 ≤ S.count + s.n + 1; omega, ?_⟩
  have hl := recB_length (num := s.num + 1) hb
  have hn := ok.n
  show ∀ x ∈ setSecs S.sure _ _ s.n, _
  have key : ∀ k, k ≤ s.n → ∀ x ∈ setSecs S.sure (s.first + s.to * s.n) (recB s.n (s.num + 1) b) k, x.length = 64 := fun k => by
    induction k with
    | zero => exact fun _ => h.len
    | succ k ih =>
      intro hk x hx
      rcases List.mem_or_eq_of_mem_set hx with hx | rfl
      · exact ih (by omega) x hx
      · exact chunk_length hl (by omega)
  exact key s.n (Nat.le_refl _)
theorem read_calm {S : DS} (h : S.calm) {i : Nat} (hi : i < S.sure.length) : readRes S (i : Int) = (S.sure.getD i [], 0) := by
  rw [readRes, if_neg (by simp [h.down]), if_pos (by omega), h.pend]
  rfl
theorem area_calm {S : DS} (h : S.calm) {at_ : Nat} : ∀ k, at_ + k ≤ S.sure.length → areaB S at_ k = ((List.range k).flatMap fun j => S.sure.getD (at_ + j) [])
  | 0, _ => rfl
  | k + 1, hk => by rw [areaB, area_calm h k (by omega), read_calm h (by omega), List.range_succ]; simp
theorem chunks_all (all : List UInt8) : ∀ k, ((List.range k).flatMap fun j => chunk all j) = all.take (64 * k)
  | 0 => by simp
  | k + 1 => by
    rw [List.range_succ, List.flatMap_append, chunks_all all k]
    simp only [List.flatMap_cons, List.flatMap_nil, List.append_nil, chunk]
    rw [show 64 * (k + 1) = 64 * k + 64 by omega, List.take_add]
theorem flatMap_congr' {α β : Type} {f g : α → List β} : ∀ (l : List α), (∀ a ∈ l, f a = g a) → l.flatMap f = l.flatMap g
  | [], _ => rfl
  | a :: l, h => by rw [List.flatMap_cons, List.flatMap_cons, h a List.mem_cons_self, flatMap_congr' l fun x hx => h x (List.mem_cons_of_mem _ hx)]
/-- The area that was written. -/
theorem area_saved {S : DS} {s : SS} (h : S.calm) (ok : OkS S s) {b : List UInt8} (hb : b.length + 28 ≤ 64 * s.n) : areaB (savedD S s b) (s.first + s.to * s.n) s.n = recB s.n (s.num + 1) b := by
  have hn := ok.n
  have hin := ok.in_
  have hto := to_le s
  have hat := ok.at_
  have hq := Nat.mul_le_mul_right s.n (show s.to ≤ 1 by omega)
  have hsl : (savedD S s b).sure.length = S.sure.length := setSecs_length _ _ _ _
  have hl := recB_length (num := s.num + 1) hb
  rw [area_calm (calm_saved h ok hb) _ (by omega)]
  have : ((List.range s.n).flatMap fun j => (savedD S s b).sure.getD (s.first + s.to * s.n + j) []) = ((List.range s.n).flatMap fun j => chunk (recB s.n (s.num + 1) b) j) := flatMap_congr' _ fun j hj => by
    have := List.mem_range.1 hj
    show (setSecs S.sure _ _ s.n).getD _ [] = _
    rw [setSecs_get _ _ _ _ _ (by omega), if_pos (by omega), Nat.add_sub_cancel_left]
  rw [this, chunks_all, List.take_of_length_le (by omega)]
/-- Another area. -/
theorem area_other {S : DS} {s : SS} (h : S.calm) (ok : OkS S s) {b : List UInt8} (hb : b.length + 28 ≤ 64 * s.n) {a : Nat} (ha : a + s.n ≤ S.sure.length) (hd : a + s.n ≤ s.first + s.to * s.n ∨ s.first + s.to * s.n + s.n ≤ a) : areaB (savedD S s b) a s.n = areaB S a s.n := by
  have hin := ok.in_
  have hto := to_le s
  have hat := ok.at_
  have hq := Nat.mul_le_mul_right s.n (show s.to ≤ 1 by omega)
  have hsl : (savedD S s b).sure.length = S.sure.length := setSecs_length _ _ _ _
  rw [area_calm (calm_saved h ok hb) _ (by omega), area_calm h _ ha]
  refine flatMap_congr' _ fun j hj => ?_
  have := List.mem_range.1 hj
  show (setSecs S.sure _ _ s.n).getD _ [] = _
  rw [setSecs_get _ _ _ _ _ (by omega), if_neg (by omega)]
/-- A record is read as it was laid. -/
theorem readRec_recB {n : Nat} {num : UInt64} {b : List UInt8} (hn : n ≤ 8) (h0 : num ≠ 0) (hb : b.length + 28 ≤ 64 * n) : readRec n (recB n num b) = (num, b) := by
  have hlt := num.toNat_lt
  have e1 : numOf (recB n num b) = num.toNat := by
    rw [numOf, recB, recH, List.append_assoc, List.take_append_of_le_length (by rw [putB_length]; omega), List.take_of_length_le (by rw [putB_length]; omega), getB_put]
    omega
  have e2 : cntOf (recB n num b) = b.length := by
    have hd : (recB n num b).drop 8 = putB b.length 4 ++ (b ++ ((sha (recH num b)).take 16 ++ List.replicate (64 * n - 28 - b.length) 0)) := by
      rw [recB, show recH num b = putB num.toNat 8 ++ (putB b.length 4 ++ b) from rfl, List.append_assoc, List.drop_append, List.drop_of_length_le (by rw [putB_length]; omega), putB_length]
      simp
    rw [cntOf, hd, List.take_append_of_le_length (by rw [putB_length]; omega), List.take_of_length_le (by rw [putB_length]; omega), getB_put]
    omega
  have e3 : datOf (recB n num b) = b := by
    have hd : (recB n num b).drop 12 = b ++ ((sha (recH num b)).take 16 ++ List.replicate (64 * n - 28 - b.length) 0) := by
      rw [recB, List.drop_append_of_le_length (by rw [recH_length]; omega), show recH num b = (putB num.toNat 8 ++ putB b.length 4) ++ b by rw [recH, List.append_assoc], List.drop_append, List.drop_of_length_le (by simp [putB_length])]
      simp [putB_length]
    rw [datOf, e2, hd, List.take_append_of_le_length (Nat.le_refl _), List.take_of_length_le (Nat.le_refl _)]
  have hne : num.toNat ≠ 0 := fun h => h0 (UInt64.toNat_inj.1 (by simpa using h))
  rw [readRec, e1, e2, if_neg (by omega), e3]
  simp
/-- What is known is what the disk bears; the other area's number is less. -/
structure Bears (S : DS) (s : SS) : Prop where
  calm : S.calm
  ok : OkS S s
  zero : s.num = 0 → s.at_ = 0 ∧ s.b = [] ∧ (readRec s.n (areaB S s.first s.n)).1 = 0 ∧ (readRec s.n (areaB S (s.first + s.n) s.n)).1 = 0
  own : s.num ≠ 0 → readRec s.n (areaB S (s.first + s.at_ * s.n) s.n) = (s.num, s.b) ∧ (readRec s.n (areaB S (s.first + (1 - s.at_) * s.n) s.n)).1.toNat < s.num.toNat
theorem to_next (s : SS) (h : s.at_ ≤ 1) (h0 : s.num ≠ 0) : s.to = 1 - s.at_ := by
  have : s.num.toNat ≠ 0 := fun e => h0 (UInt64.toNat_inj.1 (by simpa using e))
  rw [SS.to, if_pos (by omega)]
theorem Bears.save {S : DS} {s : SS} (h : Bears S s) {b : List UInt8} (hb : b.length + 28 ≤ 64 * s.n) (hov : s.num.toNat < 18446744073709551615) : Bears (savedD S s b) (s.saved b) := by
  have hn := h.ok.n
  have hin := h.ok.in_
  have hat := h.ok.at_
  have hto := to_le s
  have hnum : (s.num + 1).toNat = s.num.toNat + 1 := by rw [UInt64.toNat_add]; simp; omega
  have hnz : s.num + 1 ≠ 0 := fun e => by rw [e] at hnum; simp at hnum
  have ha := area_saved h.calm h.ok hb
  have hok := saveRes_ok h.ok b
  rw [save_calm h.calm h.ok hb] at hok
  refine ⟨calm_saved h.calm h.ok hb, hok, fun e => absurd e hnz, fun _ => ⟨?_, ?_⟩⟩
  · show readRec s.n (areaB (savedD S s b) (s.first + s.to * s.n) s.n) = _
    rw [ha, readRec_recB hn.2 hnz hb]
    rfl
  · show (readRec s.n (areaB (savedD S s b) (s.first + (1 - s.to) * s.n) s.n)).1.toNat < (s.num + 1).toNat
    have hot : areaB (savedD S s b) (s.first + (1 - s.to) * s.n) s.n = areaB S (s.first + (1 - s.to) * s.n) s.n := by
      have : s.to = 0 ∨ s.to = 1 := by omega
      rcases this with e | e
      · exact area_other h.calm h.ok hb (by rw [e]; omega) (by rw [e]; omega)
      · exact area_other h.calm h.ok hb (by rw [e]; omega) (by rw [e]; omega)
    rw [hot, hnum]
    by_cases h0 : s.num = 0
    · obtain ⟨_, _, _, z2⟩ := h.zero h0
      have e : s.to = 0 := by rw [SS.to, h0]; rfl
      rw [e, show s.first + (1 - 0) * s.n = s.first + s.n by omega, z2, h0]
      decide
    · have e := to_next s hat h0
      rw [e, show 1 - (1 - s.at_) = s.at_ by omega, (h.own h0).1]
      show s.num.toNat < _
      omega
/-- What is loaded is what is known. -/
theorem Bears.load {S : DS} {s t : SS} (h : Bears S s) (h0 : s.num ≠ 0) (hf : t.first = s.first) (hn : t.n = s.n) : loadRes S t = ({ t with at_ := s.at_, num := s.num, b := s.b }, 0) := by
  have hat := h.ok.at_
  obtain ⟨h1, h2⟩ := h.own h0
  have hpos : 0 < s.num.toNat := Nat.pos_of_ne_zero fun e => h0 (UInt64.toNat_inj.1 (by simpa using e))
  rw [loadRes, if_neg (by simp [h.calm.down]), loaded, hf, hn]
  have : s.at_ = 0 ∨ s.at_ = 1 := by omega
  rcases this with e | e
  · rw [e] at h1 h2
    rw [show s.first + 0 * s.n = s.first by omega] at h1
    rw [show s.first + (1 - 0) * s.n = s.first + s.n by omega] at h2
    rw [h1, if_neg (by show ¬ s.num.toNat < _; omega), if_pos hpos, e]
  · rw [e] at h1 h2
    rw [show s.first + 1 * s.n = s.first + s.n by omega] at h1
    rw [show s.first + (1 - 1) * s.n = s.first by omega] at h2
    rw [h1, if_pos h2, e]
theorem area_zeros {S : DS} (h : S.calm) {a : Nat} : ∀ n, a + n ≤ S.sure.length → (∀ j, j < n → S.sure.getD (a + j) [] = zeros) → areaB S a n = List.replicate (64 * n) 0
  | 0, _, _ => rfl
  | n + 1, hl, hz => by
    rw [areaB, area_zeros h n (by omega) (fun j hj => hz j (by omega)), read_calm h (by omega), hz n (by omega), zeros, List.replicate_append_replicate, show 64 * n + 64 = 64 * (n + 1) by omega]
theorem getB_zeros : ∀ n, getB (List.replicate n 0) = 0
  | 0 => rfl
  | n + 1 => by rw [List.replicate_succ', getB_snoc, getB_zeros n]; rfl
theorem readRec_zeros (n m : Nat) : readRec n (List.replicate m 0) = (0, []) := by
  rw [readRec, if_pos (.inl (by rw [numOf, List.take_replicate, getB_zeros]))]
theorem bears_fresh {first n k : Nat} (hn : 1 ≤ n ∧ n ≤ 8) (hk : first + 2 * n ≤ k) : Bears (fresh k) ⟨first, n, 0, 0, []⟩ := by
  have hl : (fresh k).sure.length = k := by simp [fresh]
  have hz : ∀ a, a + n ≤ k → areaB (fresh k) a n = List.replicate (64 * n) 0 := fun a ha => area_zeros (calm_fresh k) n (by omega) (fun j hj => by simp [fresh, List.getD_eq_getElem?_getD, show a + j < k by omega])
  refine ⟨calm_fresh k, ⟨hn, by rw [hl]; exact hk, Nat.zero_le _, by show 0 + 28 ≤ 64 * n; omega⟩, fun _ => ⟨rfl, rfl, ?_, ?_⟩, fun h => absurd rfl h⟩
  · show (readRec n (areaB (fresh k) first n)).1 = 0
    rw [hz _ (by omega), readRec_zeros]
  · show (readRec n (areaB (fresh k) (first + n) n)).1 = 0
    rw [hz _ (by omega), readRec_zeros]
end Go.Proofs.YtbgdjdhbejbhkaaDoor
set_option linter.unusedVariables false
set_option linter.unusedSimpArgs false
namespace Go.Proofs.YtbgdjdhbejbhkaaDoor
open Go Go.Eng
/-- A counter. -/
structure Cn where
  total : UInt64
  batch : UInt64
  reserved : UInt64
  next : UInt64
  retired : Bool
theorem Cn.ext_iff (a b : Cn) : (a.total = b.total ∧ a.batch = b.batch ∧ a.reserved = b.reserved ∧ a.next = b.next ∧ a.retired = b.retired) ↔ a = b := by
  constructor
  · rintro ⟨h1, h2, h3, h4, h5⟩
    cases a; cases b; simp_all
  · rintro rfl; exact ⟨rfl, rfl, rfl, rfl, rfl⟩
instance : DecidableEq Cn := fun a b => decidable_of_iff _ (Cn.ext_iff a b)
abbrev ccells (x : Cn) : List Value := [.int .u64 (x.total.toNat : Int), .int .u64 (x.batch.toNat : Int), .int .u64 (x.reserved.toNat : Int), .int .u64 (x.next.toNat : Int), .bool x.retired]
def zeroC : Cn := ⟨0, 0, 0, 0, false⟩
def mayB (x : Cn) (l : Nat) : Bool := decide (1 ≤ x.total.toNat ∧ x.total.toNat ≤ 1152921504606846976 ∧ 1 ≤ x.batch.toNat ∧ x.batch.toNat ≤ 65536 ∧ x.reserved.toNat ≤ x.total.toNat ∧ l ≤ 200)
def bytesC (x : Cn) (head : List UInt8) : List UInt8 := putB x.total.toNat 8 ++ (putB x.batch.toNat 8 ++ (putB x.reserved.toNat 8 ++ ((if x.retired then 1 else 0) :: head)))
theorem bytesC_length (x : Cn) (head : List UInt8) : (bytesC x head).length = 25 + head.length := by simp [bytesC, putB_length]; omega
def xOf (b : List UInt8) : Cn := ⟨UInt64.ofNat (getB (b.take 8)), UInt64.ofNat (getB ((b.drop 8).take 8)), UInt64.ofNat (getB ((b.drop 16).take 8)), UInt64.ofNat (getB ((b.drop 16).take 8)), b.getD 24 0 == 1⟩
def readC (b : List UInt8) : (Cn × List UInt8) × Int :=
  if b.length < 25 then ((zeroC, []), 2) else if 1 < (b.getD 24 0).toNat ∨ mayB (xOf b) (b.length - 25) = false then ((zeroC, []), 3) else ((xOf b, b.drop 25), 0)
/-- Another state is saved. -/
def saveC (S : DS) (s : SS) (x x' : Cn) (head : List UInt8) : ((DS × SS) × Cn) × Int :=
  if x' = x then (((S, s), x), 0) else if mayB x' head.length = false then (((S, s), x), 1) else
  if (saveRes S s (bytesC x' head)).2 ≠ 0 then (((saveRes S s (bytesC x' head)).1, x), (saveRes S s (bytesC x' head)).2) else (((saveRes S s (bytesC x' head)).1, x'), 0)
def newX (total batch : UInt64) : Cn := ⟨total, batch, 0, 0, false⟩
/-- A counter is made. -/
def newC (S : DS) (s : SS) (head : List UInt8) (total batch : UInt64) : (DS × SS) × Int :=
  if mayB (newX total batch) head.length = false then ((S, s), 1) else
  if (loadRes S s).2 = 0 then ((S, (loadRes S s).1), 10) else if (loadRes S s).2 = 11 then saveRes S (loadRes S s).1 (bytesC (newX total batch) head) else ((S, (loadRes S s).1), (loadRes S s).2)
def openC (S : DS) (s : SS) : (Cn × List UInt8) × Int := if (loadRes S s).2 ≠ 0 then ((zeroC, []), (loadRes S s).2) else readC (loadRes S s).1.b
def moreC (x : Cn) : Cn := { x with reserved := if x.total.toNat < (x.reserved + x.batch).toNat then x.total else x.reserved + x.batch }
def nextC' (x : Cn) : Cn := { x with next := x.next + 1 }
def takeC (S : DS) (s : SS) (x : Cn) (head : List UInt8) : ((DS × SS) × Cn) × (UInt64 × Int) :=
  if x.retired then (((S, s), x), (0, 13)) else if x.next = x.total then (((S, s), x), (0, 9)) else
  if x.next = x.reserved then
    if (saveC S s x (moreC x) head).2 ≠ 0 then ((saveC S s x (moreC x) head).1, (0, (saveC S s x (moreC x) head).2))
    else (((saveC S s x (moreC x) head).1.1, nextC' (saveC S s x (moreC x) head).1.2), ((nextC' (saveC S s x (moreC x) head).1.2).next - 1, 0))
  else (((S, s), nextC' x), ((nextC' x).next - 1, 0))
def retireC (S : DS) (s : SS) (x : Cn) (head : List UInt8) : ((DS × SS) × Cn) × Int := saveC S s x { x with retired := true } head
theorem xOf_bytes (x : Cn) (head : List UInt8) : xOf (bytesC x head) = { x with next := x.reserved } := by
  have e1 : (bytesC x head).take 8 = putB x.total.toNat 8 := by
    rw [bytesC, List.take_append_of_le_length (by rw [putB_length]; omega), List.take_of_length_le (by rw [putB_length]; omega)]
  have d1 : (bytesC x head).drop 8 = putB x.batch.toNat 8 ++ (putB x.reserved.toNat 8 ++ ((if x.retired then 1 else 0) :: head)) := by
    rw [bytesC, List.drop_append, List.drop_of_length_le (by rw [putB_length]; omega), putB_length]; rfl
  have d2 : (bytesC x head).drop 16 = putB x.reserved.toNat 8 ++ ((if x.retired then 1 else 0) :: head) := by
    rw [show 16 = 8 + 8 from rfl, ← List.drop_drop, d1, List.drop_append, List.drop_of_length_le (by rw [putB_length]; omega), putB_length]; rfl
  have d3 : (bytesC x head).drop 24 = (if x.retired then 1 else 0) :: head := by
    rw [show 24 = 16 + 8 from rfl, ← List.drop_drop, d2, List.drop_append, List.drop_of_length_le (by rw [putB_length]; omega), putB_length]; rfl
  have e2 : ((bytesC x head).drop 8).take 8 = putB x.batch.toNat 8 := by
    rw [d1, List.take_append_of_le_length (by rw [putB_length]; omega), List.take_of_length_le (by rw [putB_length]; omega)]
  have e3 : ((bytesC x head).drop 16).take 8 = putB x.reserved.toNat 8 := by
    rw [d2, List.take_append_of_le_length (by rw [putB_length]; omega), List.take_of_length_le (by rw [putB_length]; omega)]
  have e4 : (bytesC x head).getD 24 0 = if x.retired then 1 else 0 := by
    have := congrArg List.head? d3
    rw [List.head?_drop] at this
    rw [List.getD_eq_getElem?_getD, this]; rfl
  have h8 : ∀ v : UInt64, UInt64.ofNat (getB (putB v.toNat 8)) = v := fun v => by
    have := v.toNat_lt
    rw [getB_put, Nat.mod_eq_of_lt (by omega)]; simp
  unfold xOf
  rw [e1, e2, e3, e4, h8, h8, h8]
  cases x with
  | mk a b c d e => cases e <;> rfl
theorem drop25_bytes (x : Cn) (head : List UInt8) : (bytesC x head).drop 25 = head := by
  have : bytesC x head = (putB x.total.toNat 8 ++ (putB x.batch.toNat 8 ++ (putB x.reserved.toNat 8 ++ [if x.retired then 1 else 0]))) ++ head := by simp [bytesC]
  rw [this, List.drop_append, List.drop_of_length_le (by simp [putB_length])]
  simp [putB_length]
theorem flag_bytes (x : Cn) (head : List UInt8) : (bytesC x head).getD 24 0 = if x.retired then 1 else 0 := by
  have := congrArg Cn.retired (xOf_bytes x head)
  have h2 : bytesC x head = (putB x.total.toNat 8 ++ (putB x.batch.toNat 8 ++ putB x.reserved.toNat 8)) ++ ((if x.retired then 1 else 0) :: head) := by simp [bytesC]
  rw [h2, List.getD_eq_getElem?_getD, List.getElem?_append_right (by simp [putB_length])]
  simp [putB_length]
/-- What is written is read. -/
theorem readC_bytesC {x : Cn} {head : List UInt8} (h : mayB x head.length = true) : readC (bytesC x head) = (({ x with next := x.reserved }, head), 0) := by
  have hl := bytesC_length x head
  have hm : mayB (xOf (bytesC x head)) ((bytesC x head).length - 25) = true := by
    rw [xOf_bytes, hl, show 25 + head.length - 25 = head.length by omega]; exact h
  rw [readC, if_neg (by omega), if_neg (by rw [flag_bytes, hm]; cases x.retired <;> simp), xOf_bytes, drop25_bytes]
end Go.Proofs.YtbgdjdhbejbhkaaDoor
set_option linter.unusedVariables false
set_option linter.unusedSimpArgs false
namespace Go.Proofs.YtbgdjdhbejbhkaaDoor
open Go Go.Eng
section
variable {G : World} {M : Mem} {L R : Own}
abbrev scells (d : Nat) (s : SS) (A : Option Addr) (l c : Nat) : List Value := [.pointer (some ⟨d, 0, none⟩), .int .i64 s.first, .int .i64 s.n, .int .i64 s.at_, .int .u64 (s.num.toNat : Int), .slice A l c]
abbrev sL (p d : Nat) (s : SS) (A : Option Addr) (l c : Nat) : Nat × Obj := (p, .cells (List.toArray (scells d s A l c)) 138 (0, 0))
def wrongv (e : Int) : Value := .iface 182 (.agg #[.int .i64 e])
def wrongs (e : Int) : List PanicEntry := [{ v := wrongv e, recovered := false }]
theorem well_spec (e : Int) :
    Con Tryd.prog 77 #[.int .i64 e] G M L (fun v M' L' => M = M' ∧ L = L' ∧ e = 0) (fun ch M' L' => M = M' ∧ L = L' ∧ ch = wrongs e ∧ e ≠ 0) := by
  refine enter (args := [_]) (fn := Tryd.f77) ⟨Tryd.func77, rfl, by kernel_rfl, by kernel_rfl⟩ 7 rfl ?_
  refine x_seq (x_region ?_)
  refine tl_y rfl (y_move (v := .int _ _) rfl) ?_
  refine tl_y rfl (y_neq rfl rfl) ?_
  refine tl_nil (.then_normal ?_)
  refine x_cond rfl (fun hc1 => ?_) (fun hc1 => ?_)
  ·
    refine x_region ?_
    refine tl_y rfl (y_move (v := .int _ _) rfl) ?_
    refine tl_y rfl (y_build rfl) ?_
    refine tl_y rfl (y_makeIface rfl (by intro _ h; cases h)) ?_
    refine tl_e rfl (e_panic rfl (.ret (Le.refl _) ⟨rfl, rfl, rfl, hc1⟩))
  ·
    refine x_skip (end0 rfl (Le.refl _) ⟨rfl, rfl, by omega⟩)
theorem caught1_ret {b : Nat} {o : Obj} : ConD Tryd.prog 113 #[.pointer (some ⟨b, 0, none⟩)] .returning G M ((b, o) :: L) (fun u' M' L' => u' = .returning ∧ M' = M ∧ L' = (b, o) :: L) := by
  refine enterRec (args := [_]) (fn := Tryd.f113) ⟨Tryd.func113, rfl, by kernel_rfl, by kernel_rfl⟩ 12 rfl rfl ?_
  refine x_block ?_
  refine x_seq (x_region ?_)
  refine tl_y rfl (y_eqNilIface rfl rfl) ?_
  refine tl_nil (.then_normal ?_)
  refine x_true rfl (rfl) ?_
  refine x_region ?_
  refine tl_y rfl (y_assign rfl) ?_
  refine tl_nil (.block_normal (.rec_normal (Le.refl _) ⟨rfl, rfl, rfl⟩))
theorem caught1_wrong {b : Nat} {x e : Int} : ConD Tryd.prog 113 #[.pointer (some ⟨b, 0, none⟩)] (.panicking (wrongs e)) G M ((b, .cells (List.toArray [.int .i64 x]) 28 (0, 0)) :: L)
    (fun u' M' L' => u' = .panicking [{ v := wrongv e, recovered := true }] ∧ M' = M ∧ L' = (b, .cells (List.toArray [.int .i64 e]) 28 (0, 0)) :: L) := by
  refine enterRec (args := [_]) (fn := Tryd.f113) ⟨Tryd.func113, rfl, by kernel_rfl, by kernel_rfl⟩ 12 rfl rfl ?_
  refine x_block ?_
  refine x_seq (x_region ?_)
  refine tl_y rfl (y_eqIfaceNil rfl rfl) ?_
  refine tl_nil (.then_normal ?_)
  refine x_false rfl (rfl) ?_
  refine x_seq (x_region ?_)
  refine tl_y rfl (y_assertOk rfl (by intro _ h; cases h)) ?_
  refine tl_y rfl (y_extract rfl) ?_
  refine tl_y rfl (y_extract rfl) ?_
  refine tl_nil (.then_normal ?_)
  refine x_true rfl (rfl) ?_
  refine x_seq (x_region ?_)
  refine tl_e rfl (e_alloc (fun b1 => ?_))
  refine tl_e rfl (e_store rfl rfl (by rfl) (by rfl) inferInstance inferInstance inferInstance ?_)
  refine tl_nil (.then_normal ?_)
  refine .sub (F' := [(0, _), (2, _)]) (.cons rfl (.cons rfl .nil)) ?_
  refine x_region ?_
  refine tl_y rfl (y_fieldAddr rfl) ?_
  refine tl_y rfl (y_load rfl rfl (.own inferInstance inferInstance)) ?_
  refine tl_e rfl (e_store rfl rfl (by rfl) (by rfl) inferInstance inferInstance inferInstance ?_)
  refine tl_nil (.block_normal (.dropTo ((b, .cells (List.toArray [.int .i64 e]) 28 (0, 0)) :: L) inferInstance (.rec_normal (Le.refl _) ⟨rfl, rfl, rfl⟩)))
theorem caught_spec {wf : FuncId} {first cap : List Value} {K : Mem → Own → Prop} {Kc : Int → Mem → Own → Prop}
    (hw : ∀ b o, Con Tryd.prog wf (first ++ [] ++ cap).toArray G M ((b, o) :: L) (fun v M' L' => ∃ L1, L' = (b, o) :: L1 ∧ K M' L1) (fun ch M' L' => ∃ e L1, ch = wrongs e ∧ L' = (b, o) :: L1 ∧ Kc e M' L1)) :
    Con Tryd.prog 74 #[.func (.func wf) first.toArray cap.toArray] G M L (fun v M' L' => (v = .int .i64 0 ∧ K M' L') ∨ (∃ e, v = .int .i64 e ∧ Kc e M' L')) noPanic := by
  refine enterD (args := [_]) (fn := Tryd.f74) ⟨Tryd.func74, rfl, by kernel_rfl, by kernel_rfl⟩ 6 rfl ?_
  refine x_seq (x_region ?_)
  refine tl_e rfl (e_alloc (fun b1 => ?_))
  refine tl_nil (.then_normal ?_)
  refine x_seq (x_region ?_)
  refine tl_y rfl (y_makeFunc rfl rfl) ?_
  refine tl_e rfl (e_defer rfl rfl rfl ?_)
  refine tl_nil (.then_normal ?_)
  refine x_seq (x_region ?_)
  refine tl_y rfl (y_move (v := .func _ _ _) rfl) ?_
  refine tl_e rfl (e_callv rfl rfl (hw b1 _) (by
  rintro _ M1 _ hM1 ⟨e, L1, rfl, rfl, hk⟩
  refine .retD (cap := [_]) (args := []) caught1_wrong ?_
  rintro _ M2 _ hM2 ⟨rfl, rfl, rfl⟩
  exact .inl ⟨rfl, _, L1, rv1 rfl (rc_cell (by rfl) rfl (.own inferInstance inferInstance)), inferInstance, hM1, .inr ⟨e, rfl, hk⟩⟩) ?_)
  rintro _ M1 _ hM1 ⟨L1, rfl, hk⟩
  refine tl_nil (.then_normal ?_)
  refine .sub (F' := [(2, _)]) (.cons rfl .nil) ?_
  refine x_seq (x_region ?_)
  refine tl_e rfl (e_store rfl rfl (by rfl) (by rfl) inferInstance inferInstance inferInstance ?_)
  refine tl_nil (.then_normal ?_)
  refine x_ret (.retD (cap := [_]) (args := []) caught1_ret ?_)
  rintro _ M2 _ hM2 ⟨rfl, rfl, rfl⟩
  exact .inl ⟨rfl, _, L1, rv1 rfl (rc_cell (by rfl) rfl (.own inferInstance inferInstance)), inferInstance, hM1, .inl ⟨rfl, hk⟩⟩
theorem Room_spec (n : Int) :
    Con Tryd.prog 24 #[.int .i64 n] G M L (fun v M' L' => M = M' ∧ L = L' ∧ v = .int .i64 (if n < 1 ∨ 8 < n then 0 else 64 * n - 28)) noPanic := by
  refine enter (args := [_]) (fn := Tryd.f24) ⟨Tryd.func24, rfl, by kernel_rfl, by kernel_rfl⟩ 14 rfl ?_
  refine x_seq (x_region ?_)
  refine tl_y rfl (y_assign rfl) ?_
  refine tl_nil (.then_normal ?_)
  refine x_seq (x_seq (x_region ?_))
  refine tl_y rfl (y_move (v := .int _ _) rfl) ?_
  refine tl_y rfl (y_lss rfl rfl) ?_
  refine tl_y rfl (y_move (v := .bool _) rfl) ?_
  refine tl_cases (s := 5) rfl (fun hk1 => ?_) (fun hk1 => ?_)
  ·
    refine tl_skip rfl ?_
    refine tl_skip rfl ?_
    refine tl_y rfl (y_pickT rfl rfl) ?_
    refine tl_nil (.then_normal ?_)
    refine .sub (F' := [(0, _), (8, _)]) (.cons rfl (.cons rfl .nil)) ?_
    refine x_true rfl rfl ?_
    refine x_seq (x_region ?_)
    refine tl_y rfl (y_assign rfl) ?_
    refine tl_nil (.then_normal ?_)
    refine x_ret (.then_ret (ret1 rfl rfl (Le.refl _) ⟨rfl, rfl, by rw [if_pos (by omega)]⟩))
  ·
    refine tl_y rfl (y_move (v := .int _ _) rfl) ?_
    refine tl_y rfl (y_gtr rfl rfl) ?_
    refine tl_y rfl (y_pickF rfl rfl) ?_
    refine tl_nil (.then_normal ?_)
    refine .sub (F' := [(0, _), (8, _)]) (.cons rfl (.cons rfl .nil)) ?_
    refine x_cond rfl (fun hc1 => ?_) (fun hc1 => ?_)
    ·
      refine x_seq (x_region ?_)
      refine tl_y rfl (y_assign rfl) ?_
      refine tl_nil (.then_normal ?_)
      refine x_ret (.then_ret (ret1 rfl rfl (Le.refl _) ⟨rfl, rfl, by rw [if_pos (by omega)]⟩))
    ·
      refine x_skip (.then_normal ?_)
      refine x_seq (x_region ?_)
      refine tl_y rfl (y_move (v := .int _ _) rfl) ?_
      refine tl_y rfl (y_mulI rfl rfl (by omega)) ?_
      refine tl_y rfl (y_subI rfl rfl (by omega)) ?_
      refine tl_y rfl (y_subI rfl rfl (by omega)) ?_
      refine tl_y rfl (y_subI rfl rfl (by omega)) ?_
      refine tl_y rfl (y_assign (v := .int _ _) rfl) ?_
      refine tl_nil (.then_normal ?_)
      refine .sub (F' := [(2, _)]) (.cons rfl .nil) ?_
      refine x_ret (ret1 rfl rfl (Le.refl _) ⟨rfl, rfl, by rw [if_neg (by omega)]; congr 1; omega⟩)
theorem bytesOf_spec (hg : ShaG M) {p d : Nat} {s : SS} {A0 : Option Addr} {l0 c0 : Nat} (hn : 1 ≤ s.n ∧ s.n ≤ 8) {num : UInt64} {A : Option Addr} {n c : Nat} {b : List UInt8} (h : Bytes M A n c b) (hb : b.length + 28 ≤ 64 * s.n) :
    Con Tryd.prog 76 #[.pointer (some ⟨p, 0, none⟩), .agg #[.int .u64 (num.toNat : Int), .slice A n c]] G M (sL p d s A0 l0 c0 :: R) (fun v M' L' => L' = sL p d s A0 l0 c0 :: R ∧ ∃ A' c', v = .slice A' (64 * s.n) c' ∧ Bytes M' A' (64 * s.n) c' (recB s.n num b)) noPanic := by
  have hbl := h.size
  have hx : (UInt64.ofInt (n : Int)).toNat = b.length := by rw [ofInt64, UInt64.toNat_ofNat']; omega
  refine enter (args := [_, _]) (fn := Tryd.f76) ⟨Tryd.func76, rfl, by kernel_rfl, by kernel_rfl⟩ 36 rfl ?_
  refine x_seq (x_region ?_)
  refine tl_e rfl (e_box rfl (fun b1 => ?_))
  refine tl_y rfl (y_assign rfl) ?_
  refine tl_nil (.then_normal ?_)
  refine x_seq ?_
  refine x_draw 13 hmix rfl ?_
  refine to_p 0 rfl (by kernel_rfl) rfl (y_fieldAddr rfl) ?_
  refine to_y 1 rfl (by kernel_rfl) rfl (y_load rfl rfl (.own inferInstance inferInstance)) ?_
  refine to_p 3 rfl (by kernel_rfl) rfl (y_fieldAddr rfl) ?_
  refine to_y 4 rfl (by kernel_rfl) rfl (y_load rfl rfl (.own inferInstance inferInstance)) ?_
  refine to_p 5 rfl (by kernel_rfl) rfl (y_len rfl) ?_
  refine to_p 6 rfl (by kernel_rfl) rfl (y_of64 rfl) ?_
  refine to_p 8 rfl (by kernel_rfl) rfl (y_fieldAddr rfl) ?_
  refine to_y 9 rfl (by kernel_rfl) rfl (y_load rfl rfl (.own inferInstance inferInstance)) ?_
  refine to_e 2 rfl (by kernel_rfl) rfl (e_call' rfl (PutN_spec num 8 (by omega)) ?_)
  rintro _ M1 _ hM1 ⟨rfl, A1, c1, rfl, hA1⟩
  refine ⟨⟨(by first | exact Le.refl _ | assumption), Keeps.mem⟩, ?_⟩
  refine to_e 7 rfl (by kernel_rfl) rfl (e_call' rfl (PutN_spec (UInt64.ofInt (n : Int)) 4 (by omega)) ?_)
  rintro _ M2 _ hM2 ⟨rfl, A2, c2, rfl, hA2⟩
  rw [hx] at hA2
  have hm := hM1.trans hM2
  refine ⟨⟨hm, Keeps.mem⟩, ?_⟩
  refine to_e 10 rfl (by kernel_rfl) rfl (e_buildSlice rfl (by decide) (fun b2 => ?_))
  refine ⟨⟨(by first | exact Le.refl _ | assumption), Keeps.mem⟩, ?_⟩
  refine .pub b2 inferInstance (fun M3 hM3 hb2 => ?_)
  replace hm := hm.trans hM3
  have hfl : [putB num.toNat 8, putB b.length 4, b].flatten = recH num b := by simp [recH]
  have hH := recH_length num b
  refine to_e 11 rfl (by kernel_rfl) rfl (e_call' rfl (Cat_spec (Row.whole hb2 rfl (by omega)) (.cons (hA1.mono (hM2.trans hM3)) (.cons (hA2.mono hM3) (.cons (h.mono hm) .nil))) (by rw [hfl, hH]; omega)) ?_)
  rintro _ M4 _ hM4 ⟨rfl, A4, c4, rfl, hA4⟩
  rw [hfl, hH] at hA4
  rw [hfl, hH]
  replace hm := hm.trans hM4
  refine ⟨⟨hm, Keeps.mem⟩, ?_⟩
  refine to_p 12 rfl (by kernel_rfl) rfl (y_assign (v := .slice _ _ _) rfl) ?_
  refine to_nil (by kernel_rfl) (.then_normal ?_)
  refine .sub (F' := [(0, _), (5, _)]) (.cons rfl (.cons rfl .nil)) ?_
  refine x_seq (x_region ?_)
  refine tl_y rfl (y_move (v := .slice _ _ _) rfl) ?_
  refine tl_y rfl (y_move (v := .slice _ _ _) rfl) ?_
  refine tl_e rfl (e_call' rfl (One_spec (hg.mono hm) hA4 (by omega)) ?_)
  rintro _ M5 _ hM5 ⟨rfl, A5, c5, rfl, hA5⟩
  replace hm := hm.trans hM5
  have hc5 := hA5.le
  have hT := hA5.take 16 (by omega)
  refine tl_y rfl (y_sliceH rfl rfl (by omega) (by omega)) ?_
  refine tl_e rfl (e_buildSlice rfl (by decide) (fun b3 => ?_))
  refine .pub b3 inferInstance (fun M6 hM6 hb3 => ?_)
  replace hm := hm.trans hM6
  have hfl2 : [recH num b, (sha (recH num b)).take 16].flatten = recH num b ++ (sha (recH num b)).take 16 := by simp
  have hH2 : (recH num b ++ (sha (recH num b)).take 16).length = 28 + b.length := by rw [List.length_append, hH, List.length_take, sha_length]; omega
  refine tl_e rfl (e_call' rfl (Cat_spec (Row.whole hb3 rfl (by omega)) (.cons (hA4.mono (hM5.trans hM6)) (.cons (hT.mono hM6) .nil)) (by rw [hfl2, hH2]; omega)) ?_)
  rintro _ M7 _ hM7 ⟨rfl, A7, c7, rfl, hA7⟩
  rw [hfl2, hH2] at hA7
  rw [hfl2, hH2]
  replace hm := hm.trans hM7
  refine tl_y rfl (y_assign (v := .slice _ _ _) rfl) ?_
  refine tl_nil (.then_normal ?_)
  refine .sub (F' := [(0, _), (5, _)]) (.cons rfl (.cons rfl .nil)) ?_
  refine x_seq (x_region ?_)
  refine tl_y rfl (y_move (v := .slice _ _ _) rfl) ?_
  refine tl_y rfl (y_move (v := .pointer _) rfl) ?_
  refine tl_y rfl (y_nilCheck rfl) ?_
  refine tl_y rfl (y_fieldAddr rfl) ?_
  refine tl_y rfl (y_load rfl rfl (.own inferInstance inferInstance)) ?_
  refine tl_y rfl (y_mulI rfl rfl (by omega)) ?_
  refine tl_y rfl (y_move (v := .slice _ _ _) rfl) ?_
  refine tl_y rfl (y_len rfl) ?_
  refine tl_y rfl (y_subI rfl rfl (by omega)) ?_
  refine tl_e rfl (e_make1 rfl rfl (by omega) (by omega) (by omega) (by omega) (fun b4 => ?_))
  refine tl_e rfl (e_buildSlice rfl (by decide) (fun b5 => ?_))
  refine .pub b4 inferInstance (fun M8 hM8 hb4 => ?_)
  refine .pub b5 inferInstance (fun M9 hM9 hb5 => ?_)
  replace hm := hm.trans (hM8.trans hM9)
  have hZ := (Bytes.zeros hb4 (by omega)).mono hM9
  have hzn : ((s.n : Int) * 64 - ((28 + b.length : Nat) : Int)).toNat = 64 * s.n - 28 - b.length := by omega
  have hfl3 : [recH num b ++ (sha (recH num b)).take 16, List.replicate ((s.n : Int) * 64 - ((28 + b.length : Nat) : Int)).toNat 0].flatten = recB s.n num b := by rw [hzn]; simp [recB]
  have hH3 := recB_length (num := num) hb
  refine tl_e rfl (e_call' rfl (Cat_spec (Row.whole hb5 (by rfl) (by omega)) (.cons (hA7.mono (hM8.trans hM9)) (.cons hZ .nil)) (by rw [hfl3, hH3]; omega)) ?_)
  rintro _ M10 _ hM10 ⟨rfl, A10, c10, rfl, hA10⟩
  rw [hfl3, hH3] at hA10
  rw [hfl3, hH3]
  replace hm := hm.trans hM10
  refine tl_y rfl (y_assign (v := .slice _ _ _) rfl) ?_
  refine tl_nil (.then_normal ?_)
  refine .sub (F' := [(4, _)]) (.cons rfl .nil) ?_
  refine x_ret (.dropTo (sL p d s A0 l0 c0 :: R) inferInstance (ret1 rfl rfl hm ⟨rfl, _, _, rfl, hA10⟩))
end
end Go.Proofs.YtbgdjdhbejbhkaaDoor
