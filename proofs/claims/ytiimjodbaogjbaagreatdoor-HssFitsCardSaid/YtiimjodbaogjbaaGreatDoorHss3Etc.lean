/-
Contracts of functions, each proved by a walk through its code.
-/
import Derived.Test.YtiimjodbaogjbaaGreatDoorRef8bEtc
set_option linter.unusedVariables false
set_option linter.unusedSimpArgs false
set_option linter.constructorNameAsVariable false
namespace Go.Proofs.YtiimjodbaogjbaaGreatDoor
open Go Go.Eng
theorem flat_len {α : Type} {f : α → List Value} {s : Nat} (hf : ∀ a, (f a).length = s) : ∀ (l : List α), (l.flatMap f).length = l.length * s
 | [] => by simp
 | a :: l => by rw [List.flatMap_cons, List.length_append, hf, flat_len hf l, List.length_cons, Nat.succ_mul]; omega
theorem flat_get {α : Type} {f : α → List Value} {s : Nat} (hf : ∀ a, (f a).length = s) : ∀ (l : List α) (i : Nat) (a : α), l[i]? = some a → ∀ j, j < s → (l.flatMap f)[i * s + j]? = (f a)[j]?
 | [], i, a, h, _, _ => by simp at h
 | b :: l, 0, a, h, j, hj => by
  obtain rfl : b = a := by simpa using h
  rw [List.flatMap_cons, Nat.zero_mul, Nat.zero_add, List.getElem?_append_left (by rw [hf]; exact hj)]
 | b :: l, i + 1, a, h, j, hj => by
  have h' : l[i]? = some a := by simpa using h
  rw [List.flatMap_cons, Nat.succ_mul, List.getElem?_append_right (by rw [hf]; omega), hf, show i * s + s + j - s = i * s + j by omega]
  exact flat_get hf l i a h' j hj
theorem flat_take {α : Type} {f : α → List Value} {s : Nat} (hf : ∀ a, (f a).length = s) : ∀ (l : List α) (i : Nat) (a : α), l[i]? = some a → ((l.flatMap f).drop (i * s)).take s = f a
 | [], i, a, h => by simp at h
 | b :: l, 0, a, h => by
  obtain rfl : b = a := by simpa using h
  rw [List.flatMap_cons, Nat.zero_mul, List.drop_zero, List.take_append_of_le_length (by rw [hf]; exact Nat.le_refl _), List.take_of_length_le (by rw [hf]; exact Nat.le_refl _)]
 | b :: l, i + 1, a, h => by
  have h' : l[i]? = some a := by simpa using h
  rw [List.flatMap_cons, Nat.succ_mul, List.drop_append, hf, show i * s + s - s = i * s by omega, List.drop_of_length_le (by rw [hf]; omega), List.nil_append]
  exact flat_take hf l i a h'
def p0 : PairV := ⟨0, 0⟩
def tv (p : PairV) : TreeV := treeV p.t
def prow (l : List PairV) : List Value := l.flatMap PairV.cells
def trow (ts : List TreeV) : List Value := ts.flatMap TreeV.cells
theorem pcl (p : PairV) : p.cells.length = 2 := rfl
theorem tcl (t : TreeV) : t.cells.length = 4 := rfl
def hN (t : TreeV) : Nat := t.h.toNat
def hsum (l : List TreeV) : Nat := (l.map hN).sum
def good (l : List PairV) (p : PairV) : Prop := okP p ∧ (tv p).kind = (tv (l.getD 0 p0)).kind ∧ (tv p).n = (tv (l.getD 0 p0)).n
instance {l : List PairV} {p : PairV} : Decidable (good l p) := inferInstanceAs (Decidable (_ ∧ _))
def okL (l : List PairV) : Prop := (1 ≤ l.length ∧ l.length ≤ 8) ∧ (∀ p ∈ l, good l p) ∧ hsum (l.map tv) ≤ 60
instance {l : List PairV} : Decidable (okL l) := inferInstanceAs (Decidable (_ ∧ _))
theorem okP_h {p : PairV} (h : okP p) : (tv p).h = ((hN (tv p) : Nat) : Int) ∧ 1 ≤ hN (tv p) ∧ hN (tv p) ≤ 25 := by
 have := treeV_facts h.2.1
 unfold hN tv
 omega
theorem hsum_snoc (l : List TreeV) (t : TreeV) : hsum (l ++ [t]) = hsum l + hN t := by simp [hsum]
theorem hsum_le {l : List PairV} (h : ∀ p ∈ l, okP p) : hsum (l.map tv) ≤ l.length * 25 := by
 induction l with
 | nil => simp [hsum]
 | cons p l ih =>
  have h1 := (okP_h (h p List.mem_cons_self)).2.2
  have h2 := ih (fun q hq => h q (List.mem_cons_of_mem _ hq))
  simp only [hsum, List.map_cons, List.sum_cons, List.length_cons] at h2 ⊢
  omega
section
variable {G : World} {M : Mem} {L : Own}
theorem trees_spec (hg : HsG M) {A : Option Addr} {n c : Nat} {l : List PairV} (h : Row M 2 A n c (prow l)) :
    Con Tryz.prog 73 #[.slice A n c] G M L (fun v M' L' => L' = L ∧ okL l ∧ ∃ A' c', v = .slice A' n c' ∧ Row M' 4 A' n c' (trow (l.map tv))) (fun ch M' L' => L' = L ∧ ¬ okL l ∧ ch = hwrong 4) := by
  have hmx := h.max
  have hle := h.le
  have hln : l.length = n := by have := h.len; rw [prow, flat_len pcl] at this; omega
  refine enter (args := [_]) (fn := Tryz.f73) ⟨Tryz.func73, rfl, by kernel_rfl, by kernel_rfl⟩ 63 rfl <| zr <| as0 rfl rfl <| zq <| x_join (I := fun F D M1 L1 => (1 ≤ n ∧ n ≤ 8) ∧ D = [] ∧ M = M1 ∧ L = L1 ∧ F = [(0, .slice A n c)]) ?_ (fun Jq1 => ?_)
  ·
    rintro _ _ _ _ ⟨h18, rfl, rfl, rfl, rfl⟩  -- slots [0]
    refine zr <| as0 rfl rfl <| zq <| zr <| as0 rfl rfl <| zq <| zr2 <| mvS rfl rfl <| tl_y rfl (y_len rfl) <| mv0 rfl rfl ?_
    refine zq <| x_block ?_
    refine x_loop (I := fun m' F D M1 L1 => ∃ (k : Nat) (A1 : Option Addr) (c1 : Nat) (E : Own), m' = n - k ∧ k ≤ n ∧ Le M M1 ∧ OwnRow 29 4 A1 k c1 (trow ((l.take k).map tv)) E ∧ (∀ p ∈ l.take k, good l p) ∧ D = [] ∧ L1 = E ++ L ∧ F = [(3, .slice A1 k c1), (4, .int .i64 (hsum ((l.take k).map tv) : Nat)), (18, .slice A n c), (19, .int .i64 n), (20, .int .i64 k)]) (n) (F0 := [(3, _), (4, _), (18, _), (19, _), (20, _)]) ?_ (.cons rfl (.cons rfl (.cons rfl (.cons rfl (.cons rfl .nil))))) ?_  -- slots [3, 4, 18, 19, 20], written [3, 4, 20]
    · exact ⟨0, none, 0, [], rfl, by omega, Le.refl _, .nil, fun p hp => by simp at hp, rfl, rfl, rfl⟩
    rintro m _ _ M1 L1 ⟨k, A1, c1, E, rfl, hk, hm, hE, hgd, rfl, rfl, rfl⟩
    have hs8 := hsum_le (fun p hp => (hgd p hp).1)
    have htl : (l.take k).length = k := by rw [List.length_take]; omega
    rw [htl] at hs8
    refine zr <| tl_y rfl (y_lss rfl rfl) <| zq <| x_seq <| x_cond rfl (fun hc1 => ?_) (fun hc1 => ?_)
    ·
      have hkn : k < n := by omega
      obtain ⟨p, hp⟩ : ∃ p, l[k]? = some p := ⟨_, List.getElem?_eq_getElem (by omega)⟩
      have hmem : p ∈ l := List.mem_of_getElem? hp
      have htk : l.take (k + 1) = l.take k ++ [p] := by
        rw [List.take_add_one, hp]; rfl
      obtain ⟨g, o, rfl, hcell⟩ := (h.mono hm).cellsN (by omega)
      have hc2 := fun L => hcell L (k * 2) 2 (by rw [prow, flat_len pcl]; omega)
      simp only [prow, flat_take pcl l k p hp] at hc2
      refine x_skip <| .then_normal <| x_seq <| x_block <| zr <| tl_y rfl (y_indexAddr rfl rfl (by omega)) <| tl_y rfl (y_loadAgg rfl rfl (.at_ (hc2 _) (by omega))) <| tl_e rfl <| e_alloc <| fun b1 => tl_e rfl <| e_st rfl rfl (by rfl) (by rfl) <| zq <| zr ?_
      refine tl_y rfl (y_lg rfl rfl) <| tl_e rfl <| e_call' rfl (lMay_spec (hg.mono hm) p) ?_
      rintro _ M2 _ hM2 ⟨rfl, rfl⟩
      replace hm := hm.trans hM2
      refine tl_e rfl (e_call rfl (hmust_spec _ _) (by
        rintro _ _ _ _ ⟨rfl, rfl, ht, rfl⟩
        exact TP.dropTo L inferInstance (.retA rfl hm ⟨rfl, fun h => by have := (h.2.1 p hmem).1; simp [this] at ht, rfl⟩)) ?_)
      rintro _ _ _ _ ⟨rfl, rfl, ht⟩
      have hokp : okP p := by simpa using ht
      obtain ⟨hH, hH1, hH25⟩ := okP_h hokp
      refine zq <| .s6 3 4 6 18 19 20 rfl rfl rfl rfl rfl rfl <| zr <| tl_y rfl (y_fieldAddr rfl) <| tl_y rfl (y_ld rfl rfl) <| tl_e rfl <| e_call' rfl (Tree_spec (hg.mono hm).t p.t) ?_
      rintro _ M3 _ hM3 ⟨rfl, rfl⟩
      replace hm := hm.trans hM3
      refine mvU rfl rfl <| zx rfl rfl <| zx rfl rfl <| tl_e rfl <| e_alloc <| fun b2 => tl_e rfl <| e_st rfl rfl (by rfl) (by rfl) <| asI rfl rfl <| zq <| .s6 3 4 7 18 19 20 rfl rfl rfl rfl rfl rfl <| zr <| mvS rfl rfl ?_
      refine tl_y rfl (y_lg rfl rfl) <| tl_e rfl <| e_buildSlice rfl (by decide) <| fun b3 => .pub b3 inferInstance <| fun M4 hM4 hb3 => ?_
      replace hm := hm.trans hM4
      refine .bringE E inferInstance <| tl_e rfl <| e_append (by decide) rfl rfl hE (.row (Row.whole (s := 4) (vs := (tv p).cells) hb3 rfl (by omega))) rfl (by omega) (by omega) <| fun A5 c5 E5 hE5 => ?_
      have hrw : trow ((l.take k).map tv) ++ (tv p).cells = trow ((l.take (k + 1)).map tv) := by rw [htk, List.map_append]; simp [trow]
      rw [hrw] at hE5
      refine asS rfl rfl <| zq <| .s6 3 4 7 18 19 20 rfl rfl rfl rfl rfl rfl <| x_seq ?_
      have hq0 : ∃ u, ((l.take (k + 1)).map tv)[0]? = some u ∧ u = tv (l.getD 0 p0) := by
        refine ⟨_, List.getElem?_eq_getElem (by rw [List.length_map, List.length_take]; omega), ?_⟩
        rw [List.getElem_map, List.getElem_take, List.getD_eq_getElem?_getD, List.getElem?_eq_getElem (by omega)]
        rfl
      obtain ⟨u, hu, hue⟩ := hq0
      have hgu : good l p ↔ (tv p).kind = u.kind ∧ (tv p).n = u.n := by rw [hue]; exact ⟨fun h => h.2, fun h => ⟨hokp, h⟩⟩
      obtain ⟨g5, o5, rfl, hc5⟩ := hE5.cellIn (M := M4) (L := E5 ++ ((b2, .cells (List.toArray (tv p).cells) 29 (0, 0)) :: (b1, .cells (List.toArray p.cells) 24 (0, 0)) :: L)) inferInstance (by rw [trow, flat_len tcl, List.length_map, List.length_take]; omega)
      have hv1 := hc5 (0 * 4 + 1) (.int .i64 u.kind) (by rw [trow, flat_get tcl _ 0 u hu 1 (by omega)]; rfl)
      have hv2 := hc5 (0 * 4 + 2) (.int .i64 u.n) (by rw [trow, flat_get tcl _ 0 u hu 2 (by omega)]; rfl)
      have hsn : hsum ((l.take (k + 1)).map tv) = hsum ((l.take k).map tv) + hN (tv p) := by rw [htk, List.map_append]; exact hsum_snoc _ _
      refine x_draw 17 hmix rfl <| zp 0 rfl rfl (y_fieldAddr rfl) <| zy 1 rfl rfl (y_ld rfl rfl) <| zp 2 rfl rfl (y_move (v := .slice _ _ _) rfl) <| zp 3 rfl rfl (y_indexAddr rfl rfl (by omega)) <| zp 4 rfl rfl (y_fieldAddr rfl) <| zy 5 rfl rfl (y_load rfl rfl (.at_ hv1 (by omega))) <| zp 6 rfl rfl (y_eql rfl rfl) <| zp 7 rfl rfl (y_move (v := .bool _) rfl) <| to_cases (s := 44) rfl (fun hk1 => ?_) (fun hk1 => ?_)
      ·
        refine zp 8 rfl rfl (y_fieldAddr rfl) <| zy 9 rfl rfl (y_ld rfl rfl) <| zp 10 rfl rfl (y_move (v := .slice _ _ _) rfl) <| zp 11 rfl rfl (y_indexAddr rfl rfl (by omega)) <| zp 12 rfl rfl (y_fieldAddr rfl) <| zy 13 rfl rfl (y_load rfl rfl (.at_ hv2 (by omega))) <| zp 14 rfl rfl (y_eql rfl rfl) <| zp 15 rfl rfl (y_pickT rfl rfl) <| to_e 16 rfl (by kernel_rfl) rfl (e_call rfl (hmust_spec _ _) (by
          rintro _ _ _ _ ⟨rfl, rfl, ht2, rfl⟩
          exact TP.dropTo L inferInstance (.retA rfl hm ⟨rfl, fun h => absurd (hgu.1 (h.2.1 p hmem)).2 (of_decide_eq_false ht2), rfl⟩)) ?_)
        rintro _ _ _ _ ⟨rfl, rfl, ht2⟩
        refine ⟨⟨(by first | exact Le.refl _ | assumption), Keeps.mem⟩, ?_⟩
        refine zz <| .then_normal <| .s6 3 4 7 18 19 20 rfl rfl rfl rfl rfl rfl <| x_region <| mvI rfl rfl <| tl_y rfl (y_fieldAddr rfl) <| tl_y rfl (y_ld rfl rfl) ?_
        rw [show (treeV p.t).h = ((hN (tv p) : Nat) : Int) from hH]
        refine tl_y rfl (y_addI rfl rfl (by omega)) ?_
        rw [show ((hsum ((l.take k).map tv) : Nat) : Int) + ((hN (tv p) : Nat) : Int) = ((hsum ((l.take (k + 1)).map tv) : Nat) : Int) by rw [hsn]; omega]
        refine asI rfl rfl <| tl_nil <| .block_normal <| .then_normal <| .s5 3 4 18 19 20 rfl rfl rfl rfl rfl <| x_region <| tl_y rfl (y_addI rfl rfl (by omega)) <| mvI rfl rfl <| .dropTo (E5 ++ L) inferInstance <| tl_nil <| .loop_next (m' := n - (k + 1)) (by omega) (F' := [(3, _), (4, _), (18, _), (19, _), (20, _)]) (.cons rfl (.cons rfl (.cons rfl (.cons rfl (.cons rfl .nil))))) ?_
        exact ⟨k + 1, _, c5, E5, rfl, by omega, hm, hE5, fun q hq => by
          rw [htk] at hq
          rcases List.mem_append.1 hq with hq | hq
          · exact hgd q hq
          · obtain rfl := List.mem_singleton.1 hq
            exact hgu.2 ⟨hk1, of_decide_eq_true ht2⟩, rfl, rfl, rfl⟩
      ·
        refine zs 8 rfl rfl <| zs 9 rfl rfl <| zs 10 rfl rfl <| zs 11 rfl rfl <| zs 12 rfl rfl <| zs 13 rfl rfl <| zs 14 rfl rfl <| zp 15 rfl rfl (y_pickF rfl rfl) <| to_e 16 rfl (by kernel_rfl) rfl (e_call rfl (hmust_spec _ _) (by
          rintro _ _ _ _ ⟨rfl, rfl, ht2, rfl⟩
          exact TP.dropTo L inferInstance (.retA rfl hm ⟨rfl, fun h => hk1 (hgu.1 (h.2.1 p hmem)).1, rfl⟩)) ?_)
        rintro _ _ _ _ ⟨rfl, rfl, ht2⟩
        refine ⟨⟨(by first | exact Le.refl _ | assumption), Keeps.mem⟩, ?_⟩
        refine zz <| .then_normal <| .s6 3 4 7 18 19 20 rfl rfl rfl rfl rfl rfl <| x_region <| mvI rfl rfl <| tl_y rfl (y_fieldAddr rfl) <| tl_y rfl (y_ld rfl rfl) ?_
        rw [show (treeV p.t).h = ((hN (tv p) : Nat) : Int) from hH]
        refine tl_y rfl (y_addI rfl rfl (by omega)) ?_
        rw [show ((hsum ((l.take k).map tv) : Nat) : Int) + ((hN (tv p) : Nat) : Int) = ((hsum ((l.take (k + 1)).map tv) : Nat) : Int) by rw [hsn]; omega]
        refine asI rfl rfl <| tl_nil <| .block_normal <| .then_normal <| .s5 3 4 18 19 20 rfl rfl rfl rfl rfl <| x_region <| tl_y rfl (y_addI rfl rfl (by omega)) <| mvI rfl rfl <| .dropTo (E5 ++ L) inferInstance <| tl_nil <| .loop_next (m' := n - (k + 1)) (by omega) (F' := [(3, _), (4, _), (18, _), (19, _), (20, _)]) (.cons rfl (.cons rfl (.cons rfl (.cons rfl (.cons rfl .nil))))) ?_
        exact absurd ht2 (by simp)
    ·
      obtain rfl : k = n := by omega
      rw [List.take_of_length_le (by omega)] at hE hgd ⊢
      refine x_exit <| .then_exit <| .loop_exit <| .block_exit <| .then_normal <| .s2 3 4 rfl rfl <| zr <| mvI rfl rfl <| tl_y rfl (y_leq rfl rfl) <| tl_e rfl (e_call rfl (hmust_spec _ _) (by
        rintro _ _ _ _ ⟨rfl, rfl, ht, rfl⟩
        exact TP.dropTo L inferInstance (.retA rfl hm ⟨rfl, fun h => by have := h.2.2; simp at ht; omega, rfl⟩)) ?_)
      rintro _ _ _ _ ⟨rfl, rfl, ht⟩
      refine .pubRow hE <| fun M4 hM4 hrow => zq <| .s1 3 rfl <| zr <| mvS rfl rfl <| asS rfl rfl <| zq <| x_ret (ret1 rfl rfl (hm.trans hM4) ⟨rfl, ⟨⟨by omega, by omega⟩, hgd, by simp at ht; omega⟩, _, _, rfl, hrow⟩)
  ·
    refine x_region <| mvS rfl rfl <| tl_y rfl (y_len rfl) <| tl_y rfl (y_geq rfl rfl) <| mvB rfl rfl <| tl_cases (s := 12) rfl (fun hk2 => ?_) (fun hk2 => ?_)
    ·
      refine mvS rfl rfl <| tl_y rfl (y_len rfl) <| tl_y rfl (y_leq rfl rfl) <| tl_y rfl (y_pickT rfl rfl) <| tl_e rfl (e_call rfl (hmust_spec _ _) (by
        rintro _ _ _ _ ⟨rfl, rfl, ht, rfl⟩
        exact TP.dropTo L inferInstance (.retA rfl (Le.refl _) ⟨rfl, fun h => by have := h.1; first | (cases ht; done) | (simp at ht; omega) | omega, rfl⟩)) ?_)
      rintro _ _ _ _ ⟨rfl, rfl, ht⟩
      refine zq <| .sub (F' := [(0, _)]) (.cons rfl .nil) <| Jq1 _ _ _ _ ?_
      exact ⟨by first | (cases ht; done) | (simp at ht; omega) | omega, rfl, rfl, rfl, rfl⟩
    ·
      refine tl_skip rfl <| tl_skip rfl <| tl_skip rfl <| tl_y rfl (y_pickF rfl rfl) <| tl_e rfl (e_call rfl (hmust_spec _ _) (by
        rintro _ _ _ _ ⟨rfl, rfl, ht, rfl⟩
        exact TP.dropTo L inferInstance (.retA rfl (Le.refl _) ⟨rfl, fun h => by have := h.1; first | (cases ht; done) | (simp at ht; omega) | omega, rfl⟩)) ?_)
      rintro _ _ _ _ ⟨rfl, rfl, ht⟩
      refine zq <| .sub (F' := [(0, _)]) (.cons rfl .nil) <| Jq1 _ _ _ _ ?_
      exact ⟨by first | (cases ht; done) | (simp at ht; omega) | omega, rfl, rfl, rfl, rfl⟩
end
end Go.Proofs.YtiimjodbaogjbaaGreatDoor
set_option linter.unusedVariables false
set_option linter.unusedSimpArgs false
set_option linter.constructorNameAsVariable false
namespace Go.Proofs.YtiimjodbaogjbaaGreatDoor
open Go Go.Eng
def totN (l : List PairV) : Nat := if okL l then pw2 (hsum (l.map tv)) else 0
def hOk (ts : List TreeV) : Prop := ∀ t ∈ ts, t.h = ((hN t : Nat) : Int) ∧ 1 ≤ hN t ∧ hN t ≤ 25
theorem okL_h {l : List PairV} (h : okL l) : hOk (l.map tv) := fun t ht => by
 obtain ⟨p, hp, rfl⟩ := List.mem_map.1 ht
 exact okP_h (h.2.1 p hp).1
theorem hsum_take {ts : List TreeV} : ∀ (k : Nat), hsum (ts.take k) ≤ hsum ts := by
 induction ts with
 | nil => intro k; simp [hsum]
 | cons t ts ih =>
  intro k
  cases k with
  | zero => simp [hsum]
  | succ k =>
   have := ih k
   simp only [hsum, List.take_succ_cons, List.map_cons, List.sum_cons] at this ⊢
   omega
theorem pw2_60 {a : Nat} (h : a ≤ 60) : pw2 a ≤ 1152921504606846976 := pw2_le (k := 60) h
theorem pw2_add (a b : Nat) : pw2 (a + b) = pw2 a * pw2 b := Nat.pow_add 2 a b
section
variable {G : World} {M : Mem} {L : Own}
theorem total_spec {A : Option Addr} {n c : Nat} {ts : List TreeV} (h : Row M 4 A n c (trow ts)) (hh : hOk ts) (h60 : hsum ts ≤ 60) :
    Con Tryz.prog 76 #[.slice A n c] G M L (fun v M' L' => M = M' ∧ L = L' ∧ v = .int .u64 (pw2 (hsum ts) : Nat)) noPanic := by
  have hmx := h.max
  have hle := h.le
  have hln : ts.length = n := by have := h.len; rw [trow, flat_len tcl] at this; omega
  refine enter (args := [_]) (fn := Tryz.f76) ⟨Tryz.func76, rfl, by kernel_rfl, by kernel_rfl⟩ 18 rfl <| zr <| as0 rfl rfl <| zq <| zr <| as0 rfl rfl <| zq <| zr2 <| mvS rfl rfl <| tl_y rfl (y_len rfl) ?_
  refine mv0 rfl rfl <| zq <| x_block ?_
  refine x_loop (I := fun m' F D M1 L1 => ∃ (k : Nat) (x : UInt64), m' = n - k ∧ k ≤ n ∧ x.toNat = pw2 (hsum (ts.take k)) ∧ D = [] ∧ M = M1 ∧ L = L1 ∧ F = [(3, .int .u64 (x.toNat : Int)), (6, .slice A n c), (7, .int .i64 n), (8, .int .i64 k)]) (n) (F0 := [(3, _), (6, _), (7, _), (8, _)]) ?_ (.cons rfl (.cons rfl (.cons rfl (.cons rfl .nil)))) ?_  -- slots [3, 6, 7, 8], written [3, 8]
  · exact ⟨0, 1, rfl, by omega, rfl, rfl, rfl, rfl, rfl⟩
  rintro m _ _ _ _ ⟨k, x, rfl, hk, hx, rfl, rfl, rfl, rfl⟩
  refine zr <| tl_y rfl (y_lss rfl rfl) <| zq <| x_seq <| x_cond rfl (fun hc1 => ?_) (fun hc1 => ?_)
  ·
    have hkn : k < n := by omega
    obtain ⟨t, ht⟩ : ∃ t, ts[k]? = some t := ⟨_, List.getElem?_eq_getElem (by omega)⟩
    obtain ⟨hH, hH1, hH25⟩ := hh t (List.mem_of_getElem? ht)
    have htk : ts.take (k + 1) = ts.take k ++ [t] := by rw [List.take_add_one, ht]; rfl
    obtain ⟨g, o, rfl, hcell⟩ := h.cellsN (by omega)
    have hc2 := fun L => hcell L (k * 4) 4 (by rw [trow, flat_len tcl]; omega)
    simp only [trow, flat_take tcl ts k t ht] at hc2
    have hsn : hsum (ts.take (k + 1)) = hsum (ts.take k) + hN t := by rw [htk]; exact hsum_snoc _ _
    have hs1 := hsum_take (ts := ts) (k + 1)
    have hp1 := pw2_60 (a := hsum (ts.take (k + 1))) (by omega)
    have hxs : (shl64 x (hN t)).toNat = pw2 (hsum (ts.take (k + 1))) := by
      rw [shl64, UInt64.toNat_ofNat', hx, show 2 ^ hN t = pw2 (hN t) from rfl, ← pw2_add, ← hsn, Nat.mod_eq_of_lt (by omega)]
    refine x_skip <| .then_normal <| x_seq <| x_block <| zr <| tl_y rfl (y_indexAddr rfl rfl (by omega)) <| tl_y rfl (y_loadAgg rfl rfl (.at_ (hc2 _) (by omega))) <| tl_e rfl <| e_alloc <| fun b1 => tl_e rfl <| e_st rfl rfl (by rfl) (by rfl) <| zq <| x_region ?_
    refine mvI rfl rfl <| tl_y rfl (y_fieldAddr rfl) <| tl_y rfl (y_load (v := .int .i64 ((hN t : Nat) : Int)) rfl rfl (by rw [← hH]; exact .own inferInstance inferInstance)) <| tl_y rfl (y_shl64 rfl rfl) <| asI rfl rfl <| tl_nil <| .block_normal <| .then_normal <| .s4 3 6 7 8 rfl rfl rfl rfl <| x_region <| tl_y rfl (y_addI rfl rfl (by omega)) <| mvI rfl rfl ?_
    refine .dropTo L inferInstance <| tl_nil <| .loop_next (m' := n - (k + 1)) (by omega) (F' := [(3, _), (6, _), (7, _), (8, _)]) (.cons rfl (.cons rfl (.cons rfl (.cons rfl .nil)))) ?_
    exact ⟨k + 1, shl64 x (hN t), rfl, by omega, hxs, rfl, rfl, rfl, rfl⟩
  ·
    obtain rfl : k = n := by omega
    rw [List.take_of_length_le (by omega)] at hx
    refine x_exit <| .then_exit <| .loop_exit <| .block_exit <| .then_normal <| .s1 3 rfl <| zr <| mvI rfl rfl <| asI rfl rfl <| zq <| x_ret (ret1 rfl rfl (Le.refl _) ⟨rfl, rfl, by rw [hx]⟩)
theorem Total1_spec (hg : HsG M) {A : Option Addr} {n c : Nat} {l : List PairV} (h : Row M 2 A n c (prow l)) {b : Nat} [hb : Has L b (.cells (List.toArray [.slice A n c]) 46 (0, 0))] :
  Con Tryz.prog 75 #[.pointer (some ⟨b, 0, none⟩)] G M L (fun v M' L' => L' = L ∧ ∃ x : Int, v = .int .u64 x ∧ okL l ∧ x = (pw2 (hsum (l.map tv)) : Nat)) (fun ch M' L' => L' = L ∧ ∃ e, (¬ okL l ∧ e = 4) ∧ ch = hwrong e) := by
 refine enter (args := [_]) (fn := Tryz.f75) ⟨Tryz.func75, rfl, by kernel_rfl, by kernel_rfl⟩ 5 rfl <| zr <| as0 rfl rfl <| zq <| zr <| tl_y rfl (y_ld rfl rfl) <| tl_e rfl (e_call rfl (trees_spec hg h) (by
  rintro _ M1 _ hM1 ⟨rfl, hno, rfl⟩
  exact .retA rfl hM1 ⟨rfl, 4, ⟨hno, rfl⟩, rfl⟩) ?_)
 rintro _ M1 _ hM1 ⟨rfl, hok, A1, c1, rfl, hrow⟩
 refine tl_e rfl <| e_call' rfl (total_spec hrow (okL_h hok) hok.2.2) ?_
 rintro _ _ _ _ ⟨rfl, rfl, rfl⟩
 refine asI rfl rfl <| zq <| .s1 1 rfl <| x_ret (ret1 rfl rfl hM1 ⟨rfl, _, rfl, hok, rfl⟩)
theorem Total_spec (hg : HsG M) {A : Option Addr} {n c : Nat} {l : List PairV} (h : Row M 2 A n c (prow l)) :
    Con Tryz.prog 30 #[.slice A n c] G M L (fun v M' L' => L' = L ∧ v = .int .u64 (totN l : Nat)) noPanic := by
  refine enter (args := [_]) (fn := Tryz.f30) ⟨Tryz.func30, rfl, by kernel_rfl, by kernel_rfl⟩ 11 rfl <| zr <| tl_e rfl <| e_box rfl <| fun b1 => as0 rfl rfl <| zq <| zr <| tl_y rfl (y_makeFunc rfl rfl) <| tl_e rfl <| e_call' rfl (caughtU_spec (K := fun x _ => okL l ∧ x = (pw2 (hsum (l.map tv)) : Nat)) (Kp := fun e => ¬ okL l ∧ e = 4) (first := []) (cap := [.pointer (some ⟨b1, 0, none⟩)]) (fun p' q' => Total1_spec hg h)) ?_
  rintro v M1 _ hM1 ⟨rfl, hv⟩
  obtain ⟨e, rfl⟩ : ∃ e : Int, v = .tuple #[.int .u64 (totN l : Nat), .int .i64 e] := by
    rcases hv with ⟨x, rfl, hok, rfl⟩ | ⟨e, rfl, hno, rfl⟩
    · exact ⟨0, by rw [totN, if_pos hok]⟩
    · exact ⟨4, by rw [totN, if_neg hno]; rfl⟩
  refine mvU rfl rfl <| zx rfl rfl <| zx rfl rfl <| asI rfl rfl <| asI rfl rfl <| zq <| .s1 3 rfl <| zr <| mvI rfl rfl <| asI rfl rfl ?_
  refine zq <| x_ret (.dropTo L inferInstance (ret1 rfl rfl hM1 ⟨rfl, rfl⟩))
theorem hMay1_spec (hg : HsG M) {A : Option Addr} {n c : Nat} {l : List PairV} (h : Row M 2 A n c (prow l)) {b : Nat} [hb : Has L b (.cells (List.toArray [.slice A n c]) 46 (0, 0))] :
  Con Tryz.prog 72 #[.pointer (some ⟨b, 0, none⟩)] G M L (fun v M' L' => L' = L ∧ ∃ A n c, v = .slice A n c ∧ okL l) (fun ch M' L' => L' = L ∧ ∃ e, (¬ okL l ∧ e = 4) ∧ ch = hwrong e) := by
 refine enter (args := [_]) (fn := Tryz.f72) ⟨Tryz.func72, rfl, by kernel_rfl, by kernel_rfl⟩ 4 rfl <| zr <| as0 rfl rfl <| zq <| zr <| tl_y rfl (y_ld rfl rfl) <| tl_e rfl (e_call rfl (trees_spec hg h) (by
  rintro _ M1 _ hM1 ⟨rfl, hno, rfl⟩
  exact .retA rfl hM1 ⟨rfl, 4, ⟨hno, rfl⟩, rfl⟩) ?_)
 rintro _ M1 _ hM1 ⟨rfl, hok, A1, c1, rfl, hrow⟩
 refine asS rfl rfl <| zq <| x_ret (ret1 rfl rfl hM1 ⟨rfl, _, _, _, rfl, hok⟩)
theorem hMay_spec (hg : HsG M) {A : Option Addr} {n c : Nat} {l : List PairV} (h : Row M 2 A n c (prow l)) :
    Con Tryz.prog 28 #[.slice A n c] G M L (fun v M' L' => L' = L ∧ v = .bool (decide (okL l))) noPanic := by
  refine enter (args := [_]) (fn := Tryz.f28) ⟨Tryz.func28, rfl, by kernel_rfl, by kernel_rfl⟩ 12 rfl <| zr <| tl_e rfl <| e_box rfl <| fun b1 => as0 rfl rfl <| zq <| zr <| tl_y rfl (y_makeFunc rfl rfl) <| tl_e rfl <| e_call' rfl (caughtL_spec (K := fun _ _ _ _ => okL l) (Kp := fun e => ¬ okL l ∧ e = 4) (first := []) (cap := [.pointer (some ⟨b1, 0, none⟩)]) (fun p' q' => hMay1_spec hg h)) ?_
  rintro v M1 _ hM1 ⟨rfl, hv⟩
  obtain ⟨A2, n2, c2, e, rfl, he⟩ : ∃ A2 n2 c2, ∃ e : Int, v = .tuple #[.slice A2 n2 c2, .int .i64 e] ∧ (e = 0 ↔ okL l) := by
    rcases hv with ⟨A2, n2, c2, rfl, hok⟩ | ⟨e, rfl, hno, rfl⟩
    · exact ⟨A2, n2, c2, 0, rfl, iff_of_true rfl hok⟩
    · exact ⟨none, 0, 0, 4, rfl, iff_of_false (by decide) hno⟩
  refine mvU rfl rfl <| zx rfl rfl <| zx rfl rfl <| asS rfl rfl <| asI rfl rfl <| zq <| .s1 4 rfl <| zr <| mvI rfl rfl <| tl_y rfl (y_eql rfl rfl) ?_
  refine asB rfl rfl <| zq <| x_ret (.dropTo L inferInstance (ret1 rfl rfl hM1 ⟨rfl, by rw [decide_eq_decide.2 he]⟩))
end
end Go.Proofs.YtiimjodbaogjbaaGreatDoor
set_option linter.unusedVariables false
set_option linter.unusedSimpArgs false
set_option linter.constructorNameAsVariable false
namespace Go.Proofs.YtiimjodbaogjbaaGreatDoor
open Go Go.Eng
theorem set_mid {pre vs slack : List Value} {i : Nat} {v : Value} (h : i < vs.length) : (pre ++ (vs ++ slack)).set (pre.length + i) v = pre ++ (vs.set i v ++ slack) := by
 rw [List.set_append_right _ _ (by omega), Nat.add_sub_cancel_left, List.set_append_left _ _ h]
def u32r (xs : List Nat) : List Value := xs.map fun (x : Nat) => Value.int .u32 ((x : Nat) : Int)
theorem u32r_get {xs : List Nat} {i x : Nat} (h : xs[i]? = some x) : (u32r xs)[i]? = some (.int .u32 (x : Int)) := by rw [u32r, List.getElem?_map, h]; rfl
theorem u32r_set (xs : List Nat) (i x : Nat) : (u32r xs).set i (.int .u32 (x : Int)) = u32r (xs.set i x) := by simp [u32r, List.map_set]
section
variable {G : World} {M : Mem} {L : Own}
theorem reverse_spec {A : Option Addr} {n c : Nat} {vs : List Nat} {E : Own} (hE : OwnRow 22 1 A n c (u32r vs) E) (hn : 1 ≤ n) :
    Con Tryz.prog 133 #[.slice A n c] G M (E ++ L) (fun v M' L' => M = M' ∧ ∃ E', L' = E' ++ L ∧ OwnRow 22 1 A n c (u32r vs.reverse) E') noPanic := by
  have hmx := hE.max
  have hle := hE.le
  have hvl : vs.length = n := by have := hE.len; simp [u32r] at this; omega
  obtain ⟨g, pre, slack, rfl, rfl⟩ := hE.pos (by omega)
  refine enter (args := [_]) (fn := Tryz.f133) ⟨Tryz.func133, rfl, by kernel_rfl, by kernel_rfl⟩ 28 rfl <| zr <| mvS rfl rfl <| tl_y rfl (y_len rfl) <| tl_y rfl (y_subI rfl rfl (by omega)) <| as0 rfl rfl <| asI rfl rfl <| zq <| x_block ?_
  refine x_loop (I := fun m' F D M1 L1 => ∃ (i : Nat) (ws : List Nat), m' = n - i ∧ i ≤ n ∧ ws.length = n ∧ (∀ x, x < n → ws[x]? = if x < i ∨ n - 1 - x < i then vs[n - 1 - x]? else vs[x]?) ∧ OwnRow 22 1 (some ⟨g, pre.length, none⟩) n c (u32r ws) [(g, .cells (pre ++ (u32r ws ++ slack)).toArray 22 (0, 0))] ∧ D = [] ∧ M = M1 ∧ L1 = (g, .cells (pre ++ (u32r ws ++ slack)).toArray 22 (0, 0)) :: L ∧ F = [(0, .slice (some ⟨g, pre.length, none⟩) n c), (2, .int .i64 (i : Nat)), (3, .int .i64 ((n : Int) - 1 - (i : Int)))]) (n) (F0 := [(0, _), (2, _), (3, _)]) ?_ (.cons rfl (.cons rfl (.cons rfl .nil))) ?_  -- slots [0, 2, 3], written [2, 3]
  · exact ⟨0, vs, rfl, by omega, hvl, fun x hx => by rw [if_neg (by omega)], hE, rfl, rfl, rfl, by simp⟩
  rintro m _ _ _ _ ⟨i, ws, rfl, hi, hwl, hws, hW, rfl, rfl, rfl, rfl⟩
  refine zr2 <| mvI rfl rfl <| mvI rfl rfl <| tl_y rfl (y_lss rfl rfl) <| zq <| x_cond rfl (fun hc1 => ?_) (fun hc1 => ?_)
  ·
    have hij : i < n - 1 - i := by omega
    obtain ⟨a, ha⟩ : ∃ a, ws[i]? = some a := ⟨_, List.getElem?_eq_getElem (by omega)⟩
    obtain ⟨b, hb⟩ : ∃ b, ws[n - 1 - i]? = some b := ⟨_, List.getElem?_eq_getElem (by omega)⟩
    obtain ⟨g', o', hgo, hcw⟩ := hW.cellIn (M := M) (L := [(g, .cells (pre ++ (u32r ws ++ slack)).toArray 22 (0, 0))] ++ L) inferInstance (by simp [u32r]; omega)
    obtain ⟨rfl, rfl⟩ : g = g' ∧ pre.length = o' := by simpa using hgo
    have hul : (u32r ws).length = n := by simp [u32r, hwl]
    have hW1 := hW.set i (.int .u32 (b : Int)) (by omega)
    rw [set_mid (by omega), u32r_set] at hW1
    have hul1 : (u32r (ws.set i b)).length = n := by simp [u32r, hwl]
    have hW2 := hW1.set (n - 1 - i) (.int .u32 (a : Int)) (by omega)
    rw [set_mid (by omega), u32r_set] at hW2
    rw [show (n : Int) - 1 - (i : Int) = ((n - 1 - i : Nat) : Int) by omega]
    refine x_skip <| .then_normal <| x_seq <| x_block <| x_draw 13 hmix rfl <| zp 0 rfl rfl (y_move (v := .slice _ _ _) rfl) <| zp 1 rfl rfl (y_move (v := .int _ _) rfl) <| zp 2 rfl rfl (y_move (v := .slice _ _ _) rfl) <| zp 3 rfl rfl (y_move (v := .int _ _) rfl) <| zp 4 rfl rfl (y_move (v := .slice _ _ _) rfl) <| zp 5 rfl rfl (y_move (v := .int _ _) rfl) ?_
    refine zp 6 rfl rfl (y_indexAddr rfl rfl (by omega)) <| zy 7 rfl rfl (y_load rfl rfl (.at_ (hcw _ _ (u32r_get hb)) (by omega))) <| zp 8 rfl rfl (y_move (v := .slice _ _ _) rfl) <| zp 9 rfl rfl (y_move (v := .int _ _) rfl) <| zp 10 rfl rfl (y_indexAddr rfl rfl (by omega)) <| zy 11 rfl rfl (y_load rfl rfl (.at_ (hcw _ _ (u32r_get ha)) (by omega))) <| zp 12 rfl rfl (y_indexAddr rfl rfl (by omega)) <| zt 13 rfl rfl <| e_storeAt (c := pre ++ (u32r ws ++ slack)) rfl rfl rfl inferInstance (by simp [hul]; omega) inferInstance ?_
    rw [show pre.length + ((i : Nat) : Int).toNat * 1 = pre.length + i by omega, set_mid (by omega), u32r_set]
    refine zp 14 rfl rfl (y_indexAddr rfl rfl (by omega)) <| zt 15 rfl rfl <| e_storeAt (c := pre ++ (u32r (ws.set i b) ++ slack)) rfl rfl rfl inferInstance (by simp [hul1]; omega) inferInstance ?_
    rw [show pre.length + ((n - 1 - i : Nat) : Int).toNat * 1 = pre.length + (n - 1 - i) by omega, set_mid (by omega), u32r_set]
    refine zz <| .block_normal <| .then_normal <| .s3 0 2 3 rfl rfl rfl <| x_region <| mvI rfl rfl <| tl_y rfl (y_addI rfl rfl (by omega)) ?_
    rw [show ((i : Nat) : Int) + 1 = ((i + 1 : Nat) : Int) by omega]
    refine mvI rfl rfl <| tl_y rfl (y_subI rfl rfl (by omega)) ?_
    rw [show ((n - 1 - i : Nat) : Int) - 1 = (n : Int) - 1 - ((i + 1 : Nat) : Int) by omega]
    refine asI rfl rfl <| asI rfl rfl <| tl_nil <| .loop_next (m' := n - (i + 1)) (by omega) (F' := [(0, _), (2, _), (3, _)]) (.cons rfl (.cons rfl (.cons rfl .nil))) ?_
    exact ⟨i + 1, (ws.set i b).set (n - 1 - i) a, rfl, by omega, by simp [hwl], fun x hx => by
      rw [List.getElem?_set, List.getElem?_set]
      by_cases h1 : n - 1 - i = x
      · subst h1
        rw [if_pos rfl, if_pos (by simp [hwl]; omega), if_pos (by omega), ← ha, hws i (by omega), if_neg (by omega), show n - 1 - (n - 1 - i) = i by omega]
      · rw [if_neg h1]
        by_cases h2 : i = x
        · subst h2
          rw [if_pos rfl, if_pos (by omega), if_pos (by omega), ← hb, hws _ (by omega), if_neg (by omega)]
        · rw [if_neg h2, hws x hx]
          by_cases h3 : x < i ∨ n - 1 - x < i
          · rw [if_pos h3, if_pos (by omega)]
          · rw [if_neg h3, if_neg (by omega)], hW2, rfl, rfl, rfl, rfl⟩
  ·
    refine x_exit (.then_exit (.loop_exit (.block_exit (end0 rfl (Le.refl _) ⟨rfl, _, rfl, by
      have : ws = vs.reverse := by
        apply List.ext_getElem?
        intro x
        by_cases hx : x < n
        · rw [hws x hx, List.getElem?_reverse (by omega), hvl]
          by_cases h3 : x < i ∨ n - 1 - x < i
          · rw [if_pos h3]
          · rw [if_neg h3, show n - 1 - x = x by omega]
        · rw [List.getElem?_eq_none (by omega), List.getElem?_eq_none (by simp; omega)]
      rw [← this]; exact hW⟩))))
end
end Go.Proofs.YtiimjodbaogjbaaGreatDoor
set_option linter.unusedVariables false
set_option linter.unusedSimpArgs false
set_option linter.constructorNameAsVariable false
namespace Go.Proofs.YtiimjodbaogjbaaGreatDoor
open Go Go.Eng
theorem tr_y2 {P : Program} {n : Nat} {Q : Post} {F : Fr} {D : List Deferred} {G : World} {M : Mem} {L : Own} {d : Tmp} {op : Op} {ty : TypeId} {v : Value} {K : Fr → List Deferred → Mem → Own → Prop} (hy : Yld P op ty F M L v) (h : K ((d, v) :: F) D M L) : Tr P n (some d) op ty Q F D G M L K := fun hok w a hw ha => by
 have hd : d < n := by simp only [okOp, Nat.blt_eq] at hok; exact hok
 exact hy.wpIn hw.sees (fun x u hx => ha.eval hx) ⟨_, D, M, L, ha.put hd v, hw, h⟩
def atN (ts : List TreeV) (x i : Nat) : Nat := (x / pw2 (hsum (ts.drop (i + 1)))) % pw2 (hN (ts.getD i tree0))
def atsN (ts : List TreeV) (x : Nat) : List Nat := (List.range ts.length).map (atN ts x)
theorem atsN_len (ts : List TreeV) (x : Nat) : (atsN ts x).length = ts.length := by simp [atsN]
theorem atsN_get (ts : List TreeV) (x : Nat) {i : Nat} (h : i < ts.length) : (atsN ts x)[i]? = some (atN ts x i) := by
 rw [atsN, List.getElem?_map, List.getElem?_range h]; rfl
theorem drop_rev {α : Type} {l : List α} {k : Nat} {a : α} (h : l[k]? = some a) : (l.drop k).reverse = (l.drop (k + 1)).reverse ++ [a] := by
 have hk := (List.getElem?_eq_some_iff.1 h).1
 rw [List.drop_eq_getElem_cons hk, List.reverse_cons, (List.getElem?_eq_some_iff.1 h).2]
theorem hsum_drop {ts : List TreeV} {k : Nat} {t : TreeV} (h : ts[k]? = some t) : hsum (ts.drop k) = hN t + hsum (ts.drop (k + 1)) := by
 have hk := (List.getElem?_eq_some_iff.1 h).1
 rw [List.drop_eq_getElem_cons hk, (List.getElem?_eq_some_iff.1 h).2]
 simp [hsum]
section
variable {G : World} {M : Mem} {L : Own}
theorem backwardT_spec {A : Option Addr} {n c : Nat} :
  Con Tryz.prog 132 #[.slice A n c] G M L (fun v M' L' => M = M' ∧ ∃ x0, L' = (x0, .cells (List.toArray [.slice A n c]) 103 (0, 0)) :: L ∧ v = .func (.func 179) (List.toArray []) (List.toArray [.pointer (some ⟨x0, 0, none⟩)])) noPanic := by
 refine enter (args := [_]) (fn := Tryz.f132) ⟨Tryz.func132, rfl, by kernel_rfl, by kernel_rfl⟩ 4 rfl <| zr <| tl_e rfl <| e_box rfl <| fun b1 => as0 rfl rfl <| zq <| zr <| tl_y rfl (y_makeFunc rfl rfl) <| asF rfl rfl <| zq <| x_ret (ret1 rfl rfl (Le.refl _) ⟨rfl, b1, rfl, rfl⟩)
theorem backwardT1_spec {l x0 : Nat} {A : Option Addr} {n c : Nat} {ts : List TreeV} {X0 : Own} (hr : Row M 4 A n c (trow ts)) {Inv : Nat → Mem → Own → Prop} {Dn : Mem → Own → Prop}
    (hy : ∀ k M1 X1 t, ts[k]? = some t → Le M M1 → Inv (k + 1) M1 X1 → YCon Tryz.prog l [.int .i64 (k : Nat), .agg (List.toArray t.cells)] G M1 X1 (Inv k) Dn) (h0 : Inv n M X0) :
    Con Tryz.prog 179 #[.func (.yield l) (List.toArray []) (List.toArray []), .pointer (some ⟨x0, 0, none⟩)] G M ((x0, .cells (List.toArray [.slice A n c]) 103 (0, 0)) :: X0)
      (fun v M' L' => ∃ X', L' = (x0, .cells (List.toArray [.slice A n c]) 103 (0, 0)) :: X' ∧ (Inv 0 M' X' ∨ Dn M' X')) noPanic := by
  have hmx := hr.max
  have hle := hr.le
  have hln : ts.length = n := by have := hr.len; rw [trow, flat_len tcl] at this; omega
  refine enter (args := [_, _]) (fn := Tryz.f179) ⟨Tryz.func179, rfl, by kernel_rfl, by kernel_rfl⟩ 19 rfl <| zr <| tl_y rfl (y_ld rfl rfl) <| tl_y rfl (y_len rfl) <| tl_y rfl (y_subI rfl rfl (by omega)) <| asI rfl rfl <| zq <| x_block ?_
  refine x_loop (I := fun m' F D M1 L1 => ∃ (k : Nat) (X1 : Own), k = m' ∧ k ≤ n ∧ Le M M1 ∧ Inv k M1 X1 ∧ D = [] ∧ L1 = (x0, .cells (List.toArray [.slice A n c]) 103 (0, 0)) :: X1 ∧ F = [(0, .func (.yield l) (List.toArray []) (List.toArray [])), (1, .pointer (some ⟨x0, 0, none⟩)), (3, .int .i64 ((k : Int) - 1))]) (n) (F0 := [(0, _), (1, _), (3, _)]) ?_ (.cons rfl (.cons rfl (.cons rfl .nil))) ?_  -- slots [0, 1, 3], written [3]
  · exact ⟨n, X0, rfl, by omega, Le.refl _, h0, rfl, rfl, rfl⟩
  rintro m _ _ M1 L1 ⟨k, X1, rfl, hk, hM1, hI, rfl, rfl, rfl⟩
  refine zr2 <| mvI rfl rfl <| tl_y rfl (y_geq rfl rfl) <| zq <| x_cond rfl (fun hc1 => ?_) (fun hc1 => ?_)
  ·
    obtain ⟨k, rfl⟩ : ∃ j, k = j + 1 := ⟨k - 1, by omega⟩
    obtain ⟨t, ht⟩ : ∃ t, ts[k]? = some t := ⟨_, List.getElem?_eq_getElem (by omega)⟩
    obtain ⟨g, o, rfl, hcell⟩ := (hr.mono hM1).cellsN (by omega)
    have hc2 := fun L => hcell L (k * 4) 4 (by rw [trow, flat_len tcl]; omega)
    simp only [trow, flat_take tcl ts k t ht] at hc2
    have e0 : (((k + 1 : Nat) : Int) - 1) = (k : Int) := by omega
    rw [e0]
    refine x_skip <| .then_normal <| x_seq <| x_block <| zr <| mvF rfl rfl <| mvI rfl rfl <| tl_y rfl (y_ld rfl rfl) <| mvI rfl rfl <| tl_y rfl (y_indexAddr rfl rfl (by omega)) <| tl_y rfl (y_loadAgg rfl rfl (.at_ (hc2 _) (by omega))) ?_
    refine tl_e rfl <| e_yieldB (R := [(x0, .cells (List.toArray [.slice (some ⟨g, o, none⟩) n c]) 103 (0, 0))]) (X := X1) rfl rfl (hy k M1 X1 t ht hM1 hI) <| fun b M2 X2 hM2 hb => ?_
    rw [List.singleton_append]
    refine tl_y rfl (y_not rfl) <| zq <| .s4 0 1 3 18 rfl rfl rfl rfl <| x_condb rfl (fun hc2 => ?_) (fun hc2 => ?_)
    ·
      refine x_ret (.block_ret (.then_ret (.loop_ret (.block_ret (ret0 rfl (hM1.trans hM2) ⟨X2, rfl, by
        rcases hb with ⟨rfl, _⟩ | ⟨_, hb⟩
        · simp at hc2
        · exact .inr hb⟩)))))
    ·
      refine x_skip <| .block_normal <| .then_normal <| x_region <| mvI rfl rfl <| tl_y rfl (y_subI rfl rfl (by omega)) <| asI rfl rfl <| tl_nil <| .loop_next (m' := k) (by omega) (F' := [(0, _), (1, _), (3, _)]) (.cons rfl (.cons rfl (.cons rfl .nil))) ?_
      exact ⟨k, X2, rfl, by omega, hM1.trans hM2, by
        rcases hb with ⟨_, hb⟩ | ⟨rfl, hb⟩
        · exact hb
        · simp at hc2, rfl, rfl, rfl⟩
  ·
    refine x_exit (.then_exit (.loop_exit (.block_exit (end0 rfl hM1 ⟨X1, rfl, .inl (by
      obtain rfl : k = 0 := by omega
      exact hI)⟩))))
end
end Go.Proofs.YtiimjodbaogjbaaGreatDoor
set_option linter.unusedVariables false
set_option linter.unusedSimpArgs false
set_option linter.constructorNameAsVariable false
namespace Go.Proofs.YtiimjodbaogjbaaGreatDoor
open Go Go.Eng
theorem and_low (y : UInt64) {H : Nat} (h : H ≤ 25) : (y &&& (shl64 1 H - 1)).toNat = y.toNat % pw2 H := by
 have h1 := shl64_one h
 have h2 := pw2_pos H
 have h3 := pw2_25 h
 have h4 : (shl64 1 H - 1).toNat = pw2 H - 1 := by
  rw [UInt64.toNat_sub_of_le _ _ (by rw [UInt64.le_iff_toNat_le, h1]; exact h2), h1]; rfl
 rw [UInt64.toNat_and, h4, pw2, Nat.and_two_pow_sub_one_eq_mod]
theorem and_low32 (y : UInt64) {H : Nat} (h : H ≤ 25) : (y &&& (shl64 1 H - 1)).toUInt32.toNat = y.toNat % pw2 H := by
 have h3 := pw2_25 h
 have h5 := Nat.mod_lt y.toNat (pw2_pos H)
 rw [UInt64.toNat_toUInt32, and_low y h, Nat.mod_eq_of_lt (by omega)]
theorem shr_low (y : UInt64) (H : Nat) : (shr64 y H).toNat = y.toNat / pw2 H := by
 have h1 := Nat.div_le_self y.toNat (pw2 H)
 have h2 := y.toNat_lt
 rw [shr64, UInt64.toNat_ofNat', show 2 ^ H = pw2 H from rfl, Nat.mod_eq_of_lt (by omega)]
theorem div_hsum (x a b : Nat) : x / pw2 b / pw2 a = x / pw2 (a + b) := by rw [Nat.div_div_eq_div_mul, ← pw2_add, Nat.add_comm]
section
variable {G : World} {M : Mem} {L : Own}
theorem places_spec (hg : HsG M) {A : Option Addr} {n c : Nat} {pl : List PairV} (h : Row M 2 A n c (prow pl)) (x : UInt64) :
    Con Tryz.prog 70 #[.slice A n c, .int .u64 (x.toNat : Int)] G M L (fun v M' L' => L' = L ∧ okL pl ∧ x.toNat < totN pl ∧ ∃ A' c', v = .slice A' n c' ∧ Row M' 1 A' n c' (u32r (atsN (pl.map tv) x.toNat))) (fun ch M' L' => L' = L ∧ ∃ e, ((¬ okL pl ∧ e = 4) ∨ (okL pl ∧ ¬ x.toNat < totN pl ∧ e = 9)) ∧ ch = hwrong e) := by
  have hln : pl.length = n := by have := h.len; rw [prow, flat_len pcl] at this; omega
  have hmx := h.max
  have hle := h.le
  refine enterM (args := [_, _]) (fn := Tryz.f70) ⟨Tryz.func70, rfl, by kernel_rfl, by kernel_rfl⟩ 37 rfl <| zr <| tl_e rfl <| e_box rfl <| fun b1 => as0 rfl rfl <| zq <| zr <| mvS rfl rfl <| tl_e rfl (e_call rfl (trees_spec hg h) (by
    rintro _ M1 _ hM1 ⟨rfl, hno, rfl⟩
    exact TP.dropTo L inferInstance (.retM0 hM1 ⟨rfl, 4, .inl ⟨hno, rfl⟩, rfl⟩)) ?_)
  rintro _ M1 _ hM1 ⟨rfl, hok, A1, c1, rfl, hrow⟩
  have htot : totN pl = pw2 (hsum (pl.map tv)) := by rw [totN, if_pos hok]
  refine asS rfl rfl <| zq <| .s2 3 5 rfl rfl <| x_seq <| x_draw 5 hmix rfl <| zy 0 rfl rfl (y_ld rfl rfl) <| zp 1 rfl rfl (y_move (v := .slice _ _ _) rfl) <| ze 2 rfl rfl <| e_call' rfl (total_spec hrow (okL_h hok) hok.2.2) ?_
  rintro _ _ _ _ ⟨rfl, rfl, rfl⟩
  refine ⟨⟨(by first | exact Le.refl _ | assumption), Keeps.mem⟩, ?_⟩
  refine zp 3 rfl rfl (y_lss rfl rfl) <| to_e 4 rfl (by kernel_rfl) rfl (e_call rfl (hmust_spec _ _) (by
    rintro _ _ _ _ ⟨rfl, rfl, ht, rfl⟩
    exact TP.dropTo L inferInstance (.retM0 hM1 ⟨rfl, 9, .inr ⟨hok, by rw [htot]; simp at ht; omega, rfl⟩, rfl⟩)) ?_)
  rintro _ _ _ _ ⟨rfl, rfl, ht⟩
  have hlt : x.toNat < totN pl := by rw [htot]; simp at ht; omega
  refine ⟨⟨(by first | exact Le.refl _ | assumption), Keeps.mem⟩, ?_⟩
  refine zz <| .then_normal <| .s2 3 5 rfl rfl <| zr <| tl_e rfl <| e_alloc <| fun b2 => zq <| zr2 <| mvS rfl rfl <| tl_e rfl <| e_call' rfl backwardT_spec ?_
  rintro _ _ _ _ ⟨rfl, x0, rfl, rfl⟩
  refine zq <| x_block <| x_rangeN rfl rfl <| fun l r0 fn tm lps las lbd hps has hbd htm => ?_
  obtain ⟨xs, hxs⟩ : ∃ xs : LoopState → Option Code → Option Addr → Nat → Nat → Own → UInt64 → Own, ∀ st pd A k c E y, xs st pd A k c E y = lrec l st pd fn tm lps las lbd r0 :: (r0, .deferred (some [])) :: (b2, .cells (List.toArray [.slice A k c]) 50 (0, 0)) :: (E ++ ((b1, .cells (List.toArray [.int .u64 (y.toNat : Int)]) 37 (0, 0)) :: L)) := ⟨_, fun _ _ _ _ _ _ _ => rfl⟩
  refine Con.postD (Con.to ((x0, .cells (List.toArray [.slice A1 n c1]) 103 (0, 0)) :: xs .ready none none 0 0 [] x) (by rw [hxs, List.nil_append]; infer_instance) (backwardT1_spec hrow (Inv := fun k M2 X2 => ∃ (A6 : Option Addr) (c6 : Nat) (E6 : Own) (y : UInt64), Le M1 M2 ∧ y.toNat = x.toNat / pw2 (hsum ((pl.map tv).drop k)) ∧ OwnRow 22 1 A6 (n - k) c6 (u32r ((atsN (pl.map tv) x.toNat).drop k).reverse) E6 ∧ X2 = xs .ready none A6 (n - k) c6 E6 y) (Dn := fun _ _ => False) ?_ ⟨none, 0, [], x, Le.refl _, by rw [List.drop_of_length_le (by simp; omega)]; simp [hsum, pw2], by rw [List.drop_of_length_le (by rw [atsN_len]; simp; omega), Nat.sub_self]; exact .nil, by rw [Nat.sub_self]⟩)) ?_
  · rintro k M2 X2 t ht hM2 ⟨A6, c6, E6, y, hM12, hy, hE6, rfl⟩
    rw [hxs]
    have hkm : k < n := by have := (List.getElem?_eq_some_iff.1 ht).1; simp at this; omega
    obtain ⟨hH, hH1, hH25⟩ := okL_h hok t (List.mem_of_getElem? ht)
    have hds := hsum_drop ht
    have hn8 : n ≤ 8 := by have := hok.1.2; omega
    have hat : y.toNat % pw2 (hN t) = atN (pl.map tv) x.toNat k := by
      rw [atN, hy, List.getD_eq_getElem?_getD, ht]; rfl
    have hdr := drop_rev (atsN_get (pl.map tv) x.toNat (i := k) (by simp; omega))
    subst hps
    subst has
    subst hbd
    refine ycon_body htm rfl (by kernel_rfl) <| fun R1 => ?_
    simp only [List.cons_append, List.append_assoc]
    refine x_region <| tl_e rfl <| e_alloc <| fun b7 => tl_e rfl <| e_st rfl rfl (by rfl) (by rfl) <| .bring l inferInstance <| tl_nil <| .asg (by kernel_rfl) <| x_block <| x_seq ?_
    have he : Le M2 M2 := Le.refl _
    refine x_draw 9 hmix rfl <| zy 0 rfl rfl (y_ld rfl rfl) <| zp 2 rfl rfl (y_fieldAddr rfl) <| to_two 1 3 (by kernel_rfl) ?_ ?_
    ·
      refine two_e 1 rfl rfl <| tr_y2 (y_ld rfl rfl) <| ⟨⟨he, Keeps.mem⟩, ?_⟩
      refine zy1 3 rfl rfl (y_load (v := .int .i64 ((hN t : Nat) : Int)) rfl rfl (by rw [← hH]; exact .own inferInstance inferInstance)) <| zp 4 rfl rfl (y_shl64 (a := 1) rfl rfl) <| zp 5 rfl rfl (y_sub64 (b := 1) rfl rfl) <| zp 6 rfl rfl (y_and64 rfl rfl) <| zp 7 rfl rfl (y_u64u32 rfl) ?_
      rw [show u32v ((y &&& (shl64 1 (hN t) - 1)).toUInt32) = .int .u32 ((atN (pl.map tv) x.toNat k : Nat) : Int) from congrArg (fun (x : Nat) => Value.int .u32 (x : Int)) ((and_low32 y hH25).trans hat)]
      refine ze 8 rfl rfl <| e_buildSlice rfl (by decide) <| fun b8 => ⟨⟨he, Keeps.mem⟩, ?_⟩
      refine .pub b8 inferInstance <| fun M5 hM5 hb8 => ?_
      replace he := he.trans hM5
      refine .bringE E6 inferInstance <| zt 9 rfl rfl <| e_append (by decide) rfl rfl hE6 (.row (Row.whole (s := 1) hb8 rfl (by omega))) rfl (by omega) (by omega) <| fun A9 c9 E9 hE9 => ?_
      have hrr : u32r ((atsN (pl.map tv) x.toNat).drop (k + 1)).reverse ++ [Value.int .u32 ((atN (pl.map tv) x.toNat k : Nat) : Int)] = u32r ((atsN (pl.map tv) x.toNat).drop k).reverse := by rw [hdr]; simp [u32r]
      rw [hrr, show n - (k + 1) + 1 = n - k by omega] at hE9
      rw [show n - (k + 1) + 1 = n - k by omega]
      refine zt 10 rfl rfl <| e_st rfl rfl (by rfl) (by rfl) <| zz <| .then_normal <| .s2 3 8 rfl rfl <| x_region <| tl_y rfl (y_ld rfl rfl) <| tl_y rfl (y_fieldAddr rfl) <| tl_y rfl (y_load (v := .int .i64 ((hN t : Nat) : Int)) rfl rfl (by rw [← hH]; exact .own inferInstance inferInstance)) <| tl_y rfl (y_shr64 rfl rfl) <| tl_e rfl <| e_st rfl rfl (by rfl) (by rfl) <| tl_nil (.block_normal (.on ((r0, .deferred (some [])) :: (b2, .cells (List.toArray [.slice A9 (n - k) c9]) 50 (0, 0)) :: (E9 ++ ((b1, .cells (List.toArray [.int .u64 ((shr64 y (hN t)).toNat : Int)]) 37 (0, 0)) :: (L ++ R1)))) inferInstance inferInstance
        (X := (r0, .deferred (some [])) :: (b2, .cells (List.toArray [.slice A9 (n - k) c9]) 50 (0, 0)) :: (E9 ++ ((b1, .cells (List.toArray [.int .u64 ((shr64 y (hN t)).toNat : Int)]) 37 (0, 0)) :: L))) (by simp) he ⟨A9, c9, E9, shr64 y (hN t), hM12.trans he, by rw [shr_low, hy, div_hsum, ← hds], hE9, (hxs _ _ _ _ _ _ _).symm⟩))
    ·
      refine two_e 3 rfl rfl <| tr_y2 (y_load (v := .int .i64 ((hN t : Nat) : Int)) rfl rfl (by rw [← hH]; exact .own inferInstance inferInstance)) <| ⟨⟨he, Keeps.mem⟩, ?_⟩
      refine zp 4 rfl rfl (y_shl64 (a := 1) rfl rfl) <| zp 5 rfl rfl (y_sub64 (b := 1) rfl rfl) <| zy1 1 rfl rfl (y_ld rfl rfl) <| zp 6 rfl rfl (y_and64 rfl rfl) <| zp 7 rfl rfl (y_u64u32 rfl) ?_
      rw [show u32v ((y &&& (shl64 1 (hN t) - 1)).toUInt32) = .int .u32 ((atN (pl.map tv) x.toNat k : Nat) : Int) from congrArg (fun (x : Nat) => Value.int .u32 (x : Int)) ((and_low32 y hH25).trans hat)]
      refine ze 8 rfl rfl <| e_buildSlice rfl (by decide) <| fun b8 => ⟨⟨he, Keeps.mem⟩, ?_⟩
      refine .pub b8 inferInstance <| fun M5 hM5 hb8 => ?_
      replace he := he.trans hM5
      refine .bringE E6 inferInstance <| zt 9 rfl rfl <| e_append (by decide) rfl rfl hE6 (.row (Row.whole (s := 1) hb8 rfl (by omega))) rfl (by omega) (by omega) <| fun A9 c9 E9 hE9 => ?_
      have hrr : u32r ((atsN (pl.map tv) x.toNat).drop (k + 1)).reverse ++ [Value.int .u32 ((atN (pl.map tv) x.toNat k : Nat) : Int)] = u32r ((atsN (pl.map tv) x.toNat).drop k).reverse := by rw [hdr]; simp [u32r]
      rw [hrr, show n - (k + 1) + 1 = n - k by omega] at hE9
      rw [show n - (k + 1) + 1 = n - k by omega]
      refine zt 10 rfl rfl <| e_st rfl rfl (by rfl) (by rfl) <| zz <| .then_normal <| .s2 3 8 rfl rfl <| x_region <| tl_y rfl (y_ld rfl rfl) <| tl_y rfl (y_fieldAddr rfl) <| tl_y rfl (y_load (v := .int .i64 ((hN t : Nat) : Int)) rfl rfl (by rw [← hH]; exact .own inferInstance inferInstance)) <| tl_y rfl (y_shr64 rfl rfl) <| tl_e rfl <| e_st rfl rfl (by rfl) (by rfl) <| tl_nil (.block_normal (.on ((r0, .deferred (some [])) :: (b2, .cells (List.toArray [.slice A9 (n - k) c9]) 50 (0, 0)) :: (E9 ++ ((b1, .cells (List.toArray [.int .u64 ((shr64 y (hN t)).toNat : Int)]) 37 (0, 0)) :: (L ++ R1)))) inferInstance inferInstance
        (X := (r0, .deferred (some [])) :: (b2, .cells (List.toArray [.slice A9 (n - k) c9]) 50 (0, 0)) :: (E9 ++ ((b1, .cells (List.toArray [.int .u64 ((shr64 y (hN t)).toNat : Int)]) 37 (0, 0)) :: L))) (by simp) he ⟨A9, c9, E9, shr64 y (hN t), hM12.trans he, by rw [shr_low, hy, div_hsum, ← hds], hE9, (hxs _ _ _ _ _ _ _).symm⟩))
  · rintro v M3 L3 hM3 ⟨X', rfl, hX⟩
    rcases hX with ⟨A6, c6, E6, y, hM13, hy, hE6, rfl⟩ | hX
    · refine ⟨lrec l .ready none fn tm lps las lbd r0 :: (r0, .deferred (some [])) :: (b2, .cells (List.toArray [.slice A6 (n - 0) c6]) 50 (0, 0)) :: (E6 ++ ((b1, .cells (List.toArray [.int .u64 (y.toNat : Int)]) 37 (0, 0)) :: L)), by rw [hxs]; infer_instance, .ready, none, _, by simp, rfl, ?_⟩
      rw [Nat.sub_zero] at hE6 ⊢
      have hn1 := hok.1.1
      refine .block_normal <| .then_normal <| .s1 6 rfl <| zr <| tl_y rfl (y_ld rfl rfl) <| .bringE E6 inferInstance <| tl_e rfl <| e_call' rfl (reverse_spec hE6 (by omega)) ?_
      rintro _ _ _ _ ⟨rfl, E8, rfl, hE8⟩
      rw [List.drop_zero, List.reverse_reverse] at hE8
      refine zq <| zr <| tl_y rfl (y_ld rfl rfl) <| asS rfl rfl <| zq <| .s1 4 rfl <| x_ret (.pubRow hE8 fun M9 hM9 hr9 => .retM1 (r := r0) (L1 := L) inferInstance (rv1 rfl (rc_tmp (by rfl))) inferInstance (hM1.trans (hM13.trans hM9)) ⟨rfl, hok, hlt, _, _, rfl, hr9⟩)
    · exact hX.elim
end
end Go.Proofs.YtiimjodbaogjbaaGreatDoor
set_option linter.unusedVariables false
set_option linter.unusedSimpArgs false
set_option linter.constructorNameAsVariable false
namespace Go.Proofs.YtiimjodbaogjbaaGreatDoor
open Go Go.Eng
def plE (l : List PairV) (x : Nat) : Int := if okL l then (if x < totN l then 0 else 9) else 4
def plV (l : List PairV) (x : Nat) : List Nat := if okL l ∧ x < totN l then atsN (l.map tv) x else []
section
variable {G : World} {M : Mem} {L : Own}
theorem Places1_spec (hg : HsG M) {A : Option Addr} {n c : Nat} {pl : List PairV} (h : Row M 2 A n c (prow pl)) (x : UInt64) {b1 b2 : Nat} [h1 : Has L b1 (.cells (List.toArray [.slice A n c]) 46 (0, 0))] [h2 : Has L b2 (.cells (List.toArray [.int .u64 (x.toNat : Int)]) 37 (0, 0))] :
  Con Tryz.prog 69 #[.pointer (some ⟨b1, 0, none⟩), .pointer (some ⟨b2, 0, none⟩)] G M L (fun v M' L' => L' = L ∧ ∃ A' n' c', v = .slice A' n' c' ∧ okL pl ∧ x.toNat < totN pl ∧ n' = n ∧ Row M' 1 A' n' c' (u32r (atsN (pl.map tv) x.toNat))) (fun ch M' L' => L' = L ∧ ∃ e, ((¬ okL pl ∧ e = 4) ∨ (okL pl ∧ ¬ x.toNat < totN pl ∧ e = 9)) ∧ ch = hwrong e) := by
 refine enter (args := [_, _]) (fn := Tryz.f69) ⟨Tryz.func69, rfl, by kernel_rfl, by kernel_rfl⟩ 6 rfl <| zr <| as0 rfl rfl <| zq <| zr <| tl_y rfl (y_ld rfl rfl) <| tl_y rfl (y_ld rfl rfl) <| tl_e rfl (e_call rfl (places_spec hg h x) (by
  rintro _ M1 _ hM1 ⟨rfl, e, he, rfl⟩
  exact .retA rfl hM1 ⟨rfl, e, he, rfl⟩) ?_)
 rintro _ M1 _ hM1 ⟨rfl, hok, hlt, A1, c1, rfl, hrow⟩
 refine asS rfl rfl <| zq <| .s1 2 rfl <| x_ret (ret1 rfl rfl hM1 ⟨rfl, _, _, _, rfl, hok, hlt, rfl, hrow⟩)
theorem Places_spec (hg : HsG M) {A : Option Addr} {n c : Nat} {pl : List PairV} (h : Row M 2 A n c (prow pl)) (x : UInt64) :
    Con Tryz.prog 25 #[.slice A n c, .int .u64 (x.toNat : Int)] G M L (fun v M' L' => L' = L ∧ ∃ A' n' c', v = .tuple #[.slice A' n' c', .int .i64 (plE pl x.toNat)] ∧ Row M' 1 A' n' c' (u32r (plV pl x.toNat))) noPanic := by
  refine enter (args := [_, _]) (fn := Tryz.f25) ⟨Tryz.func25, rfl, by kernel_rfl, by kernel_rfl⟩ 10 rfl <| zr <| tl_e rfl <| e_box rfl <| fun b1 => tl_e rfl <| e_box rfl <| fun b2 => as0 rfl rfl <| as0 rfl rfl <| zq <| .s2 2 3 rfl rfl <| zr <| tl_y rfl (y_makeFunc rfl rfl) ?_
  refine tl_e rfl <| e_call' rfl (caughtS_spec (K := fun A' n' c' M' => okL pl ∧ x.toNat < totN pl ∧ n' = n ∧ Row M' 1 A' n' c' (u32r (atsN (pl.map tv) x.toNat))) (Kp := fun e => (¬ okL pl ∧ e = 4) ∨ (okL pl ∧ ¬ x.toNat < totN pl ∧ e = 9)) (first := []) (cap := [.pointer (some ⟨b1, 0, none⟩), .pointer (some ⟨b2, 0, none⟩)]) (fun p' q' => Places1_spec hg h x)) ?_
  rintro v M1 _ hM1 ⟨rfl, hv⟩
  obtain ⟨A2, n2, c2, rfl, hrow⟩ : ∃ A' n' c', v = .tuple #[.slice A' n' c', .int .i64 (plE pl x.toNat)] ∧ Row M1 1 A' n' c' (u32r (plV pl x.toNat)) := by
    rcases hv with ⟨A', n', c', rfl, hok, hlt, rfl, hr⟩ | ⟨e, rfl, ⟨hno, rfl⟩ | ⟨hok, hno, rfl⟩⟩
    · exact ⟨A', n', c', by rw [plE, if_pos hok, if_pos hlt], by rw [plV, if_pos ⟨hok, hlt⟩]; exact hr⟩
    · exact ⟨none, 0, 0, by rw [plE, if_neg hno], by rw [plV, if_neg (fun h => hno h.1)]; exact Row.nil _ _⟩
    · exact ⟨none, 0, 0, by rw [plE, if_pos hok, if_neg hno], by rw [plV, if_neg (fun h => hno h.2)]; exact Row.nil _ _⟩
  refine zx rfl rfl <| zx rfl rfl <| asS rfl rfl <| asI rfl rfl <| zq <| .s2 4 5 rfl rfl <| x_ret (.dropTo L inferInstance (ret2 rfl rfl rfl hM1 ⟨rfl, _, _, _, rfl, hrow⟩))
theorem take_short {b : Nat} {A : Option Addr} {n c : Nat} (hn : n < 4) [hb : Has L b (.cells (List.toArray [.slice A n c]) 35 (0, 0))] :
  Con Tryz.prog 207 #[.pointer (some ⟨b, 0, none⟩), .int .i64 4] G M L (fun v M' L' => False) (fun ch M' L' => L' = L ∧ ch = hwrong 2) := by
 refine enter (args := [_, _]) (fn := Tryz.f207) ⟨Tryz.func207, rfl, by kernel_rfl, by kernel_rfl⟩ 27 rfl <| zr <| as0 rfl rfl <| zq <| zr <| mvP rfl rfl <| zc rfl rfl <| tl_y rfl (y_ld rfl rfl) <| tl_y rfl (y_len rfl) <| mvI rfl rfl ?_
 refine tl_y rfl (y_geq rfl rfl) <| tl_e rfl (e_call rfl (hmust_spec _ _) (by
  rintro _ _ _ _ ⟨rfl, rfl, ht, rfl⟩
  exact .retA rfl (Le.refl _) ⟨rfl, rfl⟩) (by
  rintro _ _ _ _ ⟨rfl, rfl, ht⟩
  exact absurd ht (by rw [decide_eq_true_iff]; omega)))
theorem count_short {b : Nat} {A : Option Addr} {n c : Nat} (hn : n < 4) [hb : Has L b (.cells (List.toArray [.slice A n c]) 35 (0, 0))] :
  Con Tryz.prog 164 #[.pointer (some ⟨b, 0, none⟩)] G M L (fun v M' L' => False) (fun ch M' L' => L' = L ∧ ch = hwrong 2) := by
 refine enter (args := [_]) (fn := Tryz.f164) ⟨Tryz.func164, rfl, by kernel_rfl, by kernel_rfl⟩ 13 rfl <| zr <| as0 rfl rfl <| zq <| zr <| mvP rfl rfl <| tl_e rfl (e_call rfl (take_short hn) (by
  rintro _ M1 _ hM1 ⟨rfl, rfl⟩
  exact .retA rfl hM1 ⟨rfl, rfl⟩) (fun _ _ _ _ h => h.elim))
theorem parts_short {A B : Option Addr} {n c m d : Nat} (hn : n < 4) :
  Con Tryz.prog 105 #[.slice A n c, .slice B m d] G M L (fun v M' L' => False) (fun ch M' L' => L' = L ∧ ch = hwrong 2) := by
 refine enter (args := [_, _]) (fn := Tryz.f105) ⟨Tryz.func105, rfl, by kernel_rfl, by kernel_rfl⟩ 56 rfl <| zr <| tl_e rfl <| e_box rfl <| fun b1 => tl_e rfl <| e_box rfl <| fun b2 => as0 rfl rfl <| zq <| zr <| tl_e rfl (e_call rfl (count_short hn) (by
  rintro _ M1 _ hM1 ⟨rfl, rfl⟩
  exact TP.dropTo L inferInstance (.retA rfl hM1 ⟨rfl, rfl⟩)) (fun _ _ _ _ h => h.elim))
theorem Read1_short {b1 b2 : Nat} {A B : Option Addr} {n c m d : Nat} (hn : n < 4) [h1 : Has L b1 (.cells (List.toArray [.slice A n c]) 35 (0, 0))] [h2 : Has L b2 (.cells (List.toArray [.slice B m d]) 35 (0, 0))] :
  Con Tryz.prog 104 #[.pointer (some ⟨b1, 0, none⟩), .pointer (some ⟨b2, 0, none⟩)] G M L (fun v M' L' => L' = L ∧ ∃ A n c, v = .slice A n c ∧ False) (fun ch M' L' => L' = L ∧ ∃ e, e = 2 ∧ ch = hwrong e) := by
 refine enter (args := [_, _]) (fn := Tryz.f104) ⟨Tryz.func104, rfl, by kernel_rfl, by kernel_rfl⟩ 30 rfl <| zr <| as0 rfl rfl <| zq <| zr <| as0 rfl rfl <| zq <| zr2 <| tl_y rfl (y_ld rfl rfl) <| tl_y rfl (y_ld rfl rfl) ?_
 refine tl_e rfl (e_call rfl (parts_short hn) (by
  rintro _ M1 _ hM1 ⟨rfl, rfl⟩
  exact .retA rfl hM1 ⟨rfl, 2, rfl, rfl⟩) (fun _ _ _ _ h => h.elim))
theorem Read_short {A B : Option Addr} {n c m d : Nat} (hn : n < 4) :
    Con Tryz.prog 46 #[.slice A n c, .slice B m d] G M L (fun v M' L' => L' = L ∧ v = .tuple #[.slice none 0 0, .int .i64 2]) noPanic := by
  refine enter (args := [_, _]) (fn := Tryz.f46) ⟨Tryz.func46, rfl, by kernel_rfl, by kernel_rfl⟩ 10 rfl <| zr <| tl_e rfl <| e_box rfl <| fun b1 => tl_e rfl <| e_box rfl <| fun b2 => as0 rfl rfl <| as0 rfl rfl <| zq <| .s2 2 3 rfl rfl <| zr <| tl_y rfl (y_makeFunc rfl rfl) ?_
  refine tl_e rfl <| e_call' rfl (caughtS_spec (K := fun _ _ _ _ => False) (Kp := fun e => e = 2) (first := []) (cap := [.pointer (some ⟨b1, 0, none⟩), .pointer (some ⟨b2, 0, none⟩)]) (fun p' q' => Read1_short hn)) ?_
  rintro v M1 _ hM1 ⟨rfl, hv⟩
  obtain rfl : v = .tuple #[.slice none 0 0, .int .i64 2] := by
    rcases hv with ⟨_, _, _, _, h⟩ | ⟨e, rfl, rfl⟩
    · exact h.elim
    · rfl
  refine zx rfl rfl <| zx rfl rfl <| asS rfl rfl <| asI rfl rfl <| zq <| .s2 4 5 rfl rfl <| x_ret (.dropTo L inferInstance (ret2 rfl rfl rfl hM1 ⟨rfl, rfl⟩))
end
end Go.Proofs.YtiimjodbaogjbaaGreatDoor
set_option linter.unusedVariables false
set_option linter.unusedSimpArgs false
set_option linter.constructorNameAsVariable false
namespace Go.Proofs.YtiimjodbaogjbaaGreatDoor
open Go Go.Eng
section
variable {G : World} {M : Mem} {L : Own}
theorem RSets12_spec (p : PairV) :
  Con Tryz.prog 16 #[.agg (List.toArray p.cells)] G M L (fun v M' L' => M = M' ∧ L = L' ∧ v = .tuple #[.agg (List.toArray (otsV p.o).cells), .agg (List.toArray (treeV p.t).cells), .bool (decide (okP p))]) noPanic := by
 refine enter (args := [_]) (fn := Tryz.f16) ⟨Tryz.func16, rfl, by kernel_rfl, by kernel_rfl⟩ 43 rfl <| zr <| tl_e rfl <| e_box rfl <| fun b1 => tl_e rfl <| e_alloc <| fun b2 => tl_e rfl <| e_alloc <| fun b3 => as0 rfl rfl <| zq <| zr <| tl_y rfl (y_fieldAddr rfl) <| tl_y rfl (y_ld rfl rfl) ?_
 refine tl_e rfl <| e_call' rfl (ROts_spec p.o) ?_
 rintro _ _ _ _ ⟨rfl, rfl, rfl⟩
 refine mvU rfl rfl <| zx rfl rfl <| zx rfl rfl <| tl_e rfl <| e_alloc <| fun b4 => tl_e rfl <| e_st rfl rfl (by rfl) (by rfl) <| asI rfl rfl <| zq <| .s5 1 2 3 5 6 rfl rfl rfl rfl rfl <| zr <| tl_y rfl (y_fieldAddr rfl) ?_
 refine tl_y rfl (y_ld rfl rfl) <| tl_e rfl <| e_call' rfl (RTree_spec p.t) ?_
 rintro _ _ _ _ ⟨rfl, rfl, rfl⟩
 refine mvU rfl rfl <| zx rfl rfl <| zx rfl rfl <| tl_e rfl <| e_alloc <| fun b5 => tl_e rfl <| e_st rfl rfl (by rfl) (by rfl) <| asI rfl rfl <| zq <| .s6 2 3 5 6 7 8 rfl rfl rfl rfl rfl rfl <| x_seq <| x_draw0 24 ([(b5, .cells (List.toArray (treeV p.t).cells) 29 (0, 0)), (b4, .cells (List.toArray (otsV p.o).cells) 27 (0, 0))]) Keeps.mem hmix rfl ?_
 refine zy 0 rfl rfl (y_lg rfl rfl) <| zy 1 rfl rfl (y_lg rfl rfl) <| zp 2 rfl rfl (y_move (v := .int _ _) rfl) <| zp 3 rfl rfl (y_eql rfl rfl) <| zp 4 rfl rfl (y_move (v := .bool _) rfl) <| to_cases (s := 25) rfl (fun hk1 => ?_) (fun hk1 => ?_)
 ·
  refine zp 5 rfl rfl (y_move (v := .int _ _) rfl) <| zp 6 rfl rfl (y_eql rfl rfl) <| zp 7 rfl rfl (y_pickT rfl rfl) <| zp 8 rfl rfl (y_move (v := .bool _) rfl) <| to_cases (s := 29) rfl (fun hk2 => ?_) (fun hk2 => ?_)
  ·
   refine zp 9 rfl rfl (y_fieldAddr rfl) <| zy 10 rfl rfl (y_ld rfl rfl) <| zp 11 rfl rfl (y_fieldAddr rfl) <| zy 12 rfl rfl (y_ld rfl rfl) <| zp 13 rfl rfl (y_eql rfl rfl) <| zp 14 rfl rfl (y_pickT rfl rfl) <| zp 15 rfl rfl (y_move (v := .bool _) rfl) <| to_cases (s := 36) rfl (fun hk3 => ?_) (fun hk3 => ?_)
   ·
    refine zp 16 rfl rfl (y_fieldAddr rfl) <| zy 17 rfl rfl (y_ld rfl rfl) <| zp 18 rfl rfl (y_fieldAddr rfl) <| zy 19 rfl rfl (y_ld rfl rfl) <| zp 20 rfl rfl (y_eql rfl rfl) <| zp 21 rfl rfl (y_pickT rfl rfl) <| ze 22 rfl rfl <| e_st rfl rfl (by rfl) (by rfl) <| ⟨⟨(by first | exact Le.refl _ | assumption), Keeps.mem⟩, ?_⟩
    refine ze 23 rfl rfl <| e_st rfl rfl (by rfl) (by rfl) <| ⟨⟨(by first | exact Le.refl _ | assumption), Keeps.mem⟩, ?_⟩
    refine zy1 24 rfl rfl (y_assign (v := .bool _) rfl) <| zz <| .then_normal <| .s3 2 3 4 rfl rfl rfl <| x_ret (retRV (L' := L) (rv3 rfl (rc_cellAgg (by rfl) rfl (.own inferInstance inferInstance)) (rc_cellAgg (by rfl) rfl (.own inferInstance inferInstance)) (rc_tmp (by rfl))) inferInstance (Le.refl _) ⟨rfl, rfl, by simp_all [okP]⟩)
   ·
    refine zs 16 rfl rfl <| zs 17 rfl rfl <| zs 18 rfl rfl <| zs 19 rfl rfl <| zs 20 rfl rfl <| zp 21 rfl rfl (y_pickF rfl rfl) <| ze 22 rfl rfl <| e_st rfl rfl (by rfl) (by rfl) <| ⟨⟨(by first | exact Le.refl _ | assumption), Keeps.mem⟩, ?_⟩
    refine ze 23 rfl rfl <| e_st rfl rfl (by rfl) (by rfl) <| ⟨⟨(by first | exact Le.refl _ | assumption), Keeps.mem⟩, ?_⟩
    refine zy1 24 rfl rfl (y_assign (v := .bool _) rfl) <| zz <| .then_normal <| .s3 2 3 4 rfl rfl rfl <| x_ret (retRV (L' := L) (rv3 rfl (rc_cellAgg (by rfl) rfl (.own inferInstance inferInstance)) (rc_cellAgg (by rfl) rfl (.own inferInstance inferInstance)) (rc_tmp (by rfl))) inferInstance (Le.refl _) ⟨rfl, rfl, by simp_all [okP]⟩)
  ·
   refine zs 9 rfl rfl <| zs 10 rfl rfl <| zs 11 rfl rfl <| zs 12 rfl rfl <| zs 13 rfl rfl <| zp 14 rfl rfl (y_pickF rfl rfl) <| zp 15 rfl rfl (y_move (v := .bool _) rfl) <| zs 16 rfl rfl <| zs 17 rfl rfl <| zs 18 rfl rfl ?_
   refine zs 19 rfl rfl <| zs 20 rfl rfl <| zp 21 rfl rfl (y_pickF rfl rfl) <| ze 22 rfl rfl <| e_st rfl rfl (by rfl) (by rfl) <| ⟨⟨(by first | exact Le.refl _ | assumption), Keeps.mem⟩, ?_⟩
   refine ze 23 rfl rfl <| e_st rfl rfl (by rfl) (by rfl) <| ⟨⟨(by first | exact Le.refl _ | assumption), Keeps.mem⟩, ?_⟩
   refine zy1 24 rfl rfl (y_assign (v := .bool _) rfl) <| zz <| .then_normal <| .s3 2 3 4 rfl rfl rfl <| x_ret (retRV (L' := L) (rv3 rfl (rc_cellAgg (by rfl) rfl (.own inferInstance inferInstance)) (rc_cellAgg (by rfl) rfl (.own inferInstance inferInstance)) (rc_tmp (by rfl))) inferInstance (Le.refl _) ⟨rfl, rfl, by simp_all [okP]⟩)
 ·
  refine zs 5 rfl rfl <| zs 6 rfl rfl <| zp 7 rfl rfl (y_pickF rfl rfl) <| zp 8 rfl rfl (y_move (v := .bool _) rfl) <| zs 9 rfl rfl <| zs 10 rfl rfl <| zs 11 rfl rfl <| zs 12 rfl rfl <| zs 13 rfl rfl <| zp 14 rfl rfl (y_pickF rfl rfl) ?_
  refine zp 15 rfl rfl (y_move (v := .bool _) rfl) <| zs 16 rfl rfl <| zs 17 rfl rfl <| zs 18 rfl rfl <| zs 19 rfl rfl <| zs 20 rfl rfl <| zp 21 rfl rfl (y_pickF rfl rfl) <| ze 22 rfl rfl <| e_st rfl rfl (by rfl) (by rfl) <| ⟨⟨(by first | exact Le.refl _ | assumption), Keeps.mem⟩, ?_⟩
  refine ze 23 rfl rfl <| e_st rfl rfl (by rfl) (by rfl) <| ⟨⟨(by first | exact Le.refl _ | assumption), Keeps.mem⟩, ?_⟩
  refine zy1 24 rfl rfl (y_assign (v := .bool _) rfl) <| zz <| .then_normal <| .s3 2 3 4 rfl rfl rfl <| x_ret (retRV (L' := L) (rv3 rfl (rc_cellAgg (by rfl) rfl (.own inferInstance inferInstance)) (rc_cellAgg (by rfl) rfl (.own inferInstance inferInstance)) (rc_tmp (by rfl))) inferInstance (Le.refl _) ⟨rfl, rfl, by simp_all [okP]⟩)
end
end Go.Proofs.YtiimjodbaogjbaaGreatDoor
set_option linter.unusedVariables false
set_option linter.unusedSimpArgs false
set_option linter.constructorNameAsVariable false
namespace Go.Proofs.YtiimjodbaogjbaaGreatDoor
open Go Go.Eng
section
variable {G : World} {M : Mem} {L : Own}
theorem Words_spec {A B : Option Addr} {n c m d : Nat} {xs ys : List Nat} (ha : Row M 1 A n c (u32r xs)) (hb : Row M 1 B m d (u32r ys)) (he : xs = ys) :
    Con Tryz.prog 27 #[.slice A n c, .slice B m d] G M L (fun v M' L' => M = M' ∧ L = L' ∧ v = .bool true) noPanic := by
  subst he
  have hmx := ha.max
  have hle := ha.le
  have hnl : xs.length = n := by have := ha.len; simp [u32r] at this; omega
  have hnl2 : xs.length = m := by have := hb.len; simp [u32r] at this; omega
  obtain rfl : n = m := by omega
  refine enter (args := [_, _]) (fn := Tryz.f27) ⟨Tryz.func27, rfl, by kernel_rfl, by kernel_rfl⟩ 26 rfl <| zr <| as0 rfl rfl <| zq <| zr2 <| mvS rfl rfl <| tl_y rfl (y_len rfl) <| mvS rfl rfl <| tl_y rfl (y_len rfl) <| tl_y rfl (y_neq rfl rfl) ?_
  refine zq <| .s4 0 1 4 10 rfl rfl rfl rfl <| x_false rfl (by simp) <| x_skip <| .then_normal <| zr2 <| as0 rfl rfl <| zq <| x_block ?_
  refine x_loop (I := fun m' F D M1 L1 => ∃ k : Nat, m' = n - k ∧ k ≤ n ∧ D = [] ∧ M = M1 ∧ L = L1 ∧ F = [(0, .slice A n c), (1, .slice B n d), (4, .bool false), (5, .int .i64 k)]) (n) (F0 := [(0, _), (1, _), (4, _), (5, _)]) ?_ (.cons rfl (.cons rfl (.cons rfl (.cons rfl .nil)))) ?_  -- slots [0, 1, 4, 5], written [4, 5]
  · exact ⟨0, rfl, by omega, rfl, rfl, rfl, rfl⟩
  rintro m _ _ _ _ ⟨k, rfl, hk, rfl, rfl, rfl, rfl⟩
  refine zr2 <| mvI rfl rfl <| mvS rfl rfl <| tl_y rfl (y_len rfl) <| tl_y rfl (y_lss rfl rfl) <| zq <| x_cond rfl (fun hc2 => ?_) (fun hc2 => ?_)
  ·
    have hkn : k < n := by omega
    obtain ⟨a, hxa⟩ : ∃ a, xs[k]? = some a := ⟨_, List.getElem?_eq_getElem (by omega)⟩
    obtain ⟨g, o, rfl, hcell⟩ := ha.addr (by omega)
    obtain ⟨g2, o2, rfl, hcell2⟩ := hb.addr (by omega)
    refine x_skip <| .then_normal <| .s4 0 1 4 5 rfl rfl rfl rfl <| x_seq <| x_block <| x_seq <| x_draw 9 hmix rfl <| zp 0 rfl rfl (y_move (v := .slice _ _ _) rfl) <| zp 1 rfl rfl (y_move (v := .int _ _) rfl) <| zp 2 rfl rfl (y_indexAddr rfl rfl (by omega)) <| zy 3 rfl rfl (y_load rfl rfl (.at_ (hcell _ k _ (u32r_get hxa)) (by omega))) ?_
    refine zp 4 rfl rfl (y_move (v := .slice _ _ _) rfl) <| zp 5 rfl rfl (y_move (v := .int _ _) rfl) <| zp 6 rfl rfl (y_indexAddr rfl rfl (by omega)) <| zy 7 rfl rfl (y_load rfl rfl (.at_ (hcell2 _ k _ (u32r_get hxa)) (by omega))) <| zp 8 rfl rfl (y_neq rfl rfl) <| zz <| .then_normal <| .s5 0 1 4 5 25 rfl rfl rfl rfl rfl <| x_false rfl (by simp) <| x_skip <| .block_normal <| .then_normal <| x_region ?_
    refine mvI rfl rfl <| tl_y rfl (y_addI rfl rfl (by omega)) <| asI rfl rfl <| tl_nil <| .loop_next (m' := n - (k + 1)) (by omega) (F' := [(0, _), (1, _), (4, _), (5, _)]) (.cons rfl (.cons rfl (.cons rfl (.cons rfl .nil)))) ?_
    exact ⟨k + 1, rfl, by omega, rfl, rfl, rfl, rfl⟩
  ·
    refine x_exit <| .then_exit <| .loop_exit <| .block_exit <| .then_normal <| .s0 <| zr <| as0 rfl rfl <| zq <| x_ret (ret1 rfl rfl (Le.refl _) ⟨rfl, rfl, rfl⟩)
end
end Go.Proofs.YtiimjodbaogjbaaGreatDoor
set_option linter.unusedVariables false
set_option linter.unusedSimpArgs false
set_option linter.constructorNameAsVariable false
namespace Go.Proofs.YtiimjodbaogjbaaGreatDoor
open Go Go.Eng
def l13 : List PairV := [⟨7, 4026531845⟩, ⟨7, 4026531846⟩]
theorem f13 : okL l13 ∧ totN l13 = 8 ∧ plE l13 5 = 0 ∧ plV l13 5 = [1, 1] ∧ plE l13 8 = 9 ∧ ¬ okL [] := by
 decide +kernel
section
variable {G : World} {M : Mem} {L : Own}
theorem awake13_spec (hg : HsG M) : Con Tryz.prog 24 #[] G M L (fun v M' L' => L' = L ∧ v = .bool true) noPanic := by
 obtain ⟨hok, htot, e5, v5, e8, hnil⟩ := f13
 refine enter (args := []) (fn := Tryz.f24) ⟨Tryz.func24, rfl, by kernel_rfl, by kernel_rfl⟩ 54 rfl <| zr <| as0 rfl rfl <| zq <| zr <| tl_y rfl (y_build rfl) <| tl_y rfl (y_build rfl) <| tl_e rfl <| e_buildSlice rfl (by decide) <| fun b1 => .pub b1 inferInstance <| fun M1 hM1 hb1 => ?_
 have hrow : Row M1 2 (some ⟨b1, 0, none⟩) 2 2 (prow l13) := Row.whole (vs := prow l13) hb1 rfl (by omega)
 have hm := hM1
 refine asS rfl rfl <| zq <| .s1 1 rfl <| zr <| mvS rfl rfl <| tl_e rfl <| e_call' rfl (Places_spec (hg.mono hm) hrow 5) ?_
 rintro _ M2 _ hM2 ⟨rfl, A2, n2, c2, rfl, hr2⟩
 rw [show (5 : UInt64).toNat = 5 from rfl, v5] at hr2
 rw [show (5 : UInt64).toNat = 5 from rfl, e5]
 replace hm := hm.trans hM2
 refine mvU rfl rfl <| zx rfl rfl <| zx rfl rfl <| asS rfl rfl <| asI rfl rfl <| zq <| .s3 1 2 3 rfl rfl rfl <| zr <| mvS rfl rfl <| tl_e rfl <| e_call' rfl (Places_spec (hg.mono hm) (hrow.mono hM2) 8) ?_
 rintro _ M3 _ hM3 ⟨rfl, A3, n3, c3, rfl, hr3⟩
 rw [show (8 : UInt64).toNat = 8 from rfl, e8]
 replace hm := hm.trans hM3
 refine mvU rfl rfl <| zx rfl rfl <| zx rfl rfl <| asS rfl rfl <| asI rfl rfl <| zq <| .s4 1 2 3 5 rfl rfl rfl rfl <| zr <| tl_e rfl <| e_buildSlice rfl (by decide) <| fun b2 => .pub b2 inferInstance <| fun M4 hM4 hb2 => ?_
 replace hm := hm.trans hM4
 refine tl_e rfl <| e_call' rfl (Read_short (by omega)) ?_
 rintro _ M5 _ hM5 ⟨rfl, rfl⟩
 replace hm := hm.trans hM5
 have hd5 := hM2.trans (hM3.trans (hM4.trans hM5))
 refine mvU rfl rfl <| zx rfl rfl <| zx rfl rfl <| asS rfl rfl <| asI rfl rfl <| zq <| .s5 1 2 3 5 7 rfl rfl rfl rfl rfl <| zr <| mvS rfl rfl <| tl_e rfl <| e_call' rfl (hMay_spec (hg.mono hm) (hrow.mono hd5)) ?_
 rintro _ M6 _ hM6 ⟨rfl, rfl⟩
 replace hm := hm.trans hM6
 refine mvB rfl rfl <| tl_set (s := 28) (u := .bool true) rfl (congrArg Value.bool (decide_eq_true hok)) <| mvS rfl rfl <| tl_e rfl <| e_call' rfl (Total_spec (hg.mono hm) (hrow.mono (hd5.trans hM6))) ?_
 rintro _ M7 _ hM7 ⟨rfl, rfl⟩
 rw [htot]
 replace hm := hm.trans hM7
 refine tl_y rfl (y_eql rfl rfl) <| tl_y rfl (y_pickT rfl rfl) <| mvB rfl rfl <| tl_set (s := 33) (u := .bool true) rfl (rfl) <| mvI rfl rfl <| tl_y rfl (y_eql rfl rfl) <| tl_y rfl (y_pickT rfl rfl) <| mvB rfl rfl <| tl_set (s := 37) (u := .bool true) rfl (rfl) <| mvS rfl rfl ?_
 refine tl_e rfl <| e_buildSlice rfl (by decide) <| fun b3 => .pub b3 inferInstance <| fun M8 hM8 hb3 => ?_
 replace hm := hm.trans hM8
 refine tl_e rfl <| e_call' rfl (Words_spec (hr2.mono (hM3.trans (hM4.trans (hM5.trans (hM6.trans (hM7.trans hM8)))))) (Row.whole (vs := u32r [1, 1]) hb3 rfl (by omega)) rfl) ?_
 rintro _ _ _ _ ⟨rfl, rfl, rfl⟩
 refine tl_y rfl (y_pickT rfl rfl) <| mvB rfl rfl <| tl_set (s := 42) (u := .bool true) rfl (rfl) <| mvI rfl rfl <| tl_y rfl (y_eql rfl rfl) <| tl_y rfl (y_pickT rfl rfl) <| mvB rfl rfl <| tl_set (s := 46) (u := .bool true) rfl (rfl) <| mvI rfl rfl <| tl_y rfl (y_eql rfl rfl) ?_
 refine tl_y rfl (y_pickT rfl rfl) <| mvB rfl rfl <| tl_set (s := 50) (u := .bool true) rfl (rfl) <| tl_e rfl <| e_call' rfl (hMay_spec (l := []) (hg.mono hm) (Row.nil _ _)) ?_
 rintro _ M9 _ hM9 ⟨rfl, rfl⟩
 refine tl_y rfl (y_notd rfl) <| tl_y rfl (y_pickT rfl rfl) <| asB rfl rfl <| zq <| .s1 0 rfl <| x_ret (ret1 rfl rfl (hm.trans hM9) ⟨rfl, congrArg Value.bool (decide_eq_true hnil)⟩)
end
end Go.Proofs.YtiimjodbaogjbaaGreatDoor
