/-
Contracts of functions, each proved by a walk through its code.
-/
import Derived.Test.YtlednbmmchalkaaDown
set_option linter.unusedVariables false
set_option linter.unusedSimpArgs false
namespace Go.Proofs.Ytlednbmmchalkaa
open Go Go.Eng
section
variable {G : World} {M : Mem} {L R : Own}
def fPend (ts : List Int) : Nat → List (Int × List UInt8)
  | 0 => []
  | m + 1 => fPend ts m ++ (if ((m + 1 : Nat) : Int) ∈ ts then [] else [(((m + 1 : Nat) : Int) % 2, rowB (UInt8.ofNat (m + 1)) 64)])
theorem fPend_le (ts : List Int) : ∀ m, (fPend ts m).length ≤ m
  | 0 => by simp [fPend]
  | m + 1 => by have := fPend_le ts m; simp only [fPend, List.length_append]; split <;> simp <;> omega
def dF (ts : List Int) (m : Nat) : DS := { sure := [zeros, zeros], pend := fPend ts m, fail := ts, stop := 0, count := m, down := false }
theorem dF_write (ts : List Int) (m : Nat) : writeRes (dF ts m) (((m + 1 : Nat) : Int) % 2) (rowB (UInt8.ofNat (m + 1)) 64) = (dF ts (m + 1), if ((m + 1 : Nat) : Int) ∈ ts then 7 else 0) := by
  have h1 : ¬ ((dF ts m).down = false ∧ (¬ (0 ≤ (((m + 1 : Nat) : Int) % 2) ∧ (((m + 1 : Nat) : Int) % 2) < (dF ts m).sure.length) ∨ (rowB (UInt8.ofNat (m + 1)) 64).length ≠ 64)) := by
    simp [dF, rowB_length]; omega
  rw [writeRes, if_neg h1, doingRes, if_neg (by simp [dF]), if_neg (by show ¬ ((m : Int) + 1 = 0); omega)]
  by_cases h : ((m + 1 : Nat) : Int) ∈ ts
  · have h' : (dF ts m).count + 1 ∈ (dF ts m).fail := h
    rw [if_pos h', if_pos h]
    have h2 : (m : Int) + 1 ∈ ts := by simpa using h
    simp [dF, fPend, h2]
  · have h' : ¬ ((dF ts m).count + 1 ∈ (dF ts m).fail) := h
    rw [if_neg h', if_neg h]
    have h2 : ¬ (m : Int) + 1 ∈ ts := by simpa using h
    simp [dF, fPend, added, h2]
theorem take_mem (ts : List Int) (q : Nat) (x : Int) (hq : q < ts.length) : (x ∈ ts.take (q + 1)) = (x ∈ ts.take q ∨ ts.getD q 0 = x) := by
  rw [take_snoc ts q 0 hq]
  simp [eq_comm]
theorem DiskFails_spec {A : Option Addr} {n c : Nat} {ts : List Int} (h : Row M 1 A n c (ts.map (.int .i8))) (ht : ∀ t ∈ ts, -128 ≤ t ∧ t ≤ 127) (x : UInt8) :
    Con Try.prog 3 #[.slice A n c, .int .u8 x.toNat] G M L (fun v M' L' => v = .bool true) noPanic := by
  have hx := x.toNat_lt
  have hl : ts.length = n := by have := h.len; simpa using this
  have hmx := h.max
  have hle := h.le
  refine enter (args := [_, _]) (fn := Try.f3) ⟨Try.func3, rfl, by kernel_rfl, by kernel_rfl⟩ 105 rfl ?_
  refine x_seq (x_region ?_)
  refine tl_y rfl (y_assign rfl) ?_
  refine tl_nil (.then_normal ?_)
  refine x_seq (x_seq (x_region ?_))
  refine tl_e rfl (e_call' rfl awake_spec ?_)
  rintro _ M1 L1 hM1 ⟨rfl, rfl⟩
  have hm := hM1
  refine tl_y rfl (y_not rfl) ?_
  refine tl_nil (.then_normal ?_)
  refine x_false rfl (rfl) ?_
  refine x_skip (.then_normal ?_)
  refine x_seq (x_seq (x_region ?_))
  refine tl_y rfl (y_move (v := .slice _ _ _) rfl) ?_
  refine tl_y rfl (y_len rfl) ?_
  refine tl_y rfl (y_gtr rfl rfl) ?_
  refine tl_nil (.then_normal ?_)
  refine .sub (F' := [(0, _), (1, _), (4, _), (20, _)]) (.cons rfl (.cons rfl (.cons rfl (.cons rfl .nil)))) ?_
  refine x_cond rfl (fun hc2 => ?_) (fun hc2 => ?_)
  ·
    refine x_seq (x_region ?_)
    refine tl_y rfl (y_assign rfl) ?_
    refine tl_nil (.then_normal ?_)
    refine x_ret (.then_ret (ret1 rfl rfl hm rfl))
  ·
    refine x_skip (.then_normal ?_)
    refine x_seq (x_region ?_)
    refine tl_e rfl (e_call' rfl (New_spec 2) ?_)
    intro _ M2 L2 hM2 hv
    replace hm := hm.trans hM2
    rw [if_neg (by omega)] at hv
    obtain ⟨p, ⟨r2, hd2, rfl⟩, rfl⟩ := hv
    refine tl_y rfl (y_move (v := .tuple _) rfl) ?_
    refine tl_y rfl (y_extract rfl) ?_
    refine tl_y rfl (y_extract rfl) ?_
    refine tl_y rfl (y_assign (v := .pointer _) rfl) ?_
    refine tl_y rfl (y_assign (v := .int _ _) rfl) ?_
    refine tl_nil (.then_normal ?_)
    refine .sub (F' := [(0, _), (1, _), (4, _), (5, _)]) (.cons rfl (.cons rfl (.cons rfl (.cons rfl .nil)))) ?_
    refine x_seq (x_seq (x_region ?_))
    refine tl_y rfl (y_move (v := .pointer _) rfl) ?_
    refine tl_y rfl (y_eqNilPtr rfl rfl) ?_
    refine tl_nil (.then_normal ?_)
    refine x_false rfl (rfl) ?_
    refine x_skip (.then_normal ?_)
    refine x_seq (x_region ?_)
    refine tl_e rfl (e_alloc (fun b1 => ?_))
    refine tl_nil (.then_normal ?_)
    refine x_seq (x_seq (x_region ?_))
    refine tl_y rfl (y_assign rfl) ?_
    refine tl_nil (.then_normal ?_)
    refine x_block ?_
    refine x_loop (I := fun m' F D M1 L1 => ∃ (k : Nat) (A' : Option Addr) (cap : Nat) (E : Own), m' = n - k ∧ k ≤ n ∧ M2 = M1 ∧ OwnRow 3 1 A' k cap ((ts.take k).map (.int .i64)) E ∧ D = [] ∧ L1 = (b1, .cells (List.toArray [.slice A' k cap, .int .i64 0]) 30 (0, 0)) :: (E ++ dL p r2 (fresh (2 : Int).toNat) L) ∧ F = [(0, .slice A n c), (1, .int .u8 x.toNat), (4, .bool false), (5, .pointer (some ⟨p, 0, none⟩)), (7, .pointer (some ⟨b1, 0, none⟩)), (8, .int .i64 k)]) (n) (F0 := [(0, _), (1, _), (4, _), (5, _), (7, _), (8, _)]) ?_ (.cons rfl (.cons rfl (.cons rfl (.cons rfl (.cons rfl (.cons rfl .nil)))))) ?_  -- slots [0, 1, 4, 5, 7, 8], written [8]
    · exact ⟨0, none, 0, [], rfl, by omega, rfl, by simpa using OwnRow.nil, rfl, rfl, rfl⟩
    rintro m _ _ M3 L3 ⟨k, A', cap, E, rfl, hk, rfl, hE, rfl, rfl, rfl⟩
    refine x_seq (x_seq (x_region ?_))
    refine tl_y rfl (y_move (v := .int _ _) rfl) ?_
    refine tl_y rfl (y_move (v := .slice _ _ _) rfl) ?_
    refine tl_y rfl (y_len rfl) ?_
    refine tl_y rfl (y_lss rfl rfl) ?_
    refine tl_nil (.then_normal ?_)
    refine x_cond rfl (fun hc4 => ?_) (fun hc4 => ?_)
    ·
      have hkn : k < n := by omega
      obtain ⟨g, o, rfl, hcell⟩ := (h.mono hm).addr (by omega)
      have hck := fun L => hcell L k (.int .i8 (ts.getD k 0)) (by rw [List.getElem?_map, List.getD_eq_getElem?_getD, List.getElem?_eq_getElem (by omega)]; rfl)
      have htk := ht (ts.getD k 0) (getD_mem _ _ _ (by omega))
      have ht1 : (ts.take (k + 1)).map (Value.int .i64) = (ts.take k).map (Value.int .i64) ++ [.int .i64 (ts.getD k 0)] := by rw [take_snoc ts k 0 (by omega)]; simp
      refine x_skip (.then_normal ?_)
      refine .sub (F' := [(0, _), (1, _), (4, _), (5, _), (7, _), (8, _)]) (.cons rfl (.cons rfl (.cons rfl (.cons rfl (.cons rfl (.cons rfl .nil)))))) ?_
      refine x_seq ?_
      refine x_block ?_
      refine x_draw0 10 ([(b1, .cells (List.toArray [.slice A' k cap, .int .i64 0]) 30 (0, 0))]) Keeps.mem hmix rfl ?_
      refine to_p 0 rfl (by kernel_rfl) rfl (y_fieldAddr rfl) ?_
      refine to_y 1 rfl (by kernel_rfl) rfl (y_load rfl rfl (.own inferInstance inferInstance)) ?_
      refine to_p 2 rfl (by kernel_rfl) rfl (y_move (v := .slice _ _ _) rfl) ?_
      refine to_p 3 rfl (by kernel_rfl) rfl (y_move (v := .int _ _) rfl) ?_
      refine to_p 4 rfl (by kernel_rfl) rfl (y_indexAddr rfl rfl (by omega)) ?_
      refine to_y 5 rfl (by kernel_rfl) rfl (y_load rfl rfl (.at_ (hck _) (by omega))) ?_
      refine to_p 6 rfl (by kernel_rfl) rfl (y_convI rfl (by omega)) ?_
      refine to_e 7 rfl (by kernel_rfl) rfl (e_buildSlice rfl (by decide) (fun b2 => ?_))
      refine ⟨⟨(by first | exact Le.refl _ | assumption), Keeps.mem⟩, ?_⟩
      refine .bringE E inferInstance ?_
      refine to_e 8 rfl (by kernel_rfl) rfl (e_append (E := E) (by decide) rfl rfl hE (.own inferInstance rfl) rfl (by omega) (by omega) (fun A2 cap2 E2 hE2 => ?_))
      rw [← ht1] at hE2
      refine ⟨⟨(by first | exact Le.refl _ | assumption), Keeps.mem⟩, ?_⟩
      refine to_p 9 rfl (by kernel_rfl) rfl (y_fieldAddr rfl) ?_
      refine to_t 10 rfl (by kernel_rfl) (by kernel_rfl) rfl (e_store rfl rfl (by rfl) (by rfl) inferInstance inferInstance inferInstance ?_)
      refine to_nil (by kernel_rfl) (.block_normal (.then_normal ?_))
      refine .dropTo ((b1, .cells (List.toArray [.slice A2 (k + 1) cap2, .int .i64 0]) 30 (0, 0)) :: (E2 ++ dL p r2 (fresh (2 : Int).toNat) L)) inferInstance ?_
      refine .sub (F' := [(0, _), (1, _), (4, _), (5, _), (7, _), (8, _)]) (.cons rfl (.cons rfl (.cons rfl (.cons rfl (.cons rfl (.cons rfl .nil)))))) ?_
      refine x_region ?_
      refine tl_y rfl (y_move (v := .int _ _) rfl) ?_
      refine tl_y rfl (y_addI rfl rfl (by omega)) ?_
      refine tl_y rfl (y_assign (v := .int _ _) rfl) ?_
      refine tl_nil (.loop_next (m' := n - (k + 1)) (by omega) (F' := [(0, _), (1, _), (4, _), (5, _), (7, _), (8, _)]) (.cons rfl (.cons rfl (.cons rfl (.cons rfl (.cons rfl (.cons rfl .nil)))))) ?_)
      exact ⟨k + 1, A2, cap2, E2, rfl, by omega, rfl, hE2, rfl, rfl, rfl⟩
    ·
      refine x_exit (.then_exit (.loop_exit (.block_exit (.then_normal ?_))))
      refine .sub (F' := [(0, _), (1, _), (4, _), (5, _), (7, _)]) (.cons rfl (.cons rfl (.cons rfl (.cons rfl (.cons rfl .nil))))) ?_
      refine x_seq (x_region ?_)
      refine tl_y rfl (y_move (v := .pointer _) rfl) ?_
      refine tl_y rfl (y_loadAgg rfl rfl (.own inferInstance inferInstance)) ?_
      refine .bringE E inferInstance ?_
      refine .pubRow hE (fun M3 hM3 hr => ?_)
      have hkn : k = ts.length := by omega
      have hr' : Ints M3 A' k cap ts := by rw [hkn] at hr ⊢; rwa [List.take_length] at hr
      refine tl_e rfl (e_call' rfl (Con.to (dL p r2 (fresh (2 : Int).toNat) ((b1, .cells (List.toArray [.slice A' k cap, .int .i64 0]) 30 (0, 0)) :: L)) inferInstance (Plan_spec (hd2.mono hM3) hr' (by omega) 0)) ?_)
      rintro _ M4 L4 hM4 ⟨r4, hd4, rfl⟩
      replace hm := hm.trans (hM3.trans hM4)
      change IsDisk _ _ (dF ts 0) at hd4
      refine tl_nil (.then_normal ?_)
      refine .eqL (L' := dL p r4 (dF ts 0) ((b1, .cells (List.toArray [.slice A' k cap, .int .i64 0]) 30 (0, 0)) :: L)) rfl (.dropTo (dL p r4 (dF ts 0) L) inferInstance ?_)
      refine .sub (F' := [(0, _), (1, _), (4, _), (5, _)]) (.cons rfl (.cons rfl (.cons rfl (.cons rfl .nil)))) ?_
      refine x_seq (x_region ?_)
      refine tl_y rfl (y_assign rfl) ?_
      refine tl_nil (.then_normal ?_)
      refine x_seq (x_seq (x_region ?_))
      refine tl_y rfl (y_assign rfl) ?_
      refine tl_nil (.then_normal ?_)
      refine x_block ?_
      refine x_loop (I := fun m' F D M1 L1 => ∃ (m : Nat) (r' : DRep), m' = 41 - m ∧ m ≤ 40 ∧ Le M M1 ∧ IsDisk M1 r' (dF ts m) ∧ D = [] ∧ L1 = dL p r' (dF ts m) L ∧ F = [(0, .slice A n c), (1, .int .u8 x.toNat), (4, .bool false), (5, .pointer (some ⟨p, 0, none⟩)), (9, .int .i64 (fPend ts m).length), (10, .int .i64 ((m + 1 : Nat) : Int))]) (41) (F0 := [(0, _), (1, _), (4, _), (5, _), (9, _), (10, _)]) ?_ (.cons rfl (.cons rfl (.cons rfl (.cons rfl (.cons rfl (.cons rfl .nil)))))) ?_  -- slots [0, 1, 4, 5, 9, 10], written [4, 9, 10]
      · exact ⟨0, r4, rfl, by omega, hm, hd4, rfl, rfl, rfl⟩
      rintro m _ _ M5 L5 ⟨m, r5, rfl, hm40, hm5, hd5, rfl, rfl, rfl⟩
      refine x_seq (x_seq (x_region ?_))
      refine tl_y rfl (y_move (v := .int _ _) rfl) ?_
      refine tl_y rfl (y_move (v := .int _ _) rfl) ?_
      refine tl_y rfl (y_convI rfl (by omega)) ?_
      refine tl_y rfl (y_remI rfl rfl (by omega)) ?_
      refine tl_y rfl (y_leq rfl rfl) ?_
      refine tl_nil (.then_normal ?_)
      refine .sub (F' := [(0, _), (1, _), (4, _), (5, _), (9, _), (10, _), (50, _)]) (.cons rfl (.cons rfl (.cons rfl (.cons rfl (.cons rfl (.cons rfl (.cons rfl .nil))))))) ?_
      refine x_cond rfl (fun hc5 => ?_) (fun hc5 => ?_)
      ·
        have hfl := fPend_le ts m
        refine x_skip (.then_normal ?_)
        refine x_seq ?_
        refine x_block ?_
        refine x_seq (x_region ?_)
        refine tl_y rfl (y_assign rfl) ?_
        refine tl_nil (.then_normal ?_)
        refine x_seq (x_seq (x_region ?_))
        refine tl_y rfl (y_assign rfl) ?_
        refine tl_nil (.then_normal ?_)
        refine x_block ?_
        refine x_loop (I := fun m' F D M1 L1 => ∃ (q : Nat), m' = n - q ∧ q ≤ n ∧ D = [] ∧ M5 = M1 ∧ L1 = dL p r5 (dF ts m) L ∧ F = [(0, .slice A n c), (1, .int .u8 x.toNat), (4, .bool false), (5, .pointer (some ⟨p, 0, none⟩)), (9, .int .i64 (fPend ts m).length), (10, .int .i64 ((m + 1 : Nat) : Int)), (11, .bool (decide (((m + 1 : Nat) : Int) ∈ ts.take q))), (12, .int .i64 q)]) (n) (F0 := [(0, _), (1, _), (4, _), (5, _), (9, _), (10, _), (11, _), (12, _)]) ?_ (.cons rfl (.cons rfl (.cons rfl (.cons rfl (.cons rfl (.cons rfl (.cons rfl (.cons rfl .nil)))))))) ?_  -- slots [0, 1, 4, 5, 9, 10, 11, 12], written [11, 12]
        · exact ⟨0, rfl, by omega, rfl, rfl, rfl, by simp⟩
        rintro m _ _ M6 L6 ⟨q, rfl, hq, rfl, rfl, rfl, rfl⟩
        refine x_seq (x_seq (x_region ?_))
        refine tl_y rfl (y_move (v := .int _ _) rfl) ?_
        refine tl_y rfl (y_move (v := .slice _ _ _) rfl) ?_
        refine tl_y rfl (y_len rfl) ?_
        refine tl_y rfl (y_lss rfl rfl) ?_
        refine tl_nil (.then_normal ?_)
        refine x_cond rfl (fun hc6 => ?_) (fun hc6 => ?_)
        ·
          have hqn : q < n := by omega
          obtain ⟨g, o, rfl, hcell⟩ := (h.mono hm5).addr (by omega)
          have hcq := fun L => hcell L q (.int .i8 (ts.getD q 0)) (by rw [List.getElem?_map, List.getD_eq_getElem?_getD, List.getElem?_eq_getElem (by omega)]; rfl)
          have htq := ht (ts.getD q 0) (getD_mem _ _ _ (by omega))
          have htm := take_mem ts q ((m + 1 : Nat) : Int) (by omega)
          refine x_skip (.then_normal ?_)
          refine .sub (F' := [(0, _), (1, _), (4, _), (5, _), (9, _), (10, _), (11, _), (12, _)]) (.cons rfl (.cons rfl (.cons rfl (.cons rfl (.cons rfl (.cons rfl (.cons rfl (.cons rfl .nil)))))))) ?_
          refine x_seq ?_
          refine x_block ?_
          refine x_region ?_
          refine tl_y rfl (y_move (v := .bool _) rfl) ?_
          refine tl_y rfl (y_move (v := .bool _) rfl) ?_
          refine tl_cases (s := 60) rfl (fun hk1 => ?_) (fun hk1 => ?_)
          ·
            refine tl_skip rfl ?_
            refine tl_skip rfl ?_
            refine tl_skip rfl ?_
            refine tl_skip rfl ?_
            refine tl_skip rfl ?_
            refine tl_skip rfl ?_
            refine tl_skip rfl ?_
            refine tl_y rfl (y_pickT rfl rfl) ?_
            refine tl_y rfl (y_assign (v := .bool _) rfl) ?_
            refine tl_nil (.block_normal (.then_normal ?_))
            refine .sub (F' := [(0, _), (1, _), (4, _), (5, _), (9, _), (10, _), (11, _), (12, _)]) (.cons rfl (.cons rfl (.cons rfl (.cons rfl (.cons rfl (.cons rfl (.cons rfl (.cons rfl .nil)))))))) ?_
            refine x_region ?_
            refine tl_y rfl (y_move (v := .int _ _) rfl) ?_
            refine tl_y rfl (y_addI rfl rfl (by omega)) ?_
            refine tl_y rfl (y_assign (v := .int _ _) rfl) ?_
            refine tl_nil (.loop_next (m' := n - (q + 1)) (by omega) (F' := [(0, _), (1, _), (4, _), (5, _), (9, _), (10, _), (11, _), (12, _)]) (.cons rfl (.cons rfl (.cons rfl (.cons rfl (.cons rfl (.cons rfl (.cons rfl (.cons rfl .nil)))))))) ?_)
            exact ⟨q + 1, rfl, by omega, rfl, rfl, rfl, by rw [decide_eq_true (show ((m + 1 : Nat) : Int) ∈ ts.take (q + 1) by rw [htm]; exact .inl hk1)]; rfl⟩
          ·
            refine tl_y rfl (y_move (v := .slice _ _ _) rfl) ?_
            refine tl_y rfl (y_move (v := .int _ _) rfl) ?_
            refine tl_y rfl (y_indexAddr rfl rfl (by omega)) ?_
            refine tl_y rfl (y_load rfl rfl (.at_ (hcq _) (by omega))) ?_
            refine tl_y rfl (y_convI rfl (by omega)) ?_
            refine tl_y rfl (y_move (v := .int _ _) rfl) ?_
            refine tl_y rfl (y_eql rfl rfl) ?_
            refine tl_y rfl (y_pickF rfl rfl) ?_
            refine tl_y rfl (y_assign (v := .bool _) rfl) ?_
            refine tl_nil (.block_normal (.then_normal ?_))
            refine .sub (F' := [(0, _), (1, _), (4, _), (5, _), (9, _), (10, _), (11, _), (12, _)]) (.cons rfl (.cons rfl (.cons rfl (.cons rfl (.cons rfl (.cons rfl (.cons rfl (.cons rfl .nil)))))))) ?_
            refine x_region ?_
            refine tl_y rfl (y_move (v := .int _ _) rfl) ?_
            refine tl_y rfl (y_addI rfl rfl (by omega)) ?_
            refine tl_y rfl (y_assign (v := .int _ _) rfl) ?_
            refine tl_nil (.loop_next (m' := n - (q + 1)) (by omega) (F' := [(0, _), (1, _), (4, _), (5, _), (9, _), (10, _), (11, _), (12, _)]) (.cons rfl (.cons rfl (.cons rfl (.cons rfl (.cons rfl (.cons rfl (.cons rfl (.cons rfl .nil)))))))) ?_)
            exact ⟨q + 1, rfl, by omega, rfl, rfl, rfl, by rw [show decide (((m + 1 : Nat) : Int) ∈ ts.take (q + 1)) = decide (ts.getD q 0 = ((m + 1 : Nat) : Int)) by rw [decide_eq_decide, htm]; exact ⟨fun hh => hh.resolve_left hk1, .inr⟩]; rfl⟩
        ·
          have hqn : q = ts.length := by omega
          rw [hqn, List.take_length]
          refine x_exit (.then_exit (.loop_exit (.block_exit (.then_normal ?_))))
          refine .sub (F' := [(0, _), (1, _), (4, _), (5, _), (9, _), (10, _), (11, _)]) (.cons rfl (.cons rfl (.cons rfl (.cons rfl (.cons rfl (.cons rfl (.cons rfl .nil))))))) ?_
          refine x_seq (x_region ?_)
          refine tl_y rfl (y_move (v := .pointer _) rfl) ?_
          refine tl_y rfl (y_move (v := .int _ _) rfl) ?_
          refine tl_y rfl (y_remI rfl rfl (by omega)) ?_
          refine tl_y rfl (y_move (v := .int _ _) rfl) ?_
          refine tl_y rfl (y_conv rfl) ?_
          refine tl_e rfl (e_call' rfl (row64_spec _ _ (u8_cast (m + 1))) ?_)
          rintro _ M7 L7 hM7 ⟨rfl, A7, rfl, hA7⟩
          refine tl_e rfl (e_call' rfl (Write_spec (S := dF ts m) (hd5.mono hM7) (by show _ ≤ (m : Int) ∧ (m : Int) ≤ _; omega) (by show (fPend ts m).length ≤ _; omega) hA7) ?_)
          rintro _ M8 L8 hM8 ⟨⟨r8, hd8, rfl⟩, rfl⟩
          replace hm5 := hm5.trans (hM7.trans hM8)
          rw [dF_write] at hd8 ⊢
          refine tl_y rfl (y_assign (v := .int _ _) rfl) ?_
          refine tl_nil (.then_normal ?_)
          refine .sub (F' := [(0, _), (1, _), (4, _), (5, _), (9, _), (10, _), (11, _), (13, _)]) (.cons rfl (.cons rfl (.cons rfl (.cons rfl (.cons rfl (.cons rfl (.cons rfl (.cons rfl .nil)))))))) ?_
          refine x_seq (x_seq (x_region ?_))
          refine tl_y rfl (y_move (v := .int _ _) rfl) ?_
          refine tl_y rfl (y_neq rfl rfl) ?_
          refine tl_y rfl (y_move (v := .bool _) rfl) ?_
          refine tl_cases (s := 78) rfl (fun hk2 => ?_) (fun hk2 => ?_)
          ·
            have hf : ((m + 1 : Nat) : Int) ∈ ts := Classical.byContradiction fun hf => hk2 (if_neg hf)
            simp only [if_pos hf, decide_eq_true hf]
            refine tl_y rfl (y_move (v := .int _ _) rfl) ?_
            refine tl_y rfl (y_neq rfl rfl) ?_
            refine tl_y rfl (y_pickT rfl rfl) ?_
            refine tl_y rfl (y_move (v := .bool _) rfl) ?_
            refine tl_set (s := 82) (u := .bool false) rfl (rfl) ?_
            refine tl_y rfl (y_move (v := .int _ _) rfl) ?_
            refine tl_y rfl (y_eql rfl rfl) ?_
            refine tl_y rfl (y_move (v := .bool _) rfl) ?_
            refine tl_y rfl (y_neqBool rfl rfl) ?_
            refine tl_y rfl (y_pickF rfl rfl) ?_
            refine tl_nil (.then_normal ?_)
            refine .sub (F' := [(0, _), (1, _), (4, _), (5, _), (9, _), (10, _), (11, _), (87, _)]) (.cons rfl (.cons rfl (.cons rfl (.cons rfl (.cons rfl (.cons rfl (.cons rfl (.cons rfl .nil)))))))) ?_
            refine x_false rfl (rfl) ?_
            refine x_skip (.then_normal ?_)
            refine x_seq (x_seq (x_region ?_))
            refine tl_y rfl (y_move (v := .bool _) rfl) ?_
            refine tl_y rfl (y_not rfl) ?_
            refine tl_nil (.then_normal ?_)
            refine x_false rfl (rfl) ?_
            refine x_skip (.then_normal ?_)
            refine .sub (F' := [(0, _), (1, _), (4, _), (5, _), (9, _), (10, _)]) (.cons rfl (.cons rfl (.cons rfl (.cons rfl (.cons rfl (.cons rfl .nil)))))) ?_
            refine x_seq (x_region ?_)
            refine tl_y rfl (y_move (v := .pointer _) rfl) ?_
            refine tl_e rfl (e_call' rfl (Count_spec (S := dF ts (m + 1)) hd8) ?_)
            rintro _ M9 L9 hM9 ⟨rfl, rfl, rfl⟩
            have hpl : (fPend ts (m + 1)).length = (fPend ts m).length := by simp [fPend, show (m : Int) + 1 ∈ ts by simpa using hf]
            refine tl_y rfl (y_move (v := .tuple _) rfl) ?_
            refine tl_y rfl (y_extract rfl) ?_
            refine tl_y rfl (y_extract rfl) ?_
            refine tl_y rfl (y_assign (v := .int _ _) rfl) ?_
            refine tl_y rfl (y_assign (v := .int _ _) rfl) ?_
            refine tl_nil (.then_normal ?_)
            refine .sub (F' := [(0, _), (1, _), (4, _), (5, _), (9, _), (10, _), (14, _), (15, _)]) (.cons rfl (.cons rfl (.cons rfl (.cons rfl (.cons rfl (.cons rfl (.cons rfl (.cons rfl .nil)))))))) ?_
            refine x_seq (x_region ?_)
            refine tl_y rfl (y_move (v := .int _ _) rfl) ?_
            refine tl_y rfl (y_move (v := .int _ _) rfl) ?_
            refine tl_y rfl (y_neq rfl rfl) ?_
            refine tl_y rfl (y_move (v := .bool _) rfl) ?_
            refine tl_set (s := 100) (u := .bool false) rfl (by congr 1; rw [decide_eq_false]; simp [dF]) ?_
            refine tl_y rfl (y_move (v := .int _ _) rfl) ?_
            refine tl_y rfl (y_move (v := .int _ _) rfl) ?_
            refine tl_y rfl (y_neq rfl rfl) ?_
            refine tl_y rfl (y_pickF rfl rfl) ?_
            refine tl_nil (.then_normal ?_)
            refine .sub (F' := [(0, _), (1, _), (4, _), (5, _), (9, _), (10, _), (104, _)]) (.cons rfl (.cons rfl (.cons rfl (.cons rfl (.cons rfl (.cons rfl (.cons rfl .nil))))))) ?_
            refine x_false rfl (by rw [decide_eq_false]; simp [dF, hpl]) ?_
            refine x_skip (.block_normal (.then_normal ?_))
            refine x_region ?_
            refine tl_y rfl (y_move (v := .int _ _) rfl) ?_
            refine tl_y rfl (y_addI rfl rfl (by omega)) ?_
            refine tl_y rfl (y_assign (v := .int _ _) rfl) ?_
            refine tl_nil (.loop_next (m' := 41 - (m + 1)) (by omega) (F' := [(0, _), (1, _), (4, _), (5, _), (9, _), (10, _)]) (.cons rfl (.cons rfl (.cons rfl (.cons rfl (.cons rfl (.cons rfl .nil)))))) ?_)
            exact ⟨m + 1, r8, rfl, by omega, hm5, hd8, rfl, rfl, by rw [hpl]; rfl⟩
          ·
            have hf : ¬ ((m + 1 : Nat) : Int) ∈ ts := fun hf => hk2 (by rw [if_pos hf]; omega)
            simp only [if_neg hf, decide_eq_false hf]
            refine tl_skip rfl ?_
            refine tl_skip rfl ?_
            refine tl_y rfl (y_pickF rfl rfl) ?_
            refine tl_y rfl (y_move (v := .bool _) rfl) ?_
            refine tl_y rfl (y_move (v := .int _ _) rfl) ?_
            refine tl_y rfl (y_eql rfl rfl) ?_
            refine tl_y rfl (y_move (v := .bool _) rfl) ?_
            refine tl_y rfl (y_neqBool rfl rfl) ?_
            refine tl_y rfl (y_pickF rfl rfl) ?_
            refine tl_nil (.then_normal ?_)
            refine .sub (F' := [(0, _), (1, _), (4, _), (5, _), (9, _), (10, _), (11, _), (87, _)]) (.cons rfl (.cons rfl (.cons rfl (.cons rfl (.cons rfl (.cons rfl (.cons rfl (.cons rfl .nil)))))))) ?_
            refine x_false rfl (rfl) ?_
            refine x_skip (.then_normal ?_)
            refine x_seq (x_seq (x_region ?_))
            refine tl_y rfl (y_move (v := .bool _) rfl) ?_
            refine tl_y rfl (y_not rfl) ?_
            refine tl_nil (.then_normal ?_)
            refine x_true rfl (rfl) ?_
            refine x_region ?_
            refine tl_y rfl (y_move (v := .int _ _) rfl) ?_
            refine tl_y rfl (y_addI rfl rfl (by omega)) ?_
            refine tl_y rfl (y_assign (v := .int _ _) rfl) ?_
            refine tl_nil (.then_normal ?_)
            refine .sub (F' := [(0, _), (1, _), (4, _), (5, _), (9, _), (10, _)]) (.cons rfl (.cons rfl (.cons rfl (.cons rfl (.cons rfl (.cons rfl .nil)))))) ?_
            refine x_seq (x_region ?_)
            refine tl_y rfl (y_move (v := .pointer _) rfl) ?_
            refine tl_e rfl (e_call' rfl (Count_spec (S := dF ts (m + 1)) hd8) ?_)
            rintro _ M9 L9 hM9 ⟨rfl, rfl, rfl⟩
            have hpl : (fPend ts (m + 1)).length = (fPend ts m).length + 1 := by simp [fPend, show ¬ (m : Int) + 1 ∈ ts by simpa using hf]
            refine tl_y rfl (y_move (v := .tuple _) rfl) ?_
            refine tl_y rfl (y_extract rfl) ?_
            refine tl_y rfl (y_extract rfl) ?_
            refine tl_y rfl (y_assign (v := .int _ _) rfl) ?_
            refine tl_y rfl (y_assign (v := .int _ _) rfl) ?_
            refine tl_nil (.then_normal ?_)
            refine .sub (F' := [(0, _), (1, _), (4, _), (5, _), (9, _), (10, _), (14, _), (15, _)]) (.cons rfl (.cons rfl (.cons rfl (.cons rfl (.cons rfl (.cons rfl (.cons rfl (.cons rfl .nil)))))))) ?_
            refine x_seq (x_region ?_)
            refine tl_y rfl (y_move (v := .int _ _) rfl) ?_
            refine tl_y rfl (y_move (v := .int _ _) rfl) ?_
            refine tl_y rfl (y_neq rfl rfl) ?_
            refine tl_y rfl (y_move (v := .bool _) rfl) ?_
            refine tl_set (s := 100) (u := .bool false) rfl (by congr 1; rw [decide_eq_false]; simp [dF]) ?_
            refine tl_y rfl (y_move (v := .int _ _) rfl) ?_
            refine tl_y rfl (y_move (v := .int _ _) rfl) ?_
            refine tl_y rfl (y_neq rfl rfl) ?_
            refine tl_y rfl (y_pickF rfl rfl) ?_
            refine tl_nil (.then_normal ?_)
            refine .sub (F' := [(0, _), (1, _), (4, _), (5, _), (9, _), (10, _), (104, _)]) (.cons rfl (.cons rfl (.cons rfl (.cons rfl (.cons rfl (.cons rfl (.cons rfl .nil))))))) ?_
            refine x_false rfl (by rw [decide_eq_false]; simp [dF, hpl]) ?_
            refine x_skip (.block_normal (.then_normal ?_))
            refine x_region ?_
            refine tl_y rfl (y_move (v := .int _ _) rfl) ?_
            refine tl_y rfl (y_addI rfl rfl (by omega)) ?_
            refine tl_y rfl (y_assign (v := .int _ _) rfl) ?_
            refine tl_nil (.loop_next (m' := 41 - (m + 1)) (by omega) (F' := [(0, _), (1, _), (4, _), (5, _), (9, _), (10, _)]) (.cons rfl (.cons rfl (.cons rfl (.cons rfl (.cons rfl (.cons rfl .nil)))))) ?_)
            exact ⟨m + 1, r8, rfl, by omega, hm5, hd8, rfl, rfl, by rw [hpl]; rfl⟩
      ·
        refine x_exit (.then_exit (.loop_exit (.block_exit (.then_normal ?_))))
        refine .sub (F' := []) .nil ?_
        refine x_seq (x_region ?_)
        refine tl_y rfl (y_assign rfl) ?_
        refine tl_nil (.then_normal ?_)
        refine x_ret (ret1 rfl rfl hm5 rfl)
end
end Go.Proofs.Ytlednbmmchalkaa
