/-
Contracts of functions, each proved by a walk through its code.
-/
import Derived.Test.YtgpjbjbdfkiklaaDoorRef8bEtc
set_option linter.unusedVariables false
set_option linter.unusedSimpArgs false
set_option linter.constructorNameAsVariable false
namespace Go.Proofs.YtgpjbjbdfkiklaaDoor
open Go Go.Eng
section
variable {G : World} {M : Mem} {L : Own}
theorem RClimb_spec (t : TreeV) {NA : Option Addr} {nl nc : Nat} {name : List UInt8} (hname : Bytes M NA nl nc name) (q : UInt32) {KA : Option Addr} {kl kc : Nat} {key : List UInt8} (hkey : Bytes M KA kl kc key) (hkl : kl ≤ 1000000000000) {WA : Option Addr} {wl wc : Nat} {wvs : List Value} {way : List (List UInt8)} (h : Row M 1 WA wl wc wvs) (hw : BRows M wvs way) :
    Con Tryd.prog 35 #[.agg (List.toArray t.cells), .slice NA nl nc, .int .u32 (q.toNat : Int), .slice KA kl kc, .slice WA wl wc] G M L (fun v M' L' => L = L' ∧ ∃ A' m' c', v = .tuple #[.slice A' m' c', .int .i64 (climbE t nl q.toNat way)] ∧ Bytes M' A' m' c' (climbB t name q.toNat key way)) noPanic := by
  have hmx := h.max
  have hle := h.le
  have hvl := hw.len
  have hwn : wvs.length = wl := by have := h.len; omega
  have hnl := hname.size
  have hqq := q.toNat_lt
  have hno : ∀ {A' : Option Addr} {m' c' : Nat} {M' : Mem}, ¬ okW t nl q.toNat way → ∃ A' m' c', (Value.tuple #[.slice none 0 0, .int .i64 1]) = .tuple #[.slice A' m' c', .int .i64 (climbE t nl q.toNat way)] ∧ Bytes M' A' m' c' (climbB t name q.toNat key way) := by
    intro _ _ _ M' hn
    rw [climbE, if_neg hn, climbB, if_neg (by rw [hnl]; exact hn)]
    exact ⟨_, _, _, rfl, Row.nil _ _⟩
  refine enter (args := [_, _, _, _, _]) (fn := Tryd.f35) ⟨Tryd.func35, rfl, by kernel_rfl, by kernel_rfl⟩ 98 rfl ?_
  refine x_seq (x_region ?_)
  refine tl_e rfl (e_box rfl (fun b1 => ?_))
  refine tl_y rfl (y_assign rfl) ?_
  refine tl_y rfl (y_assign rfl) ?_
  refine tl_nil (.then_normal ?_)
  refine x_seq (x_seq (x_region ?_))
  refine tl_y rfl (y_loadAgg rfl rfl (.own inferInstance inferInstance)) ?_
  refine tl_y rfl (y_move (v := .slice _ _ _) rfl) ?_
  refine tl_e rfl (e_call' rfl (RSet_spec t) ?_)
  rintro _ _ _ _ ⟨rfl, rfl, rfl⟩
  refine tl_y rfl (y_notd rfl) ?_
  refine tl_y rfl (y_move (v := .bool _) rfl) ?_
  refine tl_cases (s := 21) rfl (fun hk1 => ?_) (fun hk1 => ?_)
  ·
    refine tl_skip rfl ?_
    refine tl_skip rfl ?_
    refine tl_skip rfl ?_
    refine tl_skip rfl ?_
    refine tl_skip rfl ?_
    refine tl_y rfl (y_pickT rfl rfl) ?_
    refine tl_y rfl (y_move (v := .bool _) rfl) ?_
    refine tl_skip rfl ?_
    refine tl_skip rfl ?_
    refine tl_skip rfl ?_
    refine tl_skip rfl ?_
    refine tl_skip rfl ?_
    refine tl_y rfl (y_pickT rfl rfl) ?_
    refine tl_nil (.then_normal ?_)
    refine .sub (F' := [(1, _), (2, _), (3, _), (4, _), (5, _), (10, _), (11, _), (34, _)]) (.cons rfl (.cons rfl (.cons rfl (.cons rfl (.cons rfl (.cons rfl (.cons rfl (.cons rfl .nil)))))))) ?_
    refine x_true rfl rfl ?_
    refine x_seq (x_region ?_)
    refine tl_y rfl (y_assign rfl) ?_
    refine tl_y rfl (y_assign rfl) ?_
    refine tl_nil (.then_normal ?_)
    refine .sub (F' := [(10, _), (11, _)]) (.cons rfl (.cons rfl .nil)) ?_
    refine x_ret (.then_ret (.dropTo L inferInstance (ret2 rfl rfl rfl (Le.refl _) ⟨rfl, hno (A' := none) (m' := 0) (c' := 0) (fun h => hk1 h.1)⟩)))
  ·
    have hok : okS t nl := Classical.not_not.1 hk1
    obtain ⟨hokc, H, hH, hH1, hH25, hlv⟩ := okS_facts hok
    have hpw := pw2_25 hH25
    refine tl_y rfl (y_move (v := .int _ _) rfl) ?_
    refine tl_y rfl (y_convN64 rfl (by omega)) ?_
    refine tl_y rfl (y_loadAgg rfl rfl (.own inferInstance inferInstance)) ?_
    refine tl_e rfl (e_call' rfl (RLeaves_spec t) ?_)
    rintro _ _ _ _ ⟨rfl, rfl, rfl⟩
    rw [hlv]
    refine tl_y rfl (y_geq rfl rfl) ?_
    refine tl_y rfl (y_pickF rfl rfl) ?_
    refine tl_y rfl (y_move (v := .bool _) rfl) ?_
    refine tl_cases (s := 28) rfl (fun hk2 => ?_) (fun hk2 => ?_)
    ·
      refine tl_skip rfl ?_
      refine tl_skip rfl ?_
      refine tl_skip rfl ?_
      refine tl_skip rfl ?_
      refine tl_skip rfl ?_
      refine tl_y rfl (y_pickT rfl rfl) ?_
      refine tl_nil (.then_normal ?_)
      refine .sub (F' := [(1, _), (2, _), (3, _), (4, _), (5, _), (10, _), (11, _), (34, _)]) (.cons rfl (.cons rfl (.cons rfl (.cons rfl (.cons rfl (.cons rfl (.cons rfl (.cons rfl .nil)))))))) ?_
      refine x_true rfl rfl ?_
      refine x_seq (x_region ?_)
      refine tl_y rfl (y_assign rfl) ?_
      refine tl_y rfl (y_assign rfl) ?_
      refine tl_nil (.then_normal ?_)
      refine .sub (F' := [(10, _), (11, _)]) (.cons rfl (.cons rfl .nil)) ?_
      refine x_ret (.then_ret (.dropTo L inferInstance (ret2 rfl rfl rfl (Le.refl _) ⟨rfl, hno (A' := none) (m' := 0) (c' := 0) (fun h => by have := h.2.1; omega)⟩)))
    ·
      refine tl_y rfl (y_move (v := .slice _ _ _) rfl) ?_
      refine tl_y rfl (y_len rfl) ?_
      refine tl_y rfl (y_fieldAddr rfl) ?_
      refine tl_y rfl (y_load rfl rfl (.own inferInstance inferInstance)) ?_
      refine tl_y rfl (y_neq rfl rfl) ?_
      refine tl_y rfl (y_pickF rfl rfl) ?_
      refine tl_nil (.then_normal ?_)
      refine .sub (F' := [(1, _), (2, _), (3, _), (4, _), (5, _), (10, _), (11, _), (34, _)]) (.cons rfl (.cons rfl (.cons rfl (.cons rfl (.cons rfl (.cons rfl (.cons rfl (.cons rfl .nil)))))))) ?_
      refine x_cond rfl (fun hc1 => ?_) (fun hc1 => ?_)
      ·
        refine x_seq (x_region ?_)
        refine tl_y rfl (y_assign rfl) ?_
        refine tl_y rfl (y_assign rfl) ?_
        refine tl_nil (.then_normal ?_)
        refine .sub (F' := [(10, _), (11, _)]) (.cons rfl (.cons rfl .nil)) ?_
        refine x_ret (.then_ret (.dropTo L inferInstance (ret2 rfl rfl rfl (Le.refl _) ⟨rfl, hno (A' := none) (m' := 0) (c' := 0) (fun h => by have := h.2.2.1; omega)⟩)))
      ·
        have hwl : wl = H := by omega
        have hq : q.toNat < pw2 H := by omega
        refine x_skip (.then_normal ?_)
        refine x_seq (x_seq (x_region ?_))
        refine tl_y rfl (y_assign rfl) ?_
        refine tl_nil (.then_normal ?_)
        refine x_block ?_
        refine x_loop (I := fun m' F D M3 L3 => ∃ k : Nat, m' = wl - k ∧ k ≤ wl ∧ anyBad t.n (way.take k) = false ∧ D = [] ∧ M = M3 ∧ (b1, .cells (List.toArray t.cells) 51 (0, 0)) :: L = L3 ∧ F = [(1, .slice NA nl nc), (2, .int .u32 (q.toNat : Int)), (3, .slice KA kl kc), (4, .slice WA wl wc), (5, .pointer (some ⟨b1, 0, none⟩)), (10, .slice none 0 0), (11, .int .i64 0), (12, .int .i64 k)]) (wl) (F0 := [(1, _), (2, _), (3, _), (4, _), (5, _), (10, _), (11, _), (12, _)]) ?_ (.cons rfl (.cons rfl (.cons rfl (.cons rfl (.cons rfl (.cons rfl (.cons rfl (.cons rfl .nil)))))))) ?_  -- slots [1, 2, 3, 4, 5, 10, 11, 12], written [10, 11, 12]
        · exact ⟨0, rfl, by omega, rfl, rfl, rfl, rfl, rfl⟩
        rintro m _ _ _ _ ⟨k, rfl, hkk, hb0, rfl, rfl, rfl, rfl⟩
        refine x_seq (x_seq (x_region ?_))
        refine tl_y rfl (y_move (v := .int _ _) rfl) ?_
        refine tl_y rfl (y_move (v := .slice _ _ _) rfl) ?_
        refine tl_y rfl (y_len rfl) ?_
        refine tl_y rfl (y_lss rfl rfl) ?_
        refine tl_nil (.then_normal ?_)
        refine x_cond rfl (fun hc2 => ?_) (fun hc2 => ?_)
        ·
          have hkw : k < wl := by omega
          obtain ⟨g, o, rfl, hcell⟩ := h.addr (by omega)
          obtain ⟨A4, n4, c4, hv4, hb4⟩ := hw.get k (by omega)
          have hn4 := hb4.size
          refine x_skip (.then_normal ?_)
          refine .sub (F' := [(1, _), (2, _), (3, _), (4, _), (5, _), (10, _), (11, _), (12, _)]) (.cons rfl (.cons rfl (.cons rfl (.cons rfl (.cons rfl (.cons rfl (.cons rfl (.cons rfl .nil)))))))) ?_
          refine x_seq ?_
          refine x_block ?_
          refine x_seq ?_
          refine x_draw 8 hmix rfl ?_
          refine to_p 0 rfl (by kernel_rfl) rfl (y_move (v := .slice _ _ _) rfl) ?_
          refine to_p 1 rfl (by kernel_rfl) rfl (y_move (v := .int _ _) rfl) ?_
          refine to_p 2 rfl (by kernel_rfl) rfl (y_indexAddr rfl rfl (by omega)) ?_
          refine to_y 3 rfl (by kernel_rfl) rfl (y_load rfl rfl (.at_ (hcell _ k _ hv4) (by omega))) ?_
          refine to_p 4 rfl (by kernel_rfl) rfl (y_len rfl) ?_
          refine to_p 5 rfl (by kernel_rfl) rfl (y_fieldAddr rfl) ?_
          refine to_y 6 rfl (by kernel_rfl) rfl (y_load rfl rfl (.own inferInstance inferInstance)) ?_
          refine to_p 7 rfl (by kernel_rfl) rfl (y_neq rfl rfl) ?_
          refine to_nil (by kernel_rfl) (.then_normal ?_)
          refine .sub (F' := [(1, _), (2, _), (3, _), (4, _), (5, _), (10, _), (11, _), (12, _), (48, _)]) (.cons rfl (.cons rfl (.cons rfl (.cons rfl (.cons rfl (.cons rfl (.cons rfl (.cons rfl (.cons rfl .nil))))))))) ?_
          refine x_cond rfl (fun hc3 => ?_) (fun hc3 => ?_)
          ·
            refine x_seq (x_region ?_)
            refine tl_y rfl (y_assign rfl) ?_
            refine tl_y rfl (y_assign rfl) ?_
            refine tl_nil (.then_normal ?_)
            refine x_ret (.block_ret (.then_ret (.loop_ret (.block_ret (.then_ret (.dropTo L inferInstance (ret2 rfl rfl rfl (Le.refl _) ⟨rfl, hno (A' := none) (m' := 0) (c' := 0) (fun h => by have := h.2.2.2 _ (getD_mem way k [] (by omega)); omega)⟩)))))))
          ·
            refine x_skip (.block_normal (.then_normal ?_))
            refine x_region ?_
            refine tl_y rfl (y_move (v := .int _ _) rfl) ?_
            refine tl_y rfl (y_addI rfl rfl (by omega)) ?_
            refine tl_y rfl (y_assign (v := .int _ _) rfl) ?_
            refine tl_nil (.loop_next (m' := wl - (k + 1)) (by omega) (F' := [(1, _), (2, _), (3, _), (4, _), (5, _), (10, _), (11, _), (12, _)]) (.cons rfl (.cons rfl (.cons rfl (.cons rfl (.cons rfl (.cons rfl (.cons rfl (.cons rfl .nil)))))))) ?_)
            exact ⟨k + 1, rfl, by omega, by
              rw [take_snoc way k [] (by omega)]
              rw [anyBad_iff] at hb0 ⊢
              intro b hb
              rcases List.mem_append.1 hb with hb | hb
              · exact hb0 b hb
              · obtain rfl := List.mem_singleton.1 hb
                omega, rfl, rfl, rfl, rfl⟩
        ·
          obtain rfl : k = wl := by omega
          rw [List.take_of_length_le (by omega)] at hb0
          have hokW : okW t nl q.toNat way := ⟨hok, by omega, by omega, anyBad_iff.1 hb0⟩
          obtain ⟨p, hp⟩ : ∃ p : UInt32, p.toNat = pw2 H + q.toNat := ⟨UInt32.ofNat (pw2 H + q.toNat), by rw [UInt32.toNat_ofNat', Nat.mod_eq_of_lt (by omega)]⟩
          have hpp := p.toNat_lt
          refine x_exit (.then_exit (.loop_exit (.block_exit (.then_normal ?_))))
          refine .sub (F' := [(1, _), (2, _), (3, _), (4, _), (5, _)]) (.cons rfl (.cons rfl (.cons rfl (.cons rfl (.cons rfl .nil))))) ?_
          refine x_seq (x_region ?_)
          refine tl_y rfl (y_loadAgg rfl rfl (.own inferInstance inferInstance)) ?_
          refine tl_e rfl (e_call' rfl (RLeaves_spec t) ?_)
          rintro _ _ _ _ ⟨rfl, rfl, rfl⟩
          rw [hlv]
          refine tl_y rfl (y_convN32 rfl (by omega)) ?_
          refine tl_y rfl (y_move (v := .int _ _) rfl) ?_
          refine tl_y rfl (y_addN32 rfl rfl (by omega)) ?_
          rw [show ((pw2 H : Nat) : Int) + (q.toNat : Int) = ((p.toNat : Nat) : Int) by rw [hp]; omega]
          refine tl_y rfl (y_assign (v := .int _ _) rfl) ?_
          refine tl_nil (.then_normal ?_)
          refine .sub (F' := [(1, _), (3, _), (4, _), (5, _), (13, _)]) (.cons rfl (.cons rfl (.cons rfl (.cons rfl (.cons rfl .nil))))) ?_
          refine x_seq (x_region ?_)
          refine tl_y rfl (y_fieldAddr rfl) ?_
          refine tl_y rfl (y_load rfl rfl (.own inferInstance inferInstance)) ?_
          refine tl_y rfl (y_fieldAddr rfl) ?_
          refine tl_y rfl (y_load rfl rfl (.own inferInstance inferInstance)) ?_
          refine tl_y rfl (y_move (v := .slice _ _ _) rfl) ?_
          refine tl_y rfl (y_move (v := .int _ _) rfl) ?_
          refine tl_y rfl (y_move (v := .slice _ _ _) rfl) ?_
          refine tl_e rfl (e_call' rfl (RPart_spec t.kind t.n hname p 33410 (by omega) hkey hkl) ?_)
          rintro _ M2 _ hM2 ⟨rfl, A2, n2, c2, rfl, hA2⟩
          replace hA2 : Bytes M2 A2 n2 c2 (leafB t name q.toNat key) := by rw [leafB, hH, Int.toNat_natCast, ← hp]; exact hA2
          rw [show ((p.toNat : Nat) : Int) = ((p.toNat / pw2 0 : Nat) : Int) by rw [show pw2 0 = 1 from rfl, Nat.div_one]]
          refine tl_y rfl (y_assign (v := .slice _ _ _) rfl) ?_
          refine tl_nil (.then_normal ?_)
          refine .sub (F' := [(1, _), (4, _), (5, _), (13, _), (14, _)]) (.cons rfl (.cons rfl (.cons rfl (.cons rfl (.cons rfl .nil))))) ?_
          refine x_seq (x_seq (x_region ?_))
          refine tl_y rfl (y_assign rfl) ?_
          refine tl_nil (.then_normal ?_)
          refine x_block ?_
          refine x_loop (I := fun m' F D M3 L3 => ∃ (j : Nat) (A3 : Option Addr) (n3 c3 : Nat), m' = k - j ∧ j ≤ k ∧ Le M2 M3 ∧ Bytes M3 A3 n3 c3 (clX t name way p.toNat (leafB t name q.toNat key) j) ∧ D = [] ∧ (b1, .cells (List.toArray t.cells) 51 (0, 0)) :: L = L3 ∧ F = [(1, .slice NA nl nc), (4, .slice WA k wc), (5, .pointer (some ⟨b1, 0, none⟩)), (13, .int .u32 ((p.toNat / pw2 j : Nat) : Int)), (14, .slice A3 n3 c3), (15, .int .i64 j)]) (k) (F0 := [(1, _), (4, _), (5, _), (13, _), (14, _), (15, _)]) ?_ (.cons rfl (.cons rfl (.cons rfl (.cons rfl (.cons rfl (.cons rfl .nil)))))) ?_  -- slots [1, 4, 5, 13, 14, 15], written [13, 14, 15]
          · exact ⟨0, A2, n2, c2, rfl, by omega, Le.refl _, hA2, rfl, rfl, rfl⟩
          rintro m _ _ M3 _ ⟨j, A3, n3, c3, rfl, hjj, he, hA3, rfl, rfl, rfl⟩
          refine x_seq (x_seq (x_region ?_))
          refine tl_y rfl (y_move (v := .int _ _) rfl) ?_
          refine tl_y rfl (y_move (v := .slice _ _ _) rfl) ?_
          refine tl_y rfl (y_len rfl) ?_
          refine tl_y rfl (y_lss rfl rfl) ?_
          refine tl_nil (.then_normal ?_)
          refine x_cond rfl (fun hc4 => ?_) (fun hc4 => ?_)
          ·
            have hjw : j < k := by omega
            have hd3 := hM2.trans he
            obtain ⟨g, o, rfl, hcell⟩ := (h.mono hd3).addr (by omega)
            obtain ⟨A4, n4, c4, hv4, hb4⟩ := hw.get j (by omega)
            have hn4 := hb4.size
            have hn4' := hokW.2.2.2 _ (getD_mem way j [] (by omega))
            have hn3 := hA3.size
            have hn3' := clX_le t name way p.toNat (leafB_le t name q.toNat key) j
            have hbig : t.n ≤ 32 := by rcases hokc.2 with h | h <;> omega
            obtain ⟨y, hy⟩ : ∃ y : UInt32, y.toNat = p.toNat / pw2 (j + 1) := ⟨UInt32.ofNat (p.toNat / pw2 (j + 1)), by
              have hdl := Nat.div_le_self p.toNat (pw2 (j + 1))
              rw [UInt32.toNat_ofNat', Nat.mod_eq_of_lt (by omega)]⟩
            obtain ⟨z, hz⟩ : ∃ z, z = p.toNat / pw2 j := ⟨_, rfl⟩
            have hyz : y.toNat = z / 2 := by rw [hy, hz, div_pw2]
            have hzl : z ≤ p.toNat := by rw [hz]; exact Nat.div_le_self _ _
            rw [← hz]
            refine x_skip (.then_normal ?_)
            refine .sub (F' := [(1, _), (4, _), (5, _), (13, _), (14, _), (15, _)]) (.cons rfl (.cons rfl (.cons rfl (.cons rfl (.cons rfl (.cons rfl .nil)))))) ?_
            refine x_seq ?_
            refine x_block ?_
            refine x_seq ?_
            refine x_draw0 7 ([]) Keeps.mem hmix rfl ?_
            refine to_p 1 rfl (by kernel_rfl) rfl (y_move (v := .slice _ _ _) rfl) ?_
            refine to_p 3 rfl (by kernel_rfl) rfl (y_move (v := .slice _ _ _) rfl) ?_
            refine to_p 4 rfl (by kernel_rfl) rfl (y_move (v := .int _ _) rfl) ?_
            refine to_p 5 rfl (by kernel_rfl) rfl (y_indexAddr rfl rfl (by omega)) ?_
            refine to_y 6 rfl (by kernel_rfl) rfl (y_load rfl rfl (.at_ (hcell _ j _ hv4) (by omega))) ?_
            refine to_e 0 rfl (by kernel_rfl) rfl (e_buildSlice0 (fun b2 => ?_))
            refine ⟨⟨(by first | exact Le.refl _ | assumption), Keeps.mem⟩, ?_⟩
            refine to_e 2 rfl (by kernel_rfl) rfl (e_append1 (by decide) rfl rfl OwnRow.made00 (.row hA3) (all_one_bv _) (by omega) (by omega) (fun A5 c5 E5 hE5 => ?_))
            rw [Nat.zero_add, List.nil_append] at hE5
            rw [Nat.zero_add]
            refine ⟨⟨Le.refl _, Keeps.mem⟩, ?_⟩
            refine to_t 7 rfl (by kernel_rfl) (by kernel_rfl) rfl (e_append (by decide) rfl rfl hE5 (.row (hb4.mono hd3)) (all_one_bv _) (by omega) (by omega) (fun A6 c6 E6 hE6 => ?_))
            rw [← List.map_append] at hE6
            refine .pubRow hE6 (fun M4 hM4 htext => ?_)
            have hv5 : ∀ L, CellAt M4 L ⟨g, o + j, none⟩ _ := fun L w hw => hcell L j _ hv4 w ⟨fun b o h => hw.ro b o (hM4 b o h), hw.own⟩
            refine to_p 8 rfl (by kernel_rfl) rfl (y_assign (v := .slice _ _ _) rfl) ?_
            refine to_nil (by kernel_rfl) (.then_normal ?_)
            refine .sub (F' := [(1, _), (4, _), (5, _), (13, _), (14, _), (15, _), (16, _)]) (.cons rfl (.cons rfl (.cons rfl (.cons rfl (.cons rfl (.cons rfl (.cons rfl .nil))))))) ?_
            refine x_seq (x_seq (x_region ?_))
            refine tl_y rfl (y_move (v := .int _ _) rfl) ?_
            refine tl_y rfl (y_remI rfl rfl (by omega)) ?_
            refine tl_y rfl (y_eql rfl rfl) ?_
            refine tl_nil (.then_normal ?_)
            refine x_cond rfl (fun hc5 => ?_) (fun hc5 => ?_)
            ·
              refine x_region ?_
              refine tl_e rfl (e_buildSlice0 (fun b3 => ?_))
              refine tl_y rfl (y_move (v := .slice _ _ _) rfl) ?_
              refine tl_y rfl (y_move (v := .int _ _) rfl) ?_
              refine tl_y rfl (y_indexAddr rfl rfl (by omega)) ?_
              refine tl_y rfl (y_load rfl rfl (.at_ (hv5 _) (by omega))) ?_
              refine tl_e rfl (e_append1 (by decide) rfl rfl OwnRow.made00 (.row (hb4.mono (hd3.trans hM4))) (all_one_bv _) (by omega) (by omega) (fun A7 c7 E7 hE7 => ?_))
              rw [Nat.zero_add, List.nil_append] at hE7
              rw [Nat.zero_add]
              refine tl_y rfl (y_move (v := .slice _ _ _) rfl) ?_
              refine tl_e rfl (e_append (by decide) rfl rfl hE7 (.row (hA3.mono hM4)) (all_one_bv _) (by omega) (by omega) (fun A8 c8 E8 hE8 => ?_))
              rw [← List.map_append] at hE8
              refine .pubRow hE8 (fun M5 hM5 htext2 => ?_)
              refine tl_y rfl (y_assign (v := .slice _ _ _) rfl) ?_
              refine tl_nil (.then_normal ?_)
              refine .sub (F' := [(1, _), (4, _), (5, _), (13, _), (14, _), (15, _), (16, _)]) (.cons rfl (.cons rfl (.cons rfl (.cons rfl (.cons rfl (.cons rfl (.cons rfl .nil))))))) ?_
              refine x_seq (x_region ?_)
              refine tl_y rfl (y_move (v := .int _ _) rfl) ?_
              refine tl_y rfl (y_quoN32 rfl rfl (by omega)) ?_
              rw [show ((z : Nat) : Int) / 2 = ((y.toNat : Nat) : Int) by rw [hyz]; omega]
              refine tl_y rfl (y_assign (v := .int _ _) rfl) ?_
              refine tl_nil (.then_normal ?_)
              refine x_region ?_
              refine tl_y rfl (y_fieldAddr rfl) ?_
              refine tl_y rfl (y_load rfl rfl (.own inferInstance inferInstance)) ?_
              refine tl_y rfl (y_fieldAddr rfl) ?_
              refine tl_y rfl (y_load rfl rfl (.own inferInstance inferInstance)) ?_
              refine tl_y rfl (y_move (v := .slice _ _ _) rfl) ?_
              refine tl_y rfl (y_move (v := .int _ _) rfl) ?_
              refine tl_y rfl (y_move (v := .slice _ _ _) rfl) ?_
              refine tl_e rfl (e_call' rfl (RPart_spec t.kind t.n (hname.mono (hd3.trans (hM4.trans hM5))) y 33667 (by omega) htext2 (by omega)) ?_)
              rintro _ M6 _ hM6 ⟨rfl, A9, n9, c9, rfl, hA9⟩
              rw [hy] at hA9 ⊢
              refine tl_y rfl (y_assign (v := .slice _ _ _) rfl) ?_
              refine tl_nil (.block_normal (.then_normal ?_))
              refine .sub (F' := [(1, _), (4, _), (5, _), (13, _), (14, _), (15, _)]) (.cons rfl (.cons rfl (.cons rfl (.cons rfl (.cons rfl (.cons rfl .nil)))))) ?_
              refine x_region ?_
              refine tl_y rfl (y_move (v := .int _ _) rfl) ?_
              refine tl_y rfl (y_addI rfl rfl (by omega)) ?_
              refine tl_y rfl (y_assign (v := .int _ _) rfl) ?_
              refine .dropTo ((b1, .cells (List.toArray t.cells) 51 (0, 0)) :: L) inferInstance ?_
              refine tl_nil (.loop_next (m' := k - (j + 1)) (by omega) (F' := [(1, _), (4, _), (5, _), (13, _), (14, _), (15, _)]) (.cons rfl (.cons rfl (.cons rfl (.cons rfl (.cons rfl (.cons rfl .nil)))))) ?_)
              exact ⟨j + 1, A9, n9, c9, rfl, by omega, he.trans (hM4.trans (hM5.trans hM6)), by rw [clX, ← hz, if_pos (by omega)]; exact hA9, rfl, rfl, rfl⟩
            ·
              refine x_skip (.then_normal ?_)
              refine x_seq (x_region ?_)
              refine tl_y rfl (y_move (v := .int _ _) rfl) ?_
              refine tl_y rfl (y_quoN32 rfl rfl (by omega)) ?_
              rw [show ((z : Nat) : Int) / 2 = ((y.toNat : Nat) : Int) by rw [hyz]; omega]
              refine tl_y rfl (y_assign (v := .int _ _) rfl) ?_
              refine tl_nil (.then_normal ?_)
              refine .sub (F' := [(1, _), (4, _), (5, _), (13, _), (14, _), (15, _), (16, _)]) (.cons rfl (.cons rfl (.cons rfl (.cons rfl (.cons rfl (.cons rfl (.cons rfl .nil))))))) ?_
              refine x_region ?_
              refine tl_y rfl (y_fieldAddr rfl) ?_
              refine tl_y rfl (y_load rfl rfl (.own inferInstance inferInstance)) ?_
              refine tl_y rfl (y_fieldAddr rfl) ?_
              refine tl_y rfl (y_load rfl rfl (.own inferInstance inferInstance)) ?_
              refine tl_y rfl (y_move (v := .slice _ _ _) rfl) ?_
              refine tl_y rfl (y_move (v := .int _ _) rfl) ?_
              refine tl_y rfl (y_move (v := .slice _ _ _) rfl) ?_
              refine tl_e rfl (e_call' rfl (RPart_spec t.kind t.n (hname.mono (hd3.trans hM4)) y 33667 (by omega) htext (by omega)) ?_)
              rintro _ M6 _ hM6 ⟨rfl, A9, n9, c9, rfl, hA9⟩
              rw [hy] at hA9 ⊢
              refine tl_y rfl (y_assign (v := .slice _ _ _) rfl) ?_
              refine tl_nil (.block_normal (.then_normal ?_))
              refine .sub (F' := [(1, _), (4, _), (5, _), (13, _), (14, _), (15, _)]) (.cons rfl (.cons rfl (.cons rfl (.cons rfl (.cons rfl (.cons rfl .nil)))))) ?_
              refine x_region ?_
              refine tl_y rfl (y_move (v := .int _ _) rfl) ?_
              refine tl_y rfl (y_addI rfl rfl (by omega)) ?_
              refine tl_y rfl (y_assign (v := .int _ _) rfl) ?_
              refine .dropTo ((b1, .cells (List.toArray t.cells) 51 (0, 0)) :: L) inferInstance ?_
              refine tl_nil (.loop_next (m' := k - (j + 1)) (by omega) (F' := [(1, _), (4, _), (5, _), (13, _), (14, _), (15, _)]) (.cons rfl (.cons rfl (.cons rfl (.cons rfl (.cons rfl (.cons rfl .nil)))))) ?_)
              exact ⟨j + 1, A9, n9, c9, rfl, by omega, he.trans (hM4.trans hM6), by rw [clX, ← hz, if_neg (by omega)]; exact hA9, rfl, rfl, rfl⟩
          ·
            obtain rfl : j = k := by omega
            refine x_exit (.then_exit (.loop_exit (.block_exit (.then_normal ?_))))
            refine .sub (F' := [(14, _)]) (.cons rfl .nil) ?_
            refine x_seq (x_region ?_)
            refine tl_y rfl (y_move (v := .slice _ _ _) rfl) ?_
            refine tl_y rfl (y_assign (v := .slice _ _ _) rfl) ?_
            refine tl_y rfl (y_assign rfl) ?_
            refine tl_nil (.then_normal ?_)
            refine x_ret (.dropTo L inferInstance (ret2 rfl rfl rfl (hM2.trans he) ⟨rfl, _, _, _, by rw [climbE, if_pos hokW], by
              rw [climbB, if_pos (by rw [hnl]; exact hokW), hH, Int.toNat_natCast, ← hp, show way.length = j by omega]
              exact hA3⟩))
end
end Go.Proofs.YtgpjbjbdfkiklaaDoor
set_option linter.unusedVariables false
set_option linter.unusedSimpArgs false
set_option linter.constructorNameAsVariable false
namespace Go.Proofs.YtgpjbjbdfkiklaaDoor
open Go Go.Eng
/-! ### From each leaf's key its way leads to the root -/
theorem cPart_len {kind n : Int} (h : okC kind n) {name : List UInt8} (hn : name.length = 16) (q d : Nat) (text : List UInt8) : ((cPart kind n name q d text).length : Int) = n := by
  rw [cPart, if_pos hn, cSum, if_pos h, csum_length h _ (sha_length _)]
  rcases h.2 with h | h <;> subst h <;> rfl
theorem lvl_each {t : TreeV} (h : okC t.kind t.n) {name : List UInt8} (hn : name.length = 16) (keys : List (List UInt8)) : ∀ j, ∀ b ∈ lvl t name keys j, (b.length : Int) = t.n
  | 0, b, hb => by
    rw [lvl, leavesB, List.mem_map] at hb
    obtain ⟨q, _, rfl⟩ := hb
    exact cPart_len h hn _ _ _
  | j + 1, b, hb => by
    rw [lvl, nextB, List.mem_map] at hb
    obtain ⟨q, _, rfl⟩ := hb
    exact cPart_len h hn _ _ _
theorem lvl_getLen {t : TreeV} (h : okC t.kind t.n) {name : List UInt8} (hn : name.length = 16) {keys : List (List UInt8)} {H : Nat} (hk : keys.length = pw2 H) {j i : Nat} (hj : j ≤ H) (hi : i < pw2 (H - j)) : (((lvl t name keys j).getD i []).length : Int) = t.n :=
  lvl_each h hn keys j _ (getD_mem _ _ _ (by rw [lvl_len t name keys hk j hj]; exact hi))
theorem wayB_get (t : TreeV) (name : List UInt8) (keys : List (List UInt8)) (q : Nat) {k j : Nat} (h : j < k) : (wayB t name keys q k).getD j [] = (lvl t name keys j).getD (sib (q / pw2 j)) [] := by
  rw [List.getD_eq_getElem?_getD, wayB, List.getElem?_map, List.getElem?_range h]; rfl
theorem add_div_pw2 {H j q : Nat} (hj : j ≤ H) : (pw2 H + q) / pw2 j = pw2 (H - j) + q / pw2 j := by
  rw [pw2_mul hj, Nat.mul_add_div (pw2_pos j)]
theorem leads {t : TreeV} {H : Nat} (hH : t.h = (H : Int)) (name : List UInt8) {keys : List (List UInt8)} (hk : keys.length = pw2 H) {q : Nat} (hq : q < pw2 H) : ∀ j, j ≤ H →
    clX t name (wayB t name keys q H) (pw2 H + q) (leafB t name q (keys.getD q [])) j = (lvl t name keys j).getD (q / pw2 j) []
  | 0, _ => by
    rw [clX, lvl, show pw2 0 = 1 from rfl, Nat.div_one, leavesB_get _ _ _ (by omega)]
  | j + 1, hj => by
    have hlt : j < H := hj
    have hhf := (pw2_half hlt).2
    have hl := lvl_len t name keys hk j (by omega)
    have hz := div_lt (h := j + 1) hj hq
    rw [clX, leads hH name hk hq j (by omega), wayB_get _ _ _ _ hlt, lvl, nextB_get _ _ _ (by omega), add_div_pw2 (Nat.le_of_lt hlt), add_div_pw2 hj, hl, ← div_pw2]
    rw [← div_pw2] at hz
    generalize q / pw2 j = z at hz
    rw [show pw2 (H - j) / 2 = pw2 (H - (j + 1)) by omega]
    unfold sib
    by_cases hodd : z % 2 = 1
    · rw [if_pos (by omega), if_pos hodd, show z - 1 = 2 * (z / 2) by omega]
      conv => lhs; rw [show z = 2 * (z / 2) + 1 by omega]
      congr 3 <;> omega
    · rw [if_neg (by omega), if_neg hodd]
      conv => lhs; rw [show z = 2 * (z / 2) by omega]
      congr 3 <;> omega
/-- A leaf's way may be gone up, and leads to the root. -/
theorem way_ok {t : TreeV} {nl : Nat} (hs : okS t nl) {name : List UInt8} (hn : name.length = 16) {keys : List (List UInt8)} {H : Nat} (hH : t.h = (H : Int)) (hk : keys.length = pw2 H) {q : Nat} (hq : q < pw2 H) : okW t nl q (wayB t name keys q H) := by
  obtain ⟨hokc, H', hH', _, _, hlv⟩ := okS_facts hs
  obtain rfl : H = H' := by omega
  refine ⟨hs, by rw [hlv]; exact hq, by rw [wayB_len]; exact hH.symm, fun b hb => ?_⟩
  rw [wayB, List.mem_map] at hb
  obtain ⟨j, hj, rfl⟩ := hb
  have hj' := List.mem_range.1 hj
  exact lvl_getLen hokc hn hk (Nat.le_of_lt hj') (sib_lt hj' hq)
theorem climb_root {t : TreeV} {nl : Nat} (hs : okS t nl) {name : List UInt8} (hn : name.length = nl) {keys : List (List UInt8)} {H : Nat} (hH : t.h = (H : Int)) (hk : keys.length = pw2 H) {q : Nat} (hq : q < pw2 H) : climbB t name q (keys.getD q []) (wayB t name keys q H) = rootB t name keys := by
  have h16 := hs.2.2
  rw [climbB, if_pos (by rw [hn]; exact way_ok hs (by omega) hH hk hq), hH, Int.toNat_natCast, wayB_len, leads hH name hk hq H (Nat.le_refl _), rootB, hH, Int.toNat_natCast, Nat.div_eq_of_lt hq]
theorem root_len {t : TreeV} {nl : Nat} (hs : okS t nl) {name : List UInt8} (hn : name.length = nl) {keys : List (List UInt8)} {H : Nat} (hH : t.h = (H : Int)) (hk : keys.length = pw2 H) : ((rootB t name keys).length : Int) = t.n := by
  have h16 := hs.2.2
  rw [rootB, hH, Int.toNat_natCast]
  exact lvl_getLen (okS_facts hs).1 (by omega) hk (Nat.le_refl _) (by rw [Nat.sub_self]; exact pw2_pos 0)
theorem f11 : ∃ t : TreeV, treeV 4026531846 = t ∧ t.n = 24 ∧ t.kind = 0 ∧ t.h = 2 ∧ treeE t.code = 0 ∧ treeV t.code = t := by
  refine ⟨treeV 4026531846, rfl, ?_⟩
  decide +kernel
section
variable {G : World} {M : Mem} {L : Own}
theorem awake11_spec (hg : MrG M) : Con Tryd.prog 25 #[] G M L (fun v M' L' => L = L' ∧ v = .bool true) noPanic := by
  obtain ⟨t, et, tn, tk, th, te, tv⟩ := f11
  have hok : okS t 16 := ⟨te, tv, rfl⟩
  have hH : t.h = ((2 : Nat) : Int) := th
  have hokM : okM t 16 4 := ⟨hok, by omega, by rw [th]; decide⟩
  refine enter (args := []) (fn := Tryd.f25) ⟨Tryd.func25, rfl, by kernel_rfl, by kernel_rfl⟩ 80 rfl ?_
  refine x_seq (x_region ?_)
  refine tl_y rfl (y_assign rfl) ?_
  refine tl_nil (.then_normal ?_)
  refine x_seq (x_region ?_)
  refine tl_e rfl (e_call' rfl (RTree_spec 4026531846) ?_)
  rintro _ _ _ _ ⟨rfl, rfl, rfl⟩
  rw [et]
  refine tl_y rfl (y_move (v := .tuple _) rfl) ?_
  refine tl_y rfl (y_extract rfl) ?_
  refine tl_y rfl (y_extract rfl) ?_
  refine tl_e rfl (e_alloc (fun b1 => ?_))
  refine tl_e rfl (e_store rfl rfl (by rfl) (by rfl) inferInstance inferInstance inferInstance ?_)
  refine tl_y rfl (y_assign (v := .int _ _) rfl) ?_
  refine tl_nil (.then_normal ?_)
  refine .sub (F' := [(1, _)]) (.cons rfl .nil) ?_
  refine x_seq (x_region ?_)
  refine tl_e rfl (e_make1 rfl rfl (by omega) (by omega) (by omega) (by omega) (fun bn => ?_))
  refine .pub bn inferInstance (fun M1 hM1 hbn => ?_)
  have hn1 : Bytes M1 (some ⟨bn, 0, none⟩) 16 16 (List.replicate 16 0) := Bytes.zeros hbn (by omega)
  refine tl_y rfl (y_assign (v := .slice _ _ _) rfl) ?_
  refine tl_nil (.then_normal ?_)
  refine x_seq (x_region ?_)
  refine tl_e rfl (e_buildSlice rfl (by decide) (fun b3 => ?_))
  refine .pub b3 inferInstance (fun M2 hM2 hb3 => ?_)
  have hk0 : Bytes M2 (some ⟨b3, 0, none⟩) 1 1 [1] := Row.whole hb3 rfl (by omega)
  refine tl_e rfl (e_buildSlice rfl (by decide) (fun b4 => ?_))
  refine .pub b4 inferInstance (fun M3 hM3 hb4 => ?_)
  have hk1 : Bytes M3 (some ⟨b4, 0, none⟩) 1 1 [2] := Row.whole hb4 rfl (by omega)
  refine tl_e rfl (e_buildSlice rfl (by decide) (fun b5 => ?_))
  refine .pub b5 inferInstance (fun M4 hM4 hb5 => ?_)
  have hk2 : Bytes M4 (some ⟨b5, 0, none⟩) 1 1 [3] := Row.whole hb5 rfl (by omega)
  refine tl_e rfl (e_buildSlice rfl (by decide) (fun b6 => ?_))
  refine .pub b6 inferInstance (fun M5 hM5 hb6 => ?_)
  have hk3 : Bytes M5 (some ⟨b6, 0, none⟩) 1 1 [4] := Row.whole hb6 rfl (by omega)
  refine tl_e rfl (e_buildSlice rfl (by decide) (fun b7 => ?_))
  refine .pub b7 inferInstance (fun M6 hM6 hb7 => ?_)
  have hrow : Row M6 1 (some ⟨b7, 0, none⟩) 4 4 _ := Row.whole hb7 rfl (by omega)
  have hB : BRows M6 _ [[1], [2], [3], [4]] := .cons (hk0.mono (hM3.trans (hM4.trans (hM5.trans hM6)))) (.cons (hk1.mono (hM4.trans (hM5.trans hM6))) (.cons (hk2.mono (hM5.trans hM6)) (.cons (hk3.mono hM6) .nil)))
  have hks : ∀ b ∈ ([[1], [2], [3], [4]] : List (List UInt8)), b.length ≤ 1000000000000 := by decide
  have hm := hM1.trans (hM2.trans (hM3.trans (hM4.trans (hM5.trans hM6))))
  have hname := hn1.mono (hM2.trans (hM3.trans (hM4.trans (hM5.trans hM6))))
  have hkey2 := hk2.mono (hM5.trans hM6)
  refine tl_y rfl (y_assign (v := .slice _ _ _) rfl) ?_
  refine tl_nil (.then_normal ?_)
  refine .sub (F' := [(1, _), (3, _), (4, _)]) (.cons rfl (.cons rfl (.cons rfl .nil))) ?_
  refine x_seq (x_region ?_)
  refine tl_y rfl (y_loadAgg rfl rfl (.own inferInstance inferInstance)) ?_
  refine tl_y rfl (y_move (v := .slice _ _ _) rfl) ?_
  refine tl_y rfl (y_move (v := .slice _ _ _) rfl) ?_
  refine tl_e rfl (e_call' rfl (Root_spec (hg.mono hm) t hname hrow hB hks) ?_)
  rintro _ M7 _ hM7 ⟨rfl, A7, m7, c7, rfl, hA7⟩
  rw [if_pos hokM] at hA7
  have hd := hM7
  have hroot := root_len hok (List.length_replicate (n := 16) (a := (0 : UInt8))) hH (keys := [[1], [2], [3], [4]]) rfl
  have hs7 := hA7.size
  refine tl_y rfl (y_assign (v := .slice _ _ _) rfl) ?_
  refine tl_nil (.then_normal ?_)
  refine .sub (F' := [(1, _), (3, _), (4, _), (5, _)]) (.cons rfl (.cons rfl (.cons rfl (.cons rfl .nil)))) ?_
  refine x_seq (x_region ?_)
  refine tl_y rfl (y_loadAgg rfl rfl (.own inferInstance inferInstance)) ?_
  refine tl_y rfl (y_move (v := .slice _ _ _) rfl) ?_
  refine tl_y rfl (y_move (v := .slice _ _ _) rfl) ?_
  refine tl_e rfl (e_call' rfl (Way_spec ((hg.mono hm).mono hd) t (hname.mono hd) (hrow.mono hd) (hB.mono hd) hks 2) ?_)
  rintro _ M8 _ hM8 ⟨rfl, A8, m8, c8, vs8, rfl, hr8, hb8⟩
  rw [if_pos ⟨hokM, by decide⟩, hH, Int.toNat_natCast] at hb8
  replace hd := hd.trans hM8
  have hm8 : m8 = 2 := by have h1 := hr8.len; have h2 := hb8.len; rw [wayB_len] at h2; omega
  refine tl_y rfl (y_assign (v := .slice _ _ _) rfl) ?_
  refine tl_nil (.then_normal ?_)
  refine .sub (F' := [(1, _), (3, _), (4, _), (5, _), (6, _)]) (.cons rfl (.cons rfl (.cons rfl (.cons rfl (.cons rfl .nil))))) ?_
  refine x_seq (x_region ?_)
  refine tl_y rfl (y_loadAgg rfl rfl (.own inferInstance inferInstance)) ?_
  refine tl_y rfl (y_move (v := .slice _ _ _) rfl) ?_
  refine tl_e rfl (e_buildSlice rfl (by decide) (fun b8 => ?_))
  refine .pub b8 inferInstance (fun M9 hM9 hb9 => ?_)
  replace hd := hd.trans hM9
  have hkey9 : Bytes M9 (some ⟨b8, 0, none⟩) 1 1 [3] := Row.whole hb9 rfl (by omega)
  refine tl_y rfl (y_move (v := .slice _ _ _) rfl) ?_
  refine tl_e rfl (e_call' rfl (Climb_spec ((hg.mono hm).mono hd) t (hname.mono hd) 2 hkey9 (by omega) (hr8.mono hM9) (hb8.mono hM9)) ?_)
  rintro _ M10 _ hM10 ⟨rfl, A10, m10, c10, rfl, hA10⟩
  have hc10 := climb_root hok (List.length_replicate (n := 16) (a := (0 : UInt8))) hH (keys := [[1], [2], [3], [4]]) rfl (q := 2) (by decide)
  rw [show (2 : UInt32).toNat = 2 from rfl] at hA10 ⊢
  rw [show ([[1], [2], [3], [4]] : List (List UInt8)).getD 2 [] = [3] from rfl] at hc10
  rw [hc10] at hA10
  rw [climbE, if_pos (way_ok hok (by simp) hH rfl (by decide))]
  replace hd := hd.trans hM10
  refine tl_y rfl (y_move (v := .tuple _) rfl) ?_
  refine tl_y rfl (y_extract rfl) ?_
  refine tl_y rfl (y_extract rfl) ?_
  refine tl_y rfl (y_assign (v := .slice _ _ _) rfl) ?_
  refine tl_y rfl (y_assign (v := .int _ _) rfl) ?_
  refine tl_nil (.then_normal ?_)
  refine .sub (F' := [(1, _), (3, _), (4, _), (5, _), (6, _), (7, _), (8, _)]) (.cons rfl (.cons rfl (.cons rfl (.cons rfl (.cons rfl (.cons rfl (.cons rfl .nil))))))) ?_
  refine x_seq (x_region ?_)
  refine tl_y rfl (y_loadAgg rfl rfl (.own inferInstance inferInstance)) ?_
  refine tl_y rfl (y_move (v := .slice _ _ _) rfl) ?_
  refine tl_e rfl (e_buildSlice rfl (by decide) (fun b9 => ?_))
  refine .pub b9 inferInstance (fun M11 hM11 hb11 => ?_)
  replace hd := hd.trans hM11
  have hkey11 : Bytes M11 (some ⟨b9, 0, none⟩) 1 1 [3] := Row.whole hb11 rfl (by omega)
  refine tl_y rfl (y_move (v := .slice _ _ _) rfl) ?_
  refine tl_e rfl (e_call' rfl (Climb_spec ((hg.mono hm).mono hd) t (hname.mono hd) 4 hkey11 (by omega) (hr8.mono (hM9.trans (hM10.trans hM11))) (hb8.mono (hM9.trans (hM10.trans hM11)))) ?_)
  rintro _ M12 _ hM12 ⟨rfl, A12, m12, c12, rfl, hA12⟩
  rw [climbE, if_neg (fun h => by have := h.2.1; rw [th] at this; exact absurd this (by decide))]
  replace hd := hd.trans hM12
  obtain rfl : m7 = 24 := by omega
  subst hm8
  refine tl_y rfl (y_move (v := .tuple _) rfl) ?_
  refine tl_y rfl (y_extract rfl) ?_
  refine tl_y rfl (y_extract rfl) ?_
  refine tl_y rfl (y_assign (v := .slice _ _ _) rfl) ?_
  refine tl_y rfl (y_assign (v := .int _ _) rfl) ?_
  refine tl_nil (.then_normal ?_)
  refine .sub (F' := [(1, _), (3, _), (4, _), (5, _), (6, _), (7, _), (8, _), (10, _)]) (.cons rfl (.cons rfl (.cons rfl (.cons rfl (.cons rfl (.cons rfl (.cons rfl (.cons rfl .nil)))))))) ?_
  refine x_seq (x_region ?_)
  refine tl_y rfl (y_move (v := .slice _ _ _) rfl) ?_
  refine tl_y rfl (y_len rfl) ?_
  refine tl_y rfl (y_eql rfl rfl) ?_
  refine tl_y rfl (y_move (v := .bool _) rfl) ?_
  refine tl_set (s := 48) (u := .bool true) rfl (rfl) ?_
  refine tl_y rfl (y_move (v := .slice _ _ _) rfl) ?_
  refine tl_y rfl (y_loadAgg rfl rfl (.own inferInstance inferInstance)) ?_
  refine tl_y rfl (y_move (v := .slice _ _ _) rfl) ?_
  refine tl_y rfl (y_move (v := .slice _ _ _) rfl) ?_
  refine tl_e rfl (e_call' rfl (RRoot_spec t (hname.mono hd) (hrow.mono hd) (hB.mono hd) hks) ?_)
  rintro _ M13 _ hM13 ⟨rfl, A13, m13, c13, rfl, hA13⟩
  rw [if_pos hokM] at hA13
  have hd13 := hM8.trans (hM9.trans (hM10.trans (hM11.trans (hM12.trans hM13))))
  replace hd := hd.trans hM13
  refine tl_e rfl (e_call' rfl (same_spec (hA7.mono hd13) hA13) ?_)
  rintro _ _ _ _ ⟨rfl, rfl, rfl⟩
  refine tl_y rfl (y_pickT rfl rfl) ?_
  refine tl_y rfl (y_move (v := .bool _) rfl) ?_
  refine tl_set (s := 56) (u := .bool true) rfl (by simp) ?_
  refine tl_y rfl (y_move (v := .slice _ _ _) rfl) ?_
  refine tl_y rfl (y_len rfl) ?_
  refine tl_y rfl (y_eql rfl rfl) ?_
  refine tl_y rfl (y_pickT rfl rfl) ?_
  refine tl_y rfl (y_move (v := .bool _) rfl) ?_
  refine tl_set (s := 61) (u := .bool true) rfl (rfl) ?_
  refine tl_y rfl (y_move (v := .int _ _) rfl) ?_
  refine tl_y rfl (y_eql rfl rfl) ?_
  refine tl_y rfl (y_pickT rfl rfl) ?_
  refine tl_y rfl (y_move (v := .bool _) rfl) ?_
  refine tl_set (s := 65) (u := .bool true) rfl (rfl) ?_
  refine tl_y rfl (y_move (v := .slice _ _ _) rfl) ?_
  refine tl_y rfl (y_move (v := .slice _ _ _) rfl) ?_
  refine tl_e rfl (e_call' rfl (same_spec (hA10.mono (hM11.trans (hM12.trans hM13))) (hA7.mono hd13)) ?_)
  rintro _ _ _ _ ⟨rfl, rfl, rfl⟩
  refine tl_y rfl (y_pickT rfl rfl) ?_
  refine tl_y rfl (y_move (v := .bool _) rfl) ?_
  refine tl_set (s := 70) (u := .bool true) rfl (by simp) ?_
  refine tl_y rfl (y_move (v := .int _ _) rfl) ?_
  refine tl_y rfl (y_eql rfl rfl) ?_
  refine tl_y rfl (y_pickT rfl rfl) ?_
  refine tl_y rfl (y_move (v := .bool _) rfl) ?_
  refine tl_set (s := 74) (u := .bool true) rfl (rfl) ?_
  refine tl_y rfl (y_loadAgg rfl rfl (.own inferInstance inferInstance)) ?_
  refine tl_y rfl (y_move (v := .slice _ _ _) rfl) ?_
  refine tl_y rfl (y_move (v := .slice _ _ _) rfl) ?_
  refine tl_e rfl (e_call' rfl (May_spec ((hg.mono hm).mono hd) t (by omega)) ?_)
  rintro _ M14 _ hM14 ⟨rfl, rfl⟩
  refine tl_y rfl (y_pickT rfl rfl) ?_
  refine tl_y rfl (y_assign (v := .bool _) rfl) ?_
  refine tl_nil (.then_normal ?_)
  refine .sub (F' := [(0, _)]) (.cons rfl .nil) ?_
  refine x_ret (.dropTo L inferInstance (ret1 rfl rfl (hm.trans (hd.trans hM14)) ⟨rfl, congrArg Value.bool (decide_eq_true hokM)⟩))
end
end Go.Proofs.YtgpjbjbdfkiklaaDoor
set_option linter.unusedVariables false
set_option linter.unusedSimpArgs false
set_option linter.constructorNameAsVariable false
namespace Go.Proofs.YtgpjbjbdfkiklaaDoor
open Go Go.Eng
def smallB (keys : List (List UInt8)) : Prop := keys.length ≤ 1100 ∧ keys.flatten.length ≤ 40000
instance {keys : List (List UInt8)} : Decidable (smallB keys) := inferInstanceAs (Decidable (_ ∧ _))
theorem flat_le {keys : List (List UInt8)} (h : ∀ b ∈ keys, b.length ≤ 140737488355328) : keys.flatten.length ≤ keys.length * 140737488355328 := by
  induction keys with
  | nil => simp
  | cons b keys ih =>
    have h1 := h b List.mem_cons_self
    have h2 := ih (fun c hc => h c (List.mem_cons_of_mem _ hc))
    rw [List.flatten_cons, List.length_append, List.length_cons]
    omega
theorem mem_flat {keys : List (List UInt8)} {b : List UInt8} (h : b ∈ keys) : b.length ≤ keys.flatten.length := by
  induction keys with
  | nil => cases h
  | cons c keys ih =>
    rw [List.flatten_cons, List.length_append]
    rcases List.mem_cons.1 h with rfl | h
    · omega
    · have := ih h; omega
theorem smallB.each {keys : List (List UInt8)} (h : smallB keys) : ∀ b ∈ keys, b.length ≤ 1000000000000 := fun b hb => by
  have := mem_flat hb
  have := h.2
  omega
section
variable {G : World} {M : Mem} {L : Own}
theorem small_spec {A : Option Addr} {n c : Nat} {vs : List Value} {keys : List (List UInt8)} (h : Row M 1 A n c vs) (hb : BRows M vs keys) (hs : ∀ b ∈ keys, b.length ≤ 140737488355328) :
    Con Tryd.prog 26 #[.slice A n c] G M L (fun v M' L' => M = M' ∧ L = L' ∧ v = .bool (decide (smallB keys))) noPanic := by
  have hmx := h.max
  have hle := h.le
  have hvl := hb.len
  have hnl : vs.length = n := by have := h.len; omega
  refine enter (args := [_]) (fn := Tryd.f26) ⟨Tryd.func26, rfl, by kernel_rfl, by kernel_rfl⟩ 23 rfl ?_
  refine x_seq (x_region ?_)
  refine tl_y rfl (y_assign rfl) ?_
  refine tl_nil (.then_normal ?_)
  refine x_seq (x_seq (x_region ?_))
  refine tl_y rfl (y_move (v := .slice _ _ _) rfl) ?_
  refine tl_y rfl (y_len rfl) ?_
  refine tl_y rfl (y_gtr rfl rfl) ?_
  refine tl_nil (.then_normal ?_)
  refine x_cond rfl (fun hc1 => ?_) (fun hc1 => ?_)
  ·
    refine x_seq (x_region ?_)
    refine tl_y rfl (y_assign rfl) ?_
    refine tl_nil (.then_normal ?_)
    refine .sub (F' := [(2, _)]) (.cons rfl .nil) ?_
    refine x_ret (.then_ret (ret1 rfl rfl (Le.refl _) ⟨rfl, rfl, by rw [decide_eq_false (fun h => by have := h.1; omega)]⟩))
  ·
    refine x_skip (.then_normal ?_)
    refine .sub (F' := [(0, _)]) (.cons rfl .nil) ?_
    refine x_seq (x_region ?_)
    refine tl_y rfl (y_assign rfl) ?_
    refine tl_nil (.then_normal ?_)
    refine x_seq (x_seq (x_region ?_))
    refine tl_y rfl (y_assign rfl) ?_
    refine tl_nil (.then_normal ?_)
    refine x_block ?_
    refine x_loop (I := fun m' F D M1 L1 => ∃ k : Nat, m' = n - k ∧ k ≤ n ∧ D = [] ∧ M = M1 ∧ L = L1 ∧ F = [(0, .slice A n c), (3, .int .i64 ((keys.take k).flatten.length : Nat)), (4, .int .i64 k)]) (n) (F0 := [(0, _), (3, _), (4, _)]) ?_ (.cons rfl (.cons rfl (.cons rfl .nil))) ?_  -- slots [0, 3, 4], written [3, 4]
    · exact ⟨0, rfl, by omega, rfl, rfl, rfl, rfl⟩
    rintro m _ _ _ _ ⟨k, rfl, hk, rfl, rfl, rfl, rfl⟩
    refine x_seq (x_seq (x_region ?_))
    refine tl_y rfl (y_move (v := .int _ _) rfl) ?_
    refine tl_y rfl (y_move (v := .slice _ _ _) rfl) ?_
    refine tl_y rfl (y_len rfl) ?_
    refine tl_y rfl (y_lss rfl rfl) ?_
    refine tl_nil (.then_normal ?_)
    refine x_cond rfl (fun hc2 => ?_) (fun hc2 => ?_)
    ·
      have hkn : k < n := by omega
      obtain ⟨g, o, rfl, hcell⟩ := h.addr (by omega)
      obtain ⟨A2, n2, c2, hv2, hb2⟩ := hb.get k (by omega)
      have hn2 := hb2.size
      have hn2' := hs _ (getD_mem keys k [] (by omega))
      have hf2 : (keys.take (k + 1)).flatten = (keys.take k).flatten ++ keys.getD k [] := by
        rw [take_snoc keys k [] (by omega), List.flatten_append, List.flatten_singleton]
      have hf3 : (keys.take (k + 1)).flatten.length = (keys.take k).flatten.length + n2 := by rw [hf2, List.length_append, hn2]
      have hf4 := flat_le (keys := keys.take k) (fun b hb => hs b (List.mem_of_mem_take hb))
      have hf5 : (keys.take k).length = k := by rw [List.length_take]; omega
      rw [hf5] at hf4
      refine x_skip (.then_normal ?_)
      refine .sub (F' := [(0, _), (3, _), (4, _)]) (.cons rfl (.cons rfl (.cons rfl .nil))) ?_
      refine x_seq ?_
      refine x_block ?_
      refine x_region ?_
      refine tl_y rfl (y_move (v := .int _ _) rfl) ?_
      refine tl_y rfl (y_move (v := .slice _ _ _) rfl) ?_
      refine tl_y rfl (y_move (v := .int _ _) rfl) ?_
      refine tl_y rfl (y_indexAddr rfl rfl (by omega)) ?_
      refine tl_y rfl (y_load rfl rfl (.at_ (hcell _ k _ hv2) (by omega))) ?_
      refine tl_y rfl (y_len rfl) ?_
      refine tl_y rfl (y_addI rfl rfl (by omega)) ?_
      rw [show (((keys.take k).flatten.length : Nat) : Int) + (n2 : Int) = (((keys.take (k + 1)).flatten.length : Nat) : Int) by omega]
      refine tl_y rfl (y_assign (v := .int _ _) rfl) ?_
      refine tl_nil (.block_normal (.then_normal ?_))
      refine .sub (F' := [(0, _), (3, _), (4, _)]) (.cons rfl (.cons rfl (.cons rfl .nil))) ?_
      refine x_region ?_
      refine tl_y rfl (y_move (v := .int _ _) rfl) ?_
      refine tl_y rfl (y_addI rfl rfl (by omega)) ?_
      refine tl_y rfl (y_assign (v := .int _ _) rfl) ?_
      refine tl_nil (.loop_next (m' := n - (k + 1)) (by omega) (F' := [(0, _), (3, _), (4, _)]) (.cons rfl (.cons rfl (.cons rfl .nil))) ?_)
      exact ⟨k + 1, rfl, by omega, rfl, rfl, rfl, rfl⟩
    ·
      obtain rfl : k = n := by omega
      rw [List.take_of_length_le (by omega)]
      refine x_exit (.then_exit (.loop_exit (.block_exit (.then_normal ?_))))
      refine .sub (F' := [(3, _)]) (.cons rfl .nil) ?_
      refine x_seq (x_region ?_)
      refine tl_y rfl (y_move (v := .int _ _) rfl) ?_
      refine tl_y rfl (y_leq rfl rfl) ?_
      refine tl_y rfl (y_assign (v := .bool _) rfl) ?_
      refine tl_nil (.then_normal ?_)
      refine x_ret (ret1 rfl rfl (Le.refl _) ⟨rfl, rfl, by
        congr 1
        rw [decide_eq_decide]
        exact ⟨fun h => ⟨by omega, by omega⟩, fun h => by have := h.2; omega⟩⟩)
theorem All_spec {A B : Option Addr} {n c m d : Nat} {va vb : List Value} {xs ys : List (List UInt8)} (ha : Row M 1 A n c va) (hab : BRows M va xs) (hb : Row M 1 B m d vb) (hbb : BRows M vb ys) (he : xs = ys) :
    Con Tryd.prog 31 #[.slice A n c, .slice B m d] G M L (fun v M' L' => M = M' ∧ L = L' ∧ v = .bool true) noPanic := by
  subst he
  have hmx := ha.max
  have hle := ha.le
  have hvl := hab.len
  have hvl2 := hbb.len
  have hnl : va.length = n := by have := ha.len; omega
  have hnl2 : vb.length = m := by have := hb.len; omega
  obtain rfl : n = m := by omega
  refine enter (args := [_, _]) (fn := Tryd.f31) ⟨Tryd.func31, rfl, by kernel_rfl, by kernel_rfl⟩ 27 rfl ?_
  refine x_seq (x_region ?_)
  refine tl_y rfl (y_assign rfl) ?_
  refine tl_nil (.then_normal ?_)
  refine x_seq (x_seq (x_region ?_))
  refine tl_y rfl (y_move (v := .slice _ _ _) rfl) ?_
  refine tl_y rfl (y_len rfl) ?_
  refine tl_y rfl (y_move (v := .slice _ _ _) rfl) ?_
  refine tl_y rfl (y_len rfl) ?_
  refine tl_y rfl (y_neq rfl rfl) ?_
  refine tl_nil (.then_normal ?_)
  refine .sub (F' := [(0, _), (1, _), (4, _), (10, _)]) (.cons rfl (.cons rfl (.cons rfl (.cons rfl .nil)))) ?_
  refine x_false rfl (by simp) ?_
  refine x_skip (.then_normal ?_)
  refine x_seq (x_seq (x_region ?_))
  refine tl_y rfl (y_assign rfl) ?_
  refine tl_nil (.then_normal ?_)
  refine x_block ?_
  refine x_loop (I := fun m' F D M1 L1 => ∃ k : Nat, m' = n - k ∧ k ≤ n ∧ D = [] ∧ M = M1 ∧ L = L1 ∧ F = [(0, .slice A n c), (1, .slice B n d), (4, .bool false), (5, .int .i64 k)]) (n) (F0 := [(0, _), (1, _), (4, _), (5, _)]) ?_ (.cons rfl (.cons rfl (.cons rfl (.cons rfl .nil)))) ?_  -- slots [0, 1, 4, 5], written [4, 5]
  · exact ⟨0, rfl, by omega, rfl, rfl, rfl, rfl⟩
  rintro m _ _ _ _ ⟨k, rfl, hk, rfl, rfl, rfl, rfl⟩
  refine x_seq (x_seq (x_region ?_))
  refine tl_y rfl (y_move (v := .int _ _) rfl) ?_
  refine tl_y rfl (y_move (v := .slice _ _ _) rfl) ?_
  refine tl_y rfl (y_len rfl) ?_
  refine tl_y rfl (y_lss rfl rfl) ?_
  refine tl_nil (.then_normal ?_)
  refine x_cond rfl (fun hc2 => ?_) (fun hc2 => ?_)
  ·
    have hkn : k < n := by omega
    obtain ⟨g, o, rfl, hcell⟩ := ha.addr (by omega)
    obtain ⟨g2, o2, rfl, hcell2⟩ := hb.addr (by omega)
    obtain ⟨A2, n2, c2, hv2, hb2⟩ := hab.get k (by omega)
    obtain ⟨A3, n3, c3, hv3, hb3⟩ := hbb.get k (by omega)
    refine x_skip (.then_normal ?_)
    refine .sub (F' := [(0, _), (1, _), (4, _), (5, _)]) (.cons rfl (.cons rfl (.cons rfl (.cons rfl .nil)))) ?_
    refine x_seq ?_
    refine x_block ?_
    refine x_seq ?_
    refine x_draw 10 hmix rfl ?_
    refine to_p 0 rfl (by kernel_rfl) rfl (y_move (v := .slice _ _ _) rfl) ?_
    refine to_p 1 rfl (by kernel_rfl) rfl (y_move (v := .int _ _) rfl) ?_
    refine to_p 2 rfl (by kernel_rfl) rfl (y_indexAddr rfl rfl (by omega)) ?_
    refine to_y 3 rfl (by kernel_rfl) rfl (y_load rfl rfl (.at_ (hcell _ k _ hv2) (by omega))) ?_
    refine to_p 4 rfl (by kernel_rfl) rfl (y_move (v := .slice _ _ _) rfl) ?_
    refine to_p 5 rfl (by kernel_rfl) rfl (y_move (v := .int _ _) rfl) ?_
    refine to_p 6 rfl (by kernel_rfl) rfl (y_indexAddr rfl rfl (by omega)) ?_
    refine to_y 7 rfl (by kernel_rfl) rfl (y_load rfl rfl (.at_ (hcell2 _ k _ hv3) (by omega))) ?_
    refine to_e 8 rfl (by kernel_rfl) rfl (e_call' rfl (same_spec hb2 hb3) ?_)
    rintro _ _ _ _ ⟨rfl, rfl, rfl⟩
    refine ⟨⟨(by first | exact Le.refl _ | assumption), Keeps.mem⟩, ?_⟩
    refine to_p 9 rfl (by kernel_rfl) rfl (y_not rfl) ?_
    refine to_nil (by kernel_rfl) (.then_normal ?_)
    refine .sub (F' := [(0, _), (1, _), (4, _), (5, _), (26, _)]) (.cons rfl (.cons rfl (.cons rfl (.cons rfl (.cons rfl .nil))))) ?_
    refine x_false rfl (by simp) ?_
    refine x_skip (.block_normal (.then_normal ?_))
    refine x_region ?_
    refine tl_y rfl (y_move (v := .int _ _) rfl) ?_
    refine tl_y rfl (y_addI rfl rfl (by omega)) ?_
    refine tl_y rfl (y_assign (v := .int _ _) rfl) ?_
    refine tl_nil (.loop_next (m' := n - (k + 1)) (by omega) (F' := [(0, _), (1, _), (4, _), (5, _)]) (.cons rfl (.cons rfl (.cons rfl (.cons rfl .nil)))) ?_)
    exact ⟨k + 1, rfl, by omega, rfl, rfl, rfl, rfl⟩
  ·
    refine x_exit (.then_exit (.loop_exit (.block_exit (.then_normal ?_))))
    refine .sub (F' := []) .nil ?_
    refine x_seq (x_region ?_)
    refine tl_y rfl (y_assign rfl) ?_
    refine tl_nil (.then_normal ?_)
    refine x_ret (ret1 rfl rfl (Le.refl _) ⟨rfl, rfl, rfl⟩)
end
section
variable {G : World} {M : Mem} {L : Own}
theorem MerkleClimbs_spec (hg : MrG M) (t : TreeV) {NA : Option Addr} {nl nc : Nat} {name : List UInt8} (hname : Bytes M NA nl nc name) {WA : Option Addr} {wl wc : Nat} {wvs : List Value} {way : List (List UInt8)} (h : Row M 1 WA wl wc wvs) (hw : BRows M wvs way) (hs : ∀ b ∈ way, b.length ≤ 140737488355328) (q : UInt32) {KA : Option Addr} {kl kc : Nat} {key : List UInt8} (hkey : Bytes M KA kl kc key) :
    Con Tryd.prog 9 #[.agg (List.toArray t.cells), .slice NA nl nc, .agg #[.slice WA wl wc, .int .u32 (q.toNat : Int), .slice KA kl kc]] G M L (fun v M' L' => v = .bool true) noPanic := by
  refine enter (args := [_, _, _]) (fn := Tryd.f9) ⟨Tryd.func9, rfl, by kernel_rfl, by kernel_rfl⟩ 66 rfl ?_
  refine x_seq (x_region ?_)
  refine tl_e rfl (e_box rfl (fun b1 => ?_))
  refine tl_e rfl (e_box rfl (fun b2 => ?_))
  refine tl_y rfl (y_assign rfl) ?_
  refine tl_nil (.then_normal ?_)
  refine x_seq (x_seq (x_region ?_))
  refine tl_e rfl (e_call' rfl (awake11_spec hg) ?_)
  rintro _ M1 _ hM1 ⟨rfl, rfl⟩
  have hm := hM1
  refine tl_y rfl (y_not rfl) ?_
  refine tl_nil (.then_normal ?_)
  refine .sub (F' := [(1, _), (3, _), (5, _), (12, _)]) (.cons rfl (.cons rfl (.cons rfl (.cons rfl .nil)))) ?_
  refine x_false rfl (rfl) ?_
  refine x_skip (.then_normal ?_)
  refine x_seq (x_seq (x_region ?_))
  refine tl_y rfl (y_fieldAddr rfl) ?_
  refine tl_y rfl (y_load rfl rfl (.own inferInstance inferInstance)) ?_
  refine tl_e rfl (e_call' rfl (small_spec (h.mono hm) (hw.mono hm) hs) ?_)
  rintro _ _ _ _ ⟨rfl, rfl, rfl⟩
  refine tl_y rfl (y_notd rfl) ?_
  refine tl_y rfl (y_move (v := .bool _) rfl) ?_
  refine tl_cases (s := 17) rfl (fun hk1 => ?_) (fun hk1 => ?_)
  ·
    refine tl_skip rfl ?_
    refine tl_skip rfl ?_
    refine tl_skip rfl ?_
    refine tl_skip rfl ?_
    refine tl_y rfl (y_pickT rfl rfl) ?_
    refine tl_y rfl (y_move (v := .bool _) rfl) ?_
    refine tl_skip rfl ?_
    refine tl_skip rfl ?_
    refine tl_skip rfl ?_
    refine tl_y rfl (y_pickT rfl rfl) ?_
    refine tl_y rfl (y_move (v := .bool _) rfl) ?_
    refine tl_skip rfl ?_
    refine tl_skip rfl ?_
    refine tl_skip rfl ?_
    refine tl_skip rfl ?_
    refine tl_y rfl (y_pickT rfl rfl) ?_
    refine tl_nil (.then_normal ?_)
    refine .sub (F' := [(1, _), (3, _), (5, _), (33, _)]) (.cons rfl (.cons rfl (.cons rfl (.cons rfl .nil)))) ?_
    refine x_true rfl rfl ?_
    refine x_seq (x_region ?_)
    refine tl_y rfl (y_assign rfl) ?_
    refine tl_nil (.then_normal ?_)
    refine .sub (F' := [(6, _)]) (.cons rfl .nil) ?_
    refine x_ret (.then_ret (ret1 rfl rfl hm rfl))
  ·
    refine tl_y rfl (y_fieldAddr rfl) ?_
    refine tl_y rfl (y_load rfl rfl (.own inferInstance inferInstance)) ?_
    refine tl_y rfl (y_len rfl) ?_
    refine tl_y rfl (y_gtr rfl rfl) ?_
    refine tl_y rfl (y_pickF rfl rfl) ?_
    refine tl_y rfl (y_move (v := .bool _) rfl) ?_
    refine tl_cases (s := 23) rfl (fun hk2 => ?_) (fun hk2 => ?_)
    ·
      refine tl_skip rfl ?_
      refine tl_skip rfl ?_
      refine tl_skip rfl ?_
      refine tl_y rfl (y_pickT rfl rfl) ?_
      refine tl_y rfl (y_move (v := .bool _) rfl) ?_
      refine tl_skip rfl ?_
      refine tl_skip rfl ?_
      refine tl_skip rfl ?_
      refine tl_skip rfl ?_
      refine tl_y rfl (y_pickT rfl rfl) ?_
      refine tl_nil (.then_normal ?_)
      refine .sub (F' := [(1, _), (3, _), (5, _), (33, _)]) (.cons rfl (.cons rfl (.cons rfl (.cons rfl .nil)))) ?_
      refine x_true rfl rfl ?_
      refine x_seq (x_region ?_)
      refine tl_y rfl (y_assign rfl) ?_
      refine tl_nil (.then_normal ?_)
      refine .sub (F' := [(6, _)]) (.cons rfl .nil) ?_
      refine x_ret (.then_ret (ret1 rfl rfl hm rfl))
    ·
      refine tl_y rfl (y_move (v := .slice _ _ _) rfl) ?_
      refine tl_y rfl (y_len rfl) ?_
      refine tl_y rfl (y_gtr rfl rfl) ?_
      refine tl_y rfl (y_pickF rfl rfl) ?_
      refine tl_y rfl (y_move (v := .bool _) rfl) ?_
      refine tl_cases (s := 28) rfl (fun hk3 => ?_) (fun hk3 => ?_)
      ·
        refine tl_skip rfl ?_
        refine tl_skip rfl ?_
        refine tl_skip rfl ?_
        refine tl_skip rfl ?_
        refine tl_y rfl (y_pickT rfl rfl) ?_
        refine tl_nil (.then_normal ?_)
        refine .sub (F' := [(1, _), (3, _), (5, _), (33, _)]) (.cons rfl (.cons rfl (.cons rfl (.cons rfl .nil)))) ?_
        refine x_true rfl rfl ?_
        refine x_seq (x_region ?_)
        refine tl_y rfl (y_assign rfl) ?_
        refine tl_nil (.then_normal ?_)
        refine .sub (F' := [(6, _)]) (.cons rfl .nil) ?_
        refine x_ret (.then_ret (ret1 rfl rfl hm rfl))
      ·
        refine tl_y rfl (y_fieldAddr rfl) ?_
        refine tl_y rfl (y_load rfl rfl (.own inferInstance inferInstance)) ?_
        refine tl_y rfl (y_len rfl) ?_
        refine tl_y rfl (y_gtr rfl rfl) ?_
        refine tl_y rfl (y_pickF rfl rfl) ?_
        refine tl_nil (.then_normal ?_)
        refine .sub (F' := [(1, _), (3, _), (5, _), (33, _)]) (.cons rfl (.cons rfl (.cons rfl (.cons rfl .nil)))) ?_
        refine x_cond rfl (fun hc2 => ?_) (fun hc2 => ?_)
        ·
          refine x_seq (x_region ?_)
          refine tl_y rfl (y_assign rfl) ?_
          refine tl_nil (.then_normal ?_)
          refine .sub (F' := [(6, _)]) (.cons rfl .nil) ?_
          refine x_ret (.then_ret (ret1 rfl rfl hm rfl))
        ·
          refine x_skip (.then_normal ?_)
          refine x_seq (x_region ?_)
          refine tl_y rfl (y_loadAgg rfl rfl (.own inferInstance inferInstance)) ?_
          refine tl_y rfl (y_move (v := .slice _ _ _) rfl) ?_
          refine tl_y rfl (y_fieldAddr rfl) ?_
          refine tl_y rfl (y_load rfl rfl (.own inferInstance inferInstance)) ?_
          refine tl_y rfl (y_fieldAddr rfl) ?_
          refine tl_y rfl (y_load rfl rfl (.own inferInstance inferInstance)) ?_
          refine tl_y rfl (y_fieldAddr rfl) ?_
          refine tl_y rfl (y_load rfl rfl (.own inferInstance inferInstance)) ?_
          refine tl_e rfl (e_call' rfl (Climb_spec (hg.mono hm) t (hname.mono hm) q (hkey.mono hm) (by omega) (h.mono hm) (hw.mono hm)) ?_)
          rintro _ M2 _ hM2 ⟨rfl, A2, m2, c2, rfl, hA2⟩
          replace hm := hm.trans hM2
          refine tl_y rfl (y_move (v := .tuple _) rfl) ?_
          refine tl_y rfl (y_extract rfl) ?_
          refine tl_y rfl (y_extract rfl) ?_
          refine tl_y rfl (y_assign (v := .slice _ _ _) rfl) ?_
          refine tl_y rfl (y_assign (v := .int _ _) rfl) ?_
          refine tl_nil (.then_normal ?_)
          refine .sub (F' := [(1, _), (3, _), (5, _), (7, _), (8, _)]) (.cons rfl (.cons rfl (.cons rfl (.cons rfl (.cons rfl .nil))))) ?_
          refine x_seq (x_region ?_)
          refine tl_y rfl (y_loadAgg rfl rfl (.own inferInstance inferInstance)) ?_
          refine tl_y rfl (y_move (v := .slice _ _ _) rfl) ?_
          refine tl_y rfl (y_fieldAddr rfl) ?_
          refine tl_y rfl (y_load rfl rfl (.own inferInstance inferInstance)) ?_
          refine tl_y rfl (y_fieldAddr rfl) ?_
          refine tl_y rfl (y_load rfl rfl (.own inferInstance inferInstance)) ?_
          refine tl_y rfl (y_fieldAddr rfl) ?_
          refine tl_y rfl (y_load rfl rfl (.own inferInstance inferInstance)) ?_
          refine tl_e rfl (e_call' rfl (RClimb_spec t (hname.mono hm) q (hkey.mono hm) (by omega) (h.mono hm) (hw.mono hm)) ?_)
          rintro _ M3 _ hM3 ⟨rfl, A3, m3, c3, rfl, hA3⟩
          replace hm := hm.trans hM3
          refine tl_y rfl (y_move (v := .tuple _) rfl) ?_
          refine tl_y rfl (y_extract rfl) ?_
          refine tl_y rfl (y_extract rfl) ?_
          refine tl_y rfl (y_assign (v := .slice _ _ _) rfl) ?_
          refine tl_y rfl (y_assign (v := .int _ _) rfl) ?_
          refine tl_nil (.then_normal ?_)
          refine .sub (F' := [(7, _), (8, _), (9, _), (10, _)]) (.cons rfl (.cons rfl (.cons rfl (.cons rfl .nil)))) ?_
          refine x_seq (x_region ?_)
          refine tl_y rfl (y_move (v := .slice _ _ _) rfl) ?_
          refine tl_y rfl (y_move (v := .slice _ _ _) rfl) ?_
          refine tl_e rfl (e_call' rfl (same_spec (hA2.mono hM3) hA3) ?_)
          rintro _ _ _ _ ⟨rfl, rfl, rfl⟩
          refine tl_y rfl (y_move (v := .bool _) rfl) ?_
          refine tl_set (s := 61) (u := .bool true) rfl (by simp) ?_
          refine tl_y rfl (y_move (v := .int _ _) rfl) ?_
          refine tl_y rfl (y_move (v := .int _ _) rfl) ?_
          refine tl_y rfl (y_eql rfl rfl) ?_
          refine tl_y rfl (y_pickT rfl rfl) ?_
          refine tl_y rfl (y_assign (v := .bool _) rfl) ?_
          refine tl_nil (.then_normal ?_)
          refine .sub (F' := [(6, _)]) (.cons rfl .nil) ?_
          refine x_ret (ret1 rfl rfl hm (by simp))
theorem MerkleMakes_spec (hg : MrG M) (t : TreeV) {NA : Option Addr} {nl nc : Nat} {name : List UInt8} (hname : Bytes M NA nl nc name) {WA : Option Addr} {wl wc : Nat} {wvs : List Value} {keys : List (List UInt8)} (h : Row M 1 WA wl wc wvs) (hw : BRows M wvs keys) (hs : ∀ b ∈ keys, b.length ≤ 140737488355328) (q : UInt32) {KA : Option Addr} {kl kc : Nat} :
    Con Tryd.prog 8 #[.agg (List.toArray t.cells), .slice NA nl nc, .agg #[.slice WA wl wc, .int .u32 (q.toNat : Int), .slice KA kl kc]] G M L (fun v M' L' => v = .bool true) noPanic := by
  have hwl := h.max
  have hle := h.le
  refine enter (args := [_, _, _]) (fn := Tryd.f8) ⟨Tryd.func8, rfl, by kernel_rfl, by kernel_rfl⟩ 59 rfl ?_
  refine x_seq (x_region ?_)
  refine tl_e rfl (e_box rfl (fun b1 => ?_))
  refine tl_e rfl (e_box rfl (fun b2 => ?_))
  refine tl_y rfl (y_assign rfl) ?_
  refine tl_nil (.then_normal ?_)
  refine x_seq (x_seq (x_region ?_))
  refine tl_e rfl (e_call' rfl (awake11_spec hg) ?_)
  rintro _ M1 _ hM1 ⟨rfl, rfl⟩
  have hm := hM1
  refine tl_y rfl (y_not rfl) ?_
  refine tl_nil (.then_normal ?_)
  refine .sub (F' := [(1, _), (3, _), (5, _), (8, _)]) (.cons rfl (.cons rfl (.cons rfl (.cons rfl .nil)))) ?_
  refine x_false rfl (rfl) ?_
  refine x_skip (.then_normal ?_)
  refine x_seq (x_seq (x_region ?_))
  refine tl_y rfl (y_fieldAddr rfl) ?_
  refine tl_y rfl (y_load rfl rfl (.own inferInstance inferInstance)) ?_
  refine tl_e rfl (e_call' rfl (small_spec (h.mono hm) (hw.mono hm) hs) ?_)
  rintro _ _ _ _ ⟨rfl, rfl, rfl⟩
  refine tl_y rfl (y_notd rfl) ?_
  refine tl_y rfl (y_move (v := .bool _) rfl) ?_
  refine tl_cases (s := 13) rfl (fun hk1 => ?_) (fun hk1 => ?_)
  ·
    refine tl_skip rfl ?_
    refine tl_skip rfl ?_
    refine tl_skip rfl ?_
    refine tl_y rfl (y_pickT rfl rfl) ?_
    refine tl_nil (.then_normal ?_)
    refine .sub (F' := [(1, _), (3, _), (5, _), (17, _)]) (.cons rfl (.cons rfl (.cons rfl (.cons rfl .nil)))) ?_
    refine x_true rfl rfl ?_
    refine x_seq (x_region ?_)
    refine tl_y rfl (y_assign rfl) ?_
    refine tl_nil (.then_normal ?_)
    refine .sub (F' := [(6, _)]) (.cons rfl .nil) ?_
    refine x_ret (.then_ret (ret1 rfl rfl hm rfl))
  ·
    refine tl_y rfl (y_move (v := .slice _ _ _) rfl) ?_
    refine tl_y rfl (y_len rfl) ?_
    refine tl_y rfl (y_gtr rfl rfl) ?_
    refine tl_y rfl (y_pickF rfl rfl) ?_
    refine tl_nil (.then_normal ?_)
    refine .sub (F' := [(1, _), (3, _), (5, _), (17, _)]) (.cons rfl (.cons rfl (.cons rfl (.cons rfl .nil)))) ?_
    refine x_cond rfl (fun hc2 => ?_) (fun hc2 => ?_)
    ·
      refine x_seq (x_region ?_)
      refine tl_y rfl (y_assign rfl) ?_
      refine tl_nil (.then_normal ?_)
      refine .sub (F' := [(6, _)]) (.cons rfl .nil) ?_
      refine x_ret (.then_ret (ret1 rfl rfl hm rfl))
    ·
      refine x_skip (.then_normal ?_)
      refine x_seq ?_
      have hks := (Classical.not_not.1 hk1).each
      have hd : Le M1 M1 := Le.refl _
      refine x_draw 42 hmix rfl ?_
      refine to_y 0 rfl (by kernel_rfl) rfl (y_loadAgg rfl rfl (.own inferInstance inferInstance)) ?_
      refine to_p 1 rfl (by kernel_rfl) rfl (y_move (v := .slice _ _ _) rfl) ?_
      refine to_p 2 rfl (by kernel_rfl) rfl (y_fieldAddr rfl) ?_
      refine to_y 3 rfl (by kernel_rfl) rfl (y_load rfl rfl (.own inferInstance inferInstance)) ?_
      refine to_y 5 rfl (by kernel_rfl) rfl (y_loadAgg rfl rfl (.own inferInstance inferInstance)) ?_
      refine to_p 6 rfl (by kernel_rfl) rfl (y_move (v := .slice _ _ _) rfl) ?_
      refine to_p 7 rfl (by kernel_rfl) rfl (y_fieldAddr rfl) ?_
      refine to_y 8 rfl (by kernel_rfl) rfl (y_load rfl rfl (.own inferInstance inferInstance)) ?_
      refine to_e 4 rfl (by kernel_rfl) rfl (e_call' rfl (May_spec (hg.mono hm) t (by omega)) ?_)
      rintro _ M2 _ hM2 ⟨rfl, rfl⟩
      replace hd := hd.trans hM2
      replace hm := hm.trans hM2
      refine ⟨⟨(by first | exact Le.refl _ | assumption), Keeps.mem⟩, ?_⟩
      refine to_e 9 rfl (by kernel_rfl) rfl (e_call' rfl (RMay_spec t (by omega)) ?_)
      rintro _ _ _ _ ⟨rfl, rfl, rfl⟩
      refine ⟨⟨(by first | exact Le.refl _ | assumption), Keeps.mem⟩, ?_⟩
      refine to_p 10 rfl (by kernel_rfl) rfl (y_eqlBool rfl rfl) ?_
      refine to_p 11 rfl (by kernel_rfl) rfl (y_move (v := .bool _) rfl) ?_
      refine to_set (s := 29) (u := .bool true) rfl (by simp) ?_
      refine to_y 12 rfl (by kernel_rfl) rfl (y_loadAgg rfl rfl (.own inferInstance inferInstance)) ?_
      refine to_p 13 rfl (by kernel_rfl) rfl (y_move (v := .slice _ _ _) rfl) ?_
      refine to_p 14 rfl (by kernel_rfl) rfl (y_fieldAddr rfl) ?_
      refine to_y 15 rfl (by kernel_rfl) rfl (y_load rfl rfl (.own inferInstance inferInstance)) ?_
      refine to_y 17 rfl (by kernel_rfl) rfl (y_loadAgg rfl rfl (.own inferInstance inferInstance)) ?_
      refine to_p 18 rfl (by kernel_rfl) rfl (y_move (v := .slice _ _ _) rfl) ?_
      refine to_p 19 rfl (by kernel_rfl) rfl (y_fieldAddr rfl) ?_
      refine to_y 20 rfl (by kernel_rfl) rfl (y_load rfl rfl (.own inferInstance inferInstance)) ?_
      refine to_e 16 rfl (by kernel_rfl) rfl (e_call' rfl (Root_spec (hg.mono hm) t (hname.mono hm) (h.mono hm) (hw.mono hm) hks) ?_)
      rintro _ M3 _ hM3 ⟨rfl, A3, m3, c3, rfl, hA3⟩
      replace hd := hd.trans hM3
      replace hm := hm.trans hM3
      refine ⟨⟨(by first | exact Le.refl _ | assumption), Keeps.mem⟩, ?_⟩
      refine to_e 21 rfl (by kernel_rfl) rfl (e_call' rfl (RRoot_spec t (hname.mono hm) (h.mono hm) (hw.mono hm) hks) ?_)
      rintro _ M4 _ hM4 ⟨rfl, A4, m4, c4, rfl, hA4⟩
      replace hd := hd.trans hM4
      replace hm := hm.trans hM4
      refine ⟨⟨(by first | exact Le.refl _ | assumption), Keeps.mem⟩, ?_⟩
      refine to_e 22 rfl (by kernel_rfl) rfl (e_call' rfl (same_spec (hA3.mono hM4) hA4) ?_)
      rintro _ _ _ _ ⟨rfl, rfl, rfl⟩
      refine ⟨⟨(by first | exact Le.refl _ | assumption), Keeps.mem⟩, ?_⟩
      refine to_p 23 rfl (by kernel_rfl) rfl (y_pickT rfl rfl) ?_
      refine to_p 24 rfl (by kernel_rfl) rfl (y_move (v := .bool _) rfl) ?_
      refine to_set (s := 42) (u := .bool true) rfl (by simp) ?_
      refine to_y 25 rfl (by kernel_rfl) rfl (y_loadAgg rfl rfl (.own inferInstance inferInstance)) ?_
      refine to_p 26 rfl (by kernel_rfl) rfl (y_move (v := .slice _ _ _) rfl) ?_
      refine to_p 27 rfl (by kernel_rfl) rfl (y_fieldAddr rfl) ?_
      refine to_y 28 rfl (by kernel_rfl) rfl (y_load rfl rfl (.own inferInstance inferInstance)) ?_
      refine to_p 29 rfl (by kernel_rfl) rfl (y_fieldAddr rfl) ?_
      refine to_y 30 rfl (by kernel_rfl) rfl (y_load rfl rfl (.own inferInstance inferInstance)) ?_
      refine to_y 32 rfl (by kernel_rfl) rfl (y_loadAgg rfl rfl (.own inferInstance inferInstance)) ?_
      refine to_p 33 rfl (by kernel_rfl) rfl (y_move (v := .slice _ _ _) rfl) ?_
      refine to_p 34 rfl (by kernel_rfl) rfl (y_fieldAddr rfl) ?_
      refine to_y 35 rfl (by kernel_rfl) rfl (y_load rfl rfl (.own inferInstance inferInstance)) ?_
      refine to_p 36 rfl (by kernel_rfl) rfl (y_fieldAddr rfl) ?_
      refine to_y 37 rfl (by kernel_rfl) rfl (y_load rfl rfl (.own inferInstance inferInstance)) ?_
      refine to_e 31 rfl (by kernel_rfl) rfl (e_call' rfl (Way_spec (hg.mono hm) t (hname.mono hm) (h.mono hm) (hw.mono hm) hks q) ?_)
      rintro _ M5 _ hM5 ⟨rfl, A5, m5, c5, vs5, rfl, hr5, hb5⟩
      replace hd := hd.trans hM5
      replace hm := hm.trans hM5
      refine ⟨⟨(by first | exact Le.refl _ | assumption), Keeps.mem⟩, ?_⟩
      refine to_e 38 rfl (by kernel_rfl) rfl (e_call' rfl (RWay_spec t (hname.mono hm) (h.mono hm) (hw.mono hm) hks q) ?_)
      rintro _ M6 _ hM6 ⟨rfl, A6, m6, c6, vs6, rfl, hr6, hb6⟩
      replace hd := hd.trans hM6
      replace hm := hm.trans hM6
      refine ⟨⟨(by first | exact Le.refl _ | assumption), Keeps.mem⟩, ?_⟩
      refine to_e 39 rfl (by kernel_rfl) rfl (e_call' rfl (All_spec (hr5.mono hM6) (hb5.mono hM6) hr6 hb6 rfl) ?_)
      rintro _ _ _ _ ⟨rfl, rfl, rfl⟩
      refine ⟨⟨(by first | exact Le.refl _ | assumption), Keeps.mem⟩, ?_⟩
      refine to_p 40 rfl (by kernel_rfl) rfl (y_pickT rfl rfl) ?_
      refine to_p 41 rfl (by kernel_rfl) rfl (y_assign (v := .bool _) rfl) ?_
      refine to_nil (by kernel_rfl) (.then_normal ?_)
      refine .sub (F' := [(6, _)]) (.cons rfl .nil) ?_
      refine x_ret (ret1 rfl rfl hm rfl)
end
end Go.Proofs.YtgpjbjbdfkiklaaDoor
