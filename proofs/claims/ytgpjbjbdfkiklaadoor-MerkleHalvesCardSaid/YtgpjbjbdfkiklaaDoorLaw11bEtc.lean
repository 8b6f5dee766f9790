/-
From a contract to a statement; what came in.
-/
import Derived.Test.YtgpjbjbdfkiklaaDoorRef11bEtc
import Derived.Test.YtgpjbjbdfkiklaaDoorEngIEtc
import Derived.WalkKit
import Derived.ProofKit
import Derived.OpenShut
import Derived.ShutString
import Derived.ChangeOld
import Derived.Below
import Derived.Deep.Slices
import Derived.Test.YtgpjbjbdfkiklaaDoorTypes1Etc
import Derived.SizedLaws
import Derived.Deep.Strs
set_option linter.unusedVariables false
set_option linter.unusedSimpArgs false
set_option linter.constructorNameAsVariable false
namespace Go.Proofs.YtgpjbjbdfkiklaaDoor
open Go Go.Eng
theorem own_fact (i : Nat) (hi : i < 16) : ∃ (t : TreeV) (H : Nat), treeV (UInt32.ofNat (4026531841 + i)) = t ∧ treeE (UInt32.ofNat (4026531841 + i)) = 0 ∧ okS t 16 ∧ t.h = (H : Int) ∧ 1 ≤ H ∧ H ≤ 4 := by
  have h : ∀ i : Fin 16, (treeE (UInt32.ofNat (4026531841 + i.val)) = 0) ∧ okS (treeV (UInt32.ofNat (4026531841 + i.val))) 16 ∧ 1 ≤ (treeV (UInt32.ofNat (4026531841 + i.val))).h ∧ (treeV (UInt32.ofNat (4026531841 + i.val))).h ≤ 4 := by decide +kernel
  obtain ⟨h1, h2, h3, h4⟩ := h ⟨i, hi⟩
  simp only at h1 h2 h3 h4
  exact ⟨_, (treeV (UInt32.ofNat (4026531841 + i))).h.toNat, rfl, h1, h2, by omega, by omega, by omega⟩
theorem Row.take1 {M : Mem} {A : Option Addr} {n c : Nat} {vs : List Value} (h : Row M 1 A n c vs) (k : Nat) (hk : k ≤ n) : Row M 1 (sl A 0 c 1) k c (vs.take k) := by
  have hle := h.le
  have := Row.slice (l := 0) (h := k) (m := c) h (by omega) hk (by omega) (Nat.le_refl _)
  simpa using this
theorem BRows.take {M : Mem} {vs : List Value} {bss : List (List UInt8)} (h : BRows M vs bss) (k : Nat) : BRows M (vs.take k) (bss.take k) := by
  induction h generalizing k with
  | nil => simpa using BRows.nil
  | cons hb ht ih =>
    cases k with
    | zero => exact .nil
    | succ k => exact .cons hb (ih k)
section
variable {G : World} {M : Mem} {L : Own}
theorem MerkleLeads_spec (hg : MrG M) (code : UInt8) {NA : Option Addr} {nl nc : Nat} {name : List UInt8} (hname : Bytes M NA nl nc name) {WA : Option Addr} {wl wc : Nat} {wvs : List Value} {keys : List (List UInt8)} (h : Row M 1 WA wl wc wvs) (hw : BRows M wvs keys) (hs : ∀ b ∈ keys, b.length ≤ 140737488355328) (q : UInt32) {KA : Option Addr} {kl kc : Nat} :
    Con Tryd.prog 10 #[.int .u8 (code.toNat : Int), .slice NA nl nc, .agg #[.slice WA wl wc, .int .u32 (q.toNat : Int), .slice KA kl kc]] G M L (fun v M' L' => v = .bool true) noPanic := by
  have hwx := h.max
  have hle := h.le
  have hvl := hw.len
  have hwn : wvs.length = wl := by have := h.len; omega
  have hnle := hname.le
  have hnl := hname.size
  have hcl := code.toNat_lt
  obtain ⟨t, H, et, ee, hok, hH, hH1, hH4⟩ := own_fact (code.toNat % 16) (Nat.mod_lt _ (by omega))
  obtain ⟨hokc, H', hH', _, _, hlv⟩ := okS_facts hok
  obtain rfl : H = H' := by omega
  have hp4 := pw2_le (j := H) (k := 4) (by omega)
  rw [show pw2 4 = 16 from rfl] at hp4
  have hp1 := pw2_pos H
  refine enter (args := [_, _, _]) (fn := Tryd.f10) ⟨Tryd.func10, rfl, by kernel_rfl, by kernel_rfl⟩ 102 rfl ?_
  refine x_seq (x_region ?_)
  refine tl_e rfl (e_box rfl (fun b1 => ?_))
  refine tl_y rfl (y_assign rfl) ?_
  refine tl_nil (.then_normal ?_)
  refine x_seq (x_seq (x_region ?_))
  refine tl_e rfl (e_call' rfl (awake11_spec hg) ?_)
  rintro _ M1 _ hM1 ⟨rfl, rfl⟩
  have hm := hM1
  refine tl_y rfl (y_not rfl) ?_
  refine tl_nil (.then_normal ?_)
  refine x_false rfl (rfl) ?_
  refine x_skip (.then_normal ?_)
  refine x_seq (x_region ?_)
  refine tl_y rfl (y_move (v := .int _ _) rfl) ?_
  refine tl_y rfl (y_convN32 rfl (by omega)) ?_
  refine tl_y rfl (y_remI rfl rfl (by omega)) ?_
  refine tl_y rfl (y_addN32 rfl rfl (by omega)) ?_
  rw [show (4026531841 : Int) + (code.toNat : Int) % 16 = (((UInt32.ofNat (4026531841 + code.toNat % 16)).toNat : Nat) : Int) by rw [UInt32.toNat_ofNat', Nat.mod_eq_of_lt (by omega)]; omega]
  refine tl_e rfl (e_call' rfl (RTree_spec _) ?_)
  rintro _ _ _ _ ⟨rfl, rfl, rfl⟩
  rw [et, ee]
  refine tl_y rfl (y_move (v := .tuple _) rfl) ?_
  refine tl_y rfl (y_extract rfl) ?_
  refine tl_y rfl (y_extract rfl) ?_
  refine tl_e rfl (e_alloc (fun b2 => ?_))
  refine tl_e rfl (e_store rfl rfl (by rfl) (by rfl) inferInstance inferInstance inferInstance ?_)
  refine tl_y rfl (y_assign (v := .int _ _) rfl) ?_
  refine tl_nil (.then_normal ?_)
  refine .sub (F' := [(1, _), (5, _), (6, _), (7, _), (8, _)]) (.cons rfl (.cons rfl (.cons rfl (.cons rfl (.cons rfl .nil))))) ?_
  refine x_seq (x_seq (x_region ?_))
  refine tl_y rfl (y_move (v := .int _ _) rfl) ?_
  refine tl_y rfl (y_neq rfl rfl) ?_
  refine tl_nil (.then_normal ?_)
  refine x_false rfl (rfl) ?_
  refine x_skip (.then_normal ?_)
  refine x_seq (x_region ?_)
  refine tl_y rfl (y_loadAgg rfl rfl (.own inferInstance inferInstance)) ?_
  refine tl_e rfl (e_call' rfl (RLeaves_spec t) ?_)
  rintro _ _ _ _ ⟨rfl, rfl, rfl⟩
  rw [hlv]
  refine tl_y rfl (y_convI rfl (by omega)) ?_
  refine tl_y rfl (y_assign (v := .int _ _) rfl) ?_
  refine tl_nil (.then_normal ?_)
  refine .sub (F' := [(1, _), (5, _), (6, _), (7, _), (9, _)]) (.cons rfl (.cons rfl (.cons rfl (.cons rfl (.cons rfl .nil))))) ?_
  refine x_seq (x_seq (x_region ?_))
  refine tl_y rfl (y_fieldAddr rfl) ?_
  refine tl_y rfl (y_load rfl rfl (.own inferInstance inferInstance)) ?_
  refine tl_e rfl (e_call' rfl (small_spec (h.mono hm) (hw.mono hm) hs) ?_)
  rintro _ _ _ _ ⟨rfl, rfl, rfl⟩
  refine tl_y rfl (y_notd rfl) ?_
  refine tl_y rfl (y_move (v := .bool _) rfl) ?_
  refine tl_cases (s := 35) rfl (fun hk1 => ?_) (fun hk1 => ?_)
  ·
    refine tl_skip rfl ?_
    refine tl_skip rfl ?_
    refine tl_skip rfl ?_
    refine tl_skip rfl ?_
    refine tl_skip rfl ?_
    refine tl_y rfl (y_pickT rfl rfl) ?_
    refine tl_y rfl (y_move (v := .bool _) rfl) ?_
    refine tl_skip rfl ?_
    refine tl_skip rfl ?_
    refine tl_skip rfl ?_
    refine tl_y rfl (y_pickT rfl rfl) ?_
    refine tl_nil (.then_normal ?_)
    refine .sub (F' := [(1, _), (5, _), (6, _), (7, _), (9, _), (46, _)]) (.cons rfl (.cons rfl (.cons rfl (.cons rfl (.cons rfl (.cons rfl .nil)))))) ?_
    refine x_true rfl rfl ?_
    refine x_seq (x_region ?_)
    refine tl_y rfl (y_assign rfl) ?_
    refine tl_nil (.then_normal ?_)
    refine .sub (F' := [(6, _)]) (.cons rfl .nil) ?_
    refine x_ret (.then_ret (ret1 rfl rfl hm rfl))
  ·
    refine tl_y rfl (y_fieldAddr rfl) ?_
    refine tl_y rfl (y_load rfl rfl (.own inferInstance inferInstance)) ?_
    refine tl_y rfl (y_len rfl) ?_
    refine tl_y rfl (y_move (v := .int _ _) rfl) ?_
    refine tl_y rfl (y_lss rfl rfl) ?_
    refine tl_y rfl (y_pickF rfl rfl) ?_
    refine tl_y rfl (y_move (v := .bool _) rfl) ?_
    refine tl_cases (s := 42) rfl (fun hk2 => ?_) (fun hk2 => ?_)
    ·
      refine tl_skip rfl ?_
      refine tl_skip rfl ?_
      refine tl_skip rfl ?_
      refine tl_y rfl (y_pickT rfl rfl) ?_
      refine tl_nil (.then_normal ?_)
      refine .sub (F' := [(1, _), (5, _), (6, _), (7, _), (9, _), (46, _)]) (.cons rfl (.cons rfl (.cons rfl (.cons rfl (.cons rfl (.cons rfl .nil)))))) ?_
      refine x_true rfl rfl ?_
      refine x_seq (x_region ?_)
      refine tl_y rfl (y_assign rfl) ?_
      refine tl_nil (.then_normal ?_)
      refine .sub (F' := [(6, _)]) (.cons rfl .nil) ?_
      refine x_ret (.then_ret (ret1 rfl rfl hm rfl))
    ·
      refine tl_y rfl (y_move (v := .slice _ _ _) rfl) ?_
      refine tl_y rfl (y_len rfl) ?_
      refine tl_y rfl (y_lss rfl rfl) ?_
      refine tl_y rfl (y_pickF rfl rfl) ?_
      refine tl_nil (.then_normal ?_)
      refine .sub (F' := [(1, _), (5, _), (6, _), (7, _), (9, _), (46, _)]) (.cons rfl (.cons rfl (.cons rfl (.cons rfl (.cons rfl (.cons rfl .nil)))))) ?_
      refine x_cond rfl (fun hc3 => ?_) (fun hc3 => ?_)
      ·
        refine x_seq (x_region ?_)
        refine tl_y rfl (y_assign rfl) ?_
        refine tl_nil (.then_normal ?_)
        refine .sub (F' := [(6, _)]) (.cons rfl .nil) ?_
        refine x_ret (.then_ret (ret1 rfl rfl hm rfl))
      ·
        have hks := (Classical.not_not.1 hk1).each
        have hk' : (keys.take (pw2 H)).length = pw2 H := by rw [List.length_take]; omega
        have hks' : ∀ b ∈ keys.take (pw2 H), b.length ≤ 1000000000000 := fun b hb => hks b (List.mem_of_mem_take hb)
        have hokM : okM t 16 (pw2 H) := ⟨hok, by omega, hlv.symm⟩
        have hn16 : (name.take 16).length = 16 := by rw [List.length_take]; omega
        refine x_skip (.then_normal ?_)
        refine x_seq (x_region ?_)
        refine tl_y rfl (y_fieldAddr rfl) ?_
        refine tl_y rfl (y_load rfl rfl (.own inferInstance inferInstance)) ?_
        refine tl_y rfl (y_move (v := .int _ _) rfl) ?_
        refine tl_y rfl (y_sliceH rfl rfl (by omega) (by omega)) ?_
        rw [Int.toNat_natCast]
        refine tl_y rfl (y_assign (v := .slice _ _ _) rfl) ?_
        refine tl_nil (.then_normal ?_)
        refine .sub (F' := [(1, _), (6, _), (7, _), (9, _), (10, _)]) (.cons rfl (.cons rfl (.cons rfl (.cons rfl (.cons rfl .nil))))) ?_
        refine x_seq ?_
        have hd : Le M1 M1 := Le.refl _
        refine x_draw 6 hmix rfl ?_
        refine to_y 0 rfl (by kernel_rfl) rfl (y_loadAgg rfl rfl (.own inferInstance inferInstance)) ?_
        refine to_p 1 rfl (by kernel_rfl) rfl (y_move (v := .slice _ _ _) rfl) ?_
        refine to_p 2 rfl (by kernel_rfl) rfl (y_sliceH rfl rfl (by omega) (by omega)) ?_
        refine to_p 3 rfl (by kernel_rfl) rfl (y_move (v := .slice _ _ _) rfl) ?_
        refine to_e 4 rfl (by kernel_rfl) rfl (e_call' rfl (Root_spec (hg.mono hm) t (Bytes.take (hname.mono hm) 16 (by omega)) (Row.take1 (h.mono hm) (pw2 H) (by omega)) (BRows.take (hw.mono hm) (pw2 H)) hks') ?_)
        rintro _ M2 _ hM2 ⟨rfl, A2, m2, c2, rfl, hA2⟩
        rw [if_pos hokM] at hA2
        replace hm := hm.trans hM2
        replace hd := hd.trans hM2
        have hrl := root_len hok hn16 hH hk'
        have hm2 := hA2.size
        refine ⟨⟨(by first | exact Le.refl _ | assumption), Keeps.mem⟩, ?_⟩
        refine to_p 5 rfl (by kernel_rfl) rfl (y_assign (v := .slice _ _ _) rfl) ?_
        refine to_nil (by kernel_rfl) (.then_normal ?_)
        refine .sub (F' := [(1, _), (6, _), (7, _), (9, _), (10, _), (11, _)]) (.cons rfl (.cons rfl (.cons rfl (.cons rfl (.cons rfl (.cons rfl .nil)))))) ?_
        refine x_seq (x_seq (x_region ?_))
        refine tl_y rfl (y_assign rfl) ?_
        refine tl_nil (.then_normal ?_)
        refine x_block ?_
        refine x_loop (I := fun m' F D M3 L3 => ∃ j : Nat, m' = pw2 H - j ∧ j ≤ pw2 H ∧ Le M2 M3 ∧ D = [] ∧ DropTo L3 ((b2, .cells (List.toArray t.cells) 51 (0, 0)) :: L) ∧ F = [(1, .slice NA nl nc), (6, .bool false), (7, .pointer (some ⟨b2, 0, none⟩)), (9, .int .i64 (pw2 H : Nat)), (10, .slice (sl WA 0 wc 1) (pw2 H) wc), (11, .slice A2 m2 c2), (12, .int .i64 j)]) (pw2 H) (F0 := [(1, _), (6, _), (7, _), (9, _), (10, _), (11, _), (12, _)]) ?_ (.cons rfl (.cons rfl (.cons rfl (.cons rfl (.cons rfl (.cons rfl (.cons rfl .nil))))))) ?_  -- slots [1, 6, 7, 9, 10, 11, 12], written [6, 12]
        · exact ⟨0, rfl, by omega, Le.refl _, rfl, inferInstance, rfl⟩
        rintro m _ _ M3 L3 ⟨j, rfl, hj, he, rfl, hdr, rfl⟩
        refine .dropTo _ hdr ?_
        have hm3 := hm.trans he
        refine x_seq (x_seq (x_region ?_))
        refine tl_y rfl (y_move (v := .int _ _) rfl) ?_
        refine tl_y rfl (y_move (v := .int _ _) rfl) ?_
        refine tl_y rfl (y_lss rfl rfl) ?_
        refine tl_nil (.then_normal ?_)
        refine x_cond rfl (fun hc4 => ?_) (fun hc4 => ?_)
        ·
          have hjl : j < pw2 H := by omega
          obtain ⟨x, hx⟩ : ∃ x : UInt32, x.toNat = j := ⟨UInt32.ofNat j, by rw [UInt32.toNat_ofNat', Nat.mod_eq_of_lt (by omega)]⟩
          subst hx
          refine x_skip (.then_normal ?_)
          refine x_seq ?_
          refine x_block ?_
          refine x_seq ?_
          have hd : Le M3 M3 := Le.refl _
          refine x_draw 8 hmix rfl ?_
          refine to_y 0 rfl (by kernel_rfl) rfl (y_loadAgg rfl rfl (.own inferInstance inferInstance)) ?_
          refine to_p 1 rfl (by kernel_rfl) rfl (y_move (v := .slice _ _ _) rfl) ?_
          refine to_p 2 rfl (by kernel_rfl) rfl (y_sliceH rfl rfl (by omega) (by omega)) ?_
          refine to_p 3 rfl (by kernel_rfl) rfl (y_move (v := .slice _ _ _) rfl) ?_
          refine to_p 4 rfl (by kernel_rfl) rfl (y_move (v := .int _ _) rfl) ?_
          refine to_p 5 rfl (by kernel_rfl) rfl (y_convN32 rfl (by omega)) ?_
          refine to_e 6 rfl (by kernel_rfl) rfl (e_call' rfl (Way_spec (hg.mono hm3) t (Bytes.take (hname.mono hm3) 16 (by omega)) (Row.take1 (h.mono hm3) (pw2 H) (by omega)) (BRows.take (hw.mono hm3) (pw2 H)) hks' x) ?_)
          rintro _ M6 _ hM6 ⟨rfl, A6, n6, c6, vs6, rfl, hr6, hb6⟩
          rw [if_pos ⟨hokM, hjl⟩, hH, Int.toNat_natCast] at hb6
          replace hd := hd.trans hM6
          have hm6 := hm3.trans hM6
          have hn6 : n6 = H := by have h1 := hr6.len; have h2 := hb6.len; rw [wayB_len] at h2; omega
          have hrow := Row.take1 (h.mono hm6) (pw2 H) (by omega)
          have hB := BRows.take (hw.mono hm6) (pw2 H)
          obtain ⟨g, o, hgo, hcell⟩ := hrow.addr (by omega)
          obtain ⟨A5, n5, c5, hv5, hb5⟩ := hB.get x.toNat (by omega)
          have hn5 := hb5.size
          have hn5' := hks' _ (getD_mem (keys.take (pw2 H)) x.toNat [] (by omega))
          refine ⟨⟨(by first | exact Le.refl _ | assumption), Keeps.mem⟩, ?_⟩
          refine to_p 7 rfl (by kernel_rfl) rfl (y_assign (v := .slice _ _ _) rfl) ?_
          refine to_nil (by kernel_rfl) (.then_normal ?_)
          refine .sub (F' := [(1, _), (6, _), (7, _), (9, _), (10, _), (11, _), (12, _), (13, _)]) (.cons rfl (.cons rfl (.cons rfl (.cons rfl (.cons rfl (.cons rfl (.cons rfl (.cons rfl .nil)))))))) ?_
          refine x_seq ?_
          have hd2 : Le M6 M6 := Le.refl _
          rw [hgo]
          refine x_draw 16 hmix rfl ?_
          refine to_y 0 rfl (by kernel_rfl) rfl (y_loadAgg rfl rfl (.own inferInstance inferInstance)) ?_
          refine to_p 1 rfl (by kernel_rfl) rfl (y_move (v := .slice _ _ _) rfl) ?_
          refine to_p 2 rfl (by kernel_rfl) rfl (y_sliceH rfl rfl (by omega) (by omega)) ?_
          refine to_p 3 rfl (by kernel_rfl) rfl (y_move (v := .int _ _) rfl) ?_
          refine to_p 4 rfl (by kernel_rfl) rfl (y_convN32 rfl (by omega)) ?_
          refine to_p 5 rfl (by kernel_rfl) rfl (y_move (v := .slice _ _ _) rfl) ?_
          refine to_p 6 rfl (by kernel_rfl) rfl (y_move (v := .int _ _) rfl) ?_
          refine to_p 7 rfl (by kernel_rfl) rfl (y_indexAddr rfl rfl (by omega)) ?_
          refine to_y 8 rfl (by kernel_rfl) rfl (y_load rfl rfl (.at_ (hcell _ x.toNat _ hv5) (by omega))) ?_
          refine to_p 9 rfl (by kernel_rfl) rfl (y_move (v := .slice _ _ _) rfl) ?_
          refine to_e 10 rfl (by kernel_rfl) rfl (e_call' rfl (Climb_spec (hg.mono hm6) t (Bytes.take (hname.mono hm6) 16 (by omega)) x hb5 (by omega) hr6 hb6) ?_)
          rintro _ M7 _ hM7 ⟨rfl, A7, n7, c7, rfl, hA7⟩
          rw [climb_root hok hn16 hH hk' hjl] at hA7
          rw [climbE, if_pos (way_ok hok hn16 hH hk' hjl)]
          replace hd2 := hd2.trans hM7
          refine ⟨⟨(by first | exact Le.refl _ | assumption), Keeps.mem⟩, ?_⟩
          refine to_p 11 rfl (by kernel_rfl) rfl (y_move (v := .tuple _) rfl) ?_
          refine to_p 12 rfl (by kernel_rfl) rfl (y_extract rfl) ?_
          refine to_p 13 rfl (by kernel_rfl) rfl (y_extract rfl) ?_
          refine to_p 14 rfl (by kernel_rfl) rfl (y_assign (v := .slice _ _ _) rfl) ?_
          refine to_p 15 rfl (by kernel_rfl) rfl (y_assign (v := .int _ _) rfl) ?_
          refine to_nil (by kernel_rfl) (.then_normal ?_)
          refine .sub (F' := [(1, _), (6, _), (7, _), (9, _), (10, _), (11, _), (12, _), (13, _), (14, _), (15, _)]) (.cons rfl (.cons rfl (.cons rfl (.cons rfl (.cons rfl (.cons rfl (.cons rfl (.cons rfl (.cons rfl (.cons rfl .nil)))))))))) ?_
          refine x_seq (x_region ?_)
          refine tl_y rfl (y_move (v := .int _ _) rfl) ?_
          refine tl_y rfl (y_neq rfl rfl) ?_
          refine tl_y rfl (y_move (v := .bool _) rfl) ?_
          refine tl_set (s := 84) (u := .bool false) rfl (by simp) ?_
          refine tl_y rfl (y_move (v := .slice _ _ _) rfl) ?_
          refine tl_y rfl (y_len rfl) ?_
          refine tl_y rfl (y_fieldAddr rfl) ?_
          refine tl_y rfl (y_load rfl rfl (.own inferInstance inferInstance)) ?_
          refine tl_y rfl (y_neq rfl rfl) ?_
          refine tl_y rfl (y_pickF rfl rfl) ?_
          refine tl_y rfl (y_move (v := .bool _) rfl) ?_
          refine tl_set (s := 91) (u := .bool false) rfl (by rw [hH, hn6]; simp) ?_
          refine tl_y rfl (y_move (v := .slice _ _ _) rfl) ?_
          refine tl_y rfl (y_move (v := .slice _ _ _) rfl) ?_
          refine tl_e rfl (e_call' rfl (same_spec hA7 (hA2.mono (he.trans (hM6.trans hM7)))) ?_)
          rintro _ _ _ _ ⟨rfl, rfl, rfl⟩
          refine tl_y rfl (y_not rfl) ?_
          refine tl_y rfl (y_pickF rfl rfl) ?_
          refine tl_nil (.then_normal ?_)
          refine .sub (F' := [(1, _), (6, _), (7, _), (9, _), (10, _), (11, _), (12, _), (96, _)]) (.cons rfl (.cons rfl (.cons rfl (.cons rfl (.cons rfl (.cons rfl (.cons rfl (.cons rfl .nil)))))))) ?_
          refine x_false rfl (by simp) ?_
          refine x_skip (.block_normal (.then_normal ?_))
          refine x_region ?_
          refine tl_y rfl (y_move (v := .int _ _) rfl) ?_
          refine tl_y rfl (y_addI rfl rfl (by omega)) ?_
          refine tl_y rfl (y_assign (v := .int _ _) rfl) ?_
          refine tl_nil (.loop_next (m' := pw2 H - (x.toNat + 1)) (by omega) (F' := [(1, _), (6, _), (7, _), (9, _), (10, _), (11, _), (12, _)]) (.cons rfl (.cons rfl (.cons rfl (.cons rfl (.cons rfl (.cons rfl (.cons rfl .nil))))))) ?_)
          exact ⟨x.toNat + 1, rfl, by omega, he.trans (hM6.trans hM7), rfl, inferInstance, rfl⟩
        ·
          refine x_exit (.then_exit (.loop_exit (.block_exit (.then_normal ?_))))
          refine .sub (F' := [(7, _), (11, _)]) (.cons rfl (.cons rfl .nil)) ?_
          refine x_seq (x_region ?_)
          refine tl_y rfl (y_move (v := .slice _ _ _) rfl) ?_
          refine tl_y rfl (y_len rfl) ?_
          refine tl_y rfl (y_fieldAddr rfl) ?_
          refine tl_y rfl (y_load rfl rfl (.own inferInstance inferInstance)) ?_
          refine tl_y rfl (y_eql rfl rfl) ?_
          refine tl_y rfl (y_assign (v := .bool _) rfl) ?_
          refine tl_nil (.then_normal ?_)
          refine .sub (F' := [(6, _)]) (.cons rfl .nil) ?_
          refine x_ret (ret1 rfl rfl hm3 (by rw [decide_eq_true]; omega))
end
end Go.Proofs.YtgpjbjbdfkiklaaDoor
set_option linter.unusedVariables false
set_option linter.unusedSimpArgs false
set_option linter.constructorNameAsVariable false
namespace Go.Proofs.YtgpjbjbdfkiklaaDoor
open Go Go.Eng
section
variable {G : World} {M : Mem} {L : Own}
theorem MerkleHalves_spec (hg : MrG M) (code : UInt8) {NA : Option Addr} {nl nc : Nat} {name : List UInt8} (hname : Bytes M NA nl nc name) {WA : Option Addr} {wl wc : Nat} {wvs : List Value} {keys : List (List UInt8)} (h : Row M 1 WA wl wc wvs) (hw : BRows M wvs keys) (hs : ∀ b ∈ keys, b.length ≤ 140737488355328) (q : UInt32) {KA : Option Addr} {kl kc : Nat} :
    Con Tryd.prog 11 #[.int .u8 (code.toNat : Int), .slice NA nl nc, .agg #[.slice WA wl wc, .int .u32 (q.toNat : Int), .slice KA kl kc]] G M L (fun v M' L' => v = .bool true) noPanic := by
  have hwx := h.max
  have hle := h.le
  have hvl := hw.len
  have hwn : wvs.length = wl := by have := h.len; omega
  have hnle := hname.le
  have hnl := hname.size
  have hcl := code.toNat_lt
  obtain ⟨t, H, et, ee, hok, hH, hH1, hH4⟩ := own_fact (code.toNat % 16) (Nat.mod_lt _ (by omega))
  obtain ⟨hokc, H', hH', _, _, hlv⟩ := okS_facts hok
  obtain rfl : H = H' := by omega
  obtain ⟨k, rfl⟩ : ∃ k, H = k + 1 := ⟨H - 1, by omega⟩
  obtain ⟨P, hP⟩ : ∃ P, pw2 k = P := ⟨_, rfl⟩
  have hp2 : pw2 (k + 1) = 2 * P := by rw [pw2, Nat.pow_succ, ← hP, pw2]; omega
  have hp4 := pw2_le (j := k + 1) (k := 4) (by omega)
  rw [show pw2 4 = 16 from rfl] at hp4
  have hp1 : 1 ≤ P := by rw [← hP]; exact pw2_pos k
  have d0 : 0 / P = 0 := Nat.zero_div _
  have d1 : (P - 1) / P = 0 := Nat.div_eq_of_lt (by omega)
  have d2 : P / P = 1 := Nat.div_self (by omega)
  have d3 : (2 * P - 1) / P = 1 := by
    rw [show 2 * P - 1 = P + (P - 1) by omega, Nat.add_div_left _ (by omega), d1]
  refine enter (args := [_, _, _]) (fn := Tryd.f11) ⟨Tryd.func11, rfl, by kernel_rfl, by kernel_rfl⟩ 155 rfl ?_
  refine x_seq (x_region ?_)
  refine tl_e rfl (e_box rfl (fun b1 => ?_))
  refine tl_y rfl (y_assign rfl) ?_
  refine tl_nil (.then_normal ?_)
  refine x_seq (x_seq (x_region ?_))
  refine tl_e rfl (e_call' rfl (awake11_spec hg) ?_)
  rintro _ M1 _ hM1 ⟨rfl, rfl⟩
  have hm := hM1
  refine tl_y rfl (y_not rfl) ?_
  refine tl_nil (.then_normal ?_)
  refine x_false rfl (rfl) ?_
  refine x_skip (.then_normal ?_)
  refine .sub (F' := [(0, _), (1, _), (5, _)]) (.cons rfl (.cons rfl (.cons rfl .nil))) ?_
  refine x_seq (x_region ?_)
  refine tl_y rfl (y_move (v := .int _ _) rfl) ?_
  refine tl_y rfl (y_convN32 rfl (by omega)) ?_
  refine tl_y rfl (y_remI rfl rfl (by omega)) ?_
  refine tl_y rfl (y_addN32 rfl rfl (by omega)) ?_
  rw [show (4026531841 : Int) + (code.toNat : Int) % 16 = (((UInt32.ofNat (4026531841 + code.toNat % 16)).toNat : Nat) : Int) by rw [UInt32.toNat_ofNat', Nat.mod_eq_of_lt (by omega)]; omega]
  refine tl_e rfl (e_call' rfl (RTree_spec _) ?_)
  rintro _ _ _ _ ⟨rfl, rfl, rfl⟩
  rw [et, ee]
  refine tl_y rfl (y_move (v := .tuple _) rfl) ?_
  refine tl_y rfl (y_extract rfl) ?_
  refine tl_y rfl (y_extract rfl) ?_
  refine tl_e rfl (e_alloc (fun b2 => ?_))
  refine tl_e rfl (e_store rfl rfl (by rfl) (by rfl) inferInstance inferInstance inferInstance ?_)
  refine tl_y rfl (y_assign (v := .int _ _) rfl) ?_
  refine tl_nil (.then_normal ?_)
  refine .sub (F' := [(1, _), (5, _), (7, _)]) (.cons rfl (.cons rfl (.cons rfl .nil))) ?_
  refine x_seq (x_region ?_)
  refine tl_y rfl (y_loadAgg rfl rfl (.own inferInstance inferInstance)) ?_
  refine tl_e rfl (e_call' rfl (RLeaves_spec t) ?_)
  rintro _ _ _ _ ⟨rfl, rfl, rfl⟩
  rw [hlv, hp2]
  refine tl_y rfl (y_convI rfl (by omega)) ?_
  refine tl_y rfl (y_assign (v := .int _ _) rfl) ?_
  refine tl_nil (.then_normal ?_)
  refine x_seq (x_seq (x_region ?_))
  refine tl_y rfl (y_fieldAddr rfl) ?_
  refine tl_y rfl (y_load rfl rfl (.own inferInstance inferInstance)) ?_
  refine tl_e rfl (e_call' rfl (small_spec (h.mono hm) (hw.mono hm) hs) ?_)
  rintro _ _ _ _ ⟨rfl, rfl, rfl⟩
  refine tl_y rfl (y_notd rfl) ?_
  refine tl_y rfl (y_move (v := .bool _) rfl) ?_
  refine tl_cases (s := 34) rfl (fun hk1 => ?_) (fun hk1 => ?_)
  ·
    refine tl_skip rfl ?_
    refine tl_skip rfl ?_
    refine tl_skip rfl ?_
    refine tl_skip rfl ?_
    refine tl_skip rfl ?_
    refine tl_y rfl (y_pickT rfl rfl) ?_
    refine tl_y rfl (y_move (v := .bool _) rfl) ?_
    refine tl_skip rfl ?_
    refine tl_skip rfl ?_
    refine tl_skip rfl ?_
    refine tl_y rfl (y_pickT rfl rfl) ?_
    refine tl_nil (.then_normal ?_)
    refine .sub (F' := [(1, _), (5, _), (7, _), (9, _), (45, _)]) (.cons rfl (.cons rfl (.cons rfl (.cons rfl (.cons rfl .nil))))) ?_
    refine x_true rfl rfl ?_
    refine x_seq (x_region ?_)
    refine tl_y rfl (y_assign rfl) ?_
    refine tl_nil (.then_normal ?_)
    refine .sub (F' := [(6, _)]) (.cons rfl .nil) ?_
    refine x_ret (.then_ret (ret1 rfl rfl hm rfl))
  ·
    refine tl_y rfl (y_fieldAddr rfl) ?_
    refine tl_y rfl (y_load rfl rfl (.own inferInstance inferInstance)) ?_
    refine tl_y rfl (y_len rfl) ?_
    refine tl_y rfl (y_move (v := .int _ _) rfl) ?_
    refine tl_y rfl (y_lss rfl rfl) ?_
    refine tl_y rfl (y_pickF rfl rfl) ?_
    refine tl_y rfl (y_move (v := .bool _) rfl) ?_
    refine tl_cases (s := 41) rfl (fun hk2 => ?_) (fun hk2 => ?_)
    ·
      refine tl_skip rfl ?_
      refine tl_skip rfl ?_
      refine tl_skip rfl ?_
      refine tl_y rfl (y_pickT rfl rfl) ?_
      refine tl_nil (.then_normal ?_)
      refine .sub (F' := [(1, _), (5, _), (7, _), (9, _), (45, _)]) (.cons rfl (.cons rfl (.cons rfl (.cons rfl (.cons rfl .nil))))) ?_
      refine x_true rfl rfl ?_
      refine x_seq (x_region ?_)
      refine tl_y rfl (y_assign rfl) ?_
      refine tl_nil (.then_normal ?_)
      refine .sub (F' := [(6, _)]) (.cons rfl .nil) ?_
      refine x_ret (.then_ret (ret1 rfl rfl hm rfl))
    ·
      refine tl_y rfl (y_move (v := .slice _ _ _) rfl) ?_
      refine tl_y rfl (y_len rfl) ?_
      refine tl_y rfl (y_lss rfl rfl) ?_
      refine tl_y rfl (y_pickF rfl rfl) ?_
      refine tl_nil (.then_normal ?_)
      refine .sub (F' := [(1, _), (5, _), (7, _), (9, _), (45, _)]) (.cons rfl (.cons rfl (.cons rfl (.cons rfl (.cons rfl .nil))))) ?_
      refine x_cond rfl (fun hc2 => ?_) (fun hc2 => ?_)
      ·
        refine x_seq (x_region ?_)
        refine tl_y rfl (y_assign rfl) ?_
        refine tl_nil (.then_normal ?_)
        refine .sub (F' := [(6, _)]) (.cons rfl .nil) ?_
        refine x_ret (.then_ret (ret1 rfl rfl hm rfl))
      ·
        refine x_skip (.then_normal ?_)
        refine x_seq ?_
        have hks := (Classical.not_not.1 hk1).each
        have hk' : (keys.take (2 * P)).length = pw2 (k + 1) := by rw [List.length_take]; omega
        have hks' : ∀ b ∈ keys.take (2 * P), b.length ≤ 1000000000000 := fun b hb => hks b (List.mem_of_mem_take hb)
        have hokM : okM t 16 (2 * P) := ⟨hok, by omega, by rw [hlv, hp2]⟩
        have hd : Le M1 M1 := Le.refl _
        have hway : ∀ q : Nat, (wayB t (name.take 16) (keys.take (2 * P)) q (k + 1)).getD k [] = (lvl t (name.take 16) (keys.take (2 * P)) k).getD (sib (q / P)) [] := fun q => by rw [wayB_get _ _ _ _ (by omega), hP]
        obtain ⟨x1, hx1⟩ : ∃ x : UInt32, x.toNat = P - 1 := ⟨UInt32.ofNat (P - 1), by rw [UInt32.toNat_ofNat', Nat.mod_eq_of_lt (by omega)]⟩
        obtain ⟨x2, hx2⟩ : ∃ x : UInt32, x.toNat = P := ⟨UInt32.ofNat P, by rw [UInt32.toNat_ofNat', Nat.mod_eq_of_lt (by omega)]⟩
        obtain ⟨x3, hx3⟩ : ∃ x : UInt32, x.toNat = 2 * P - 1 := ⟨UInt32.ofNat (2 * P - 1), by rw [UInt32.toNat_ofNat', Nat.mod_eq_of_lt (by omega)]⟩
        refine x_draw 9 hmix rfl ?_
        refine to_y 0 rfl (by kernel_rfl) rfl (y_loadAgg rfl rfl (.own inferInstance inferInstance)) ?_
        refine to_p 1 rfl (by kernel_rfl) rfl (y_move (v := .slice _ _ _) rfl) ?_
        refine to_p 2 rfl (by kernel_rfl) rfl (y_sliceH rfl rfl (by omega) (by omega)) ?_
        refine to_p 3 rfl (by kernel_rfl) rfl (y_fieldAddr rfl) ?_
        refine to_y 4 rfl (by kernel_rfl) rfl (y_load rfl rfl (.own inferInstance inferInstance)) ?_
        refine to_p 5 rfl (by kernel_rfl) rfl (y_move (v := .int _ _) rfl) ?_
        refine to_p 6 rfl (by kernel_rfl) rfl (y_sliceH rfl rfl (by omega) (by omega)) ?_
        rw [Int.toNat_natCast]
        refine to_e 7 rfl (by kernel_rfl) rfl (e_call' rfl (Way_spec (hg.mono hm) t (Bytes.take (hname.mono hm) 16 (by omega)) (Row.take1 (h.mono hm) (2 * P) (by omega)) (BRows.take (hw.mono hm) (2 * P)) hks' 0) ?_)
        rintro _ M2 _ hM2 ⟨rfl, A2, n2, c2, vs2, rfl, hr2, hb2⟩
        rw [if_pos ⟨hokM, by show 0 < 2 * P; omega⟩, hH, Int.toNat_natCast] at hb2
        replace hm := hm.trans hM2
        replace hd := hd.trans hM2
        obtain rfl : n2 = k + 1 := by have h1 := hr2.len; have h2 := hb2.len; rw [wayB_len] at h2; omega
        refine ⟨⟨(by first | exact Le.refl _ | assumption), Keeps.mem⟩, ?_⟩
        refine to_p 8 rfl (by kernel_rfl) rfl (y_assign (v := .slice _ _ _) rfl) ?_
        refine to_nil (by kernel_rfl) (.then_normal ?_)
        refine .sub (F' := [(1, _), (5, _), (7, _), (9, _), (10, _)]) (.cons rfl (.cons rfl (.cons rfl (.cons rfl (.cons rfl .nil))))) ?_
        refine x_seq ?_
        have hd : Le M2 M2 := Le.refl _
        refine x_draw 13 hmix rfl ?_
        refine to_y 0 rfl (by kernel_rfl) rfl (y_loadAgg rfl rfl (.own inferInstance inferInstance)) ?_
        refine to_p 1 rfl (by kernel_rfl) rfl (y_move (v := .slice _ _ _) rfl) ?_
        refine to_p 2 rfl (by kernel_rfl) rfl (y_sliceH rfl rfl (by omega) (by omega)) ?_
        refine to_p 3 rfl (by kernel_rfl) rfl (y_fieldAddr rfl) ?_
        refine to_y 4 rfl (by kernel_rfl) rfl (y_load rfl rfl (.own inferInstance inferInstance)) ?_
        refine to_p 5 rfl (by kernel_rfl) rfl (y_move (v := .int _ _) rfl) ?_
        refine to_p 6 rfl (by kernel_rfl) rfl (y_sliceH rfl rfl (by omega) (by omega)) ?_
        rw [Int.toNat_natCast]
        refine to_p 7 rfl (by kernel_rfl) rfl (y_move (v := .int _ _) rfl) ?_
        refine to_p 8 rfl (by kernel_rfl) rfl (y_quoI rfl rfl (by omega)) ?_
        refine to_p 9 rfl (by kernel_rfl) rfl (y_subI rfl rfl (by omega)) ?_
        rw [show ((2 * P : Nat) : Int) / 2 - 1 = ((x1.toNat : Nat) : Int) by rw [hx1]; omega]
        refine to_p 10 rfl (by kernel_rfl) rfl (y_convN32 rfl (by omega)) ?_
        refine to_e 11 rfl (by kernel_rfl) rfl (e_call' rfl (Way_spec (hg.mono hm) t (Bytes.take (hname.mono hm) 16 (by omega)) (Row.take1 (h.mono hm) (2 * P) (by omega)) (BRows.take (hw.mono hm) (2 * P)) hks' x1) ?_)
        rintro _ M3 _ hM3 ⟨rfl, A3, n3, c3, vs3, rfl, hr3, hb3⟩
        rw [if_pos ⟨hokM, by omega⟩, hH, Int.toNat_natCast] at hb3
        replace hm := hm.trans hM3
        replace hd := hd.trans hM3
        obtain rfl : n3 = k + 1 := by have h1 := hr3.len; have h2 := hb3.len; rw [wayB_len] at h2; omega
        refine ⟨⟨(by first | exact Le.refl _ | assumption), Keeps.mem⟩, ?_⟩
        refine to_p 12 rfl (by kernel_rfl) rfl (y_assign (v := .slice _ _ _) rfl) ?_
        refine to_nil (by kernel_rfl) (.then_normal ?_)
        refine .sub (F' := [(1, _), (5, _), (7, _), (9, _), (10, _), (11, _)]) (.cons rfl (.cons rfl (.cons rfl (.cons rfl (.cons rfl (.cons rfl .nil)))))) ?_
        refine x_seq ?_
        have hd : Le M3 M3 := Le.refl _
        refine x_draw 12 hmix rfl ?_
        refine to_y 0 rfl (by kernel_rfl) rfl (y_loadAgg rfl rfl (.own inferInstance inferInstance)) ?_
        refine to_p 1 rfl (by kernel_rfl) rfl (y_move (v := .slice _ _ _) rfl) ?_
        refine to_p 2 rfl (by kernel_rfl) rfl (y_sliceH rfl rfl (by omega) (by omega)) ?_
        refine to_p 3 rfl (by kernel_rfl) rfl (y_fieldAddr rfl) ?_
        refine to_y 4 rfl (by kernel_rfl) rfl (y_load rfl rfl (.own inferInstance inferInstance)) ?_
        refine to_p 5 rfl (by kernel_rfl) rfl (y_move (v := .int _ _) rfl) ?_
        refine to_p 6 rfl (by kernel_rfl) rfl (y_sliceH rfl rfl (by omega) (by omega)) ?_
        rw [Int.toNat_natCast]
        refine to_p 7 rfl (by kernel_rfl) rfl (y_move (v := .int _ _) rfl) ?_
        refine to_p 8 rfl (by kernel_rfl) rfl (y_quoI rfl rfl (by omega)) ?_
        rw [show ((2 * P : Nat) : Int) / 2 = ((x2.toNat : Nat) : Int) by rw [hx2]; omega]
        refine to_p 9 rfl (by kernel_rfl) rfl (y_convN32 rfl (by omega)) ?_
        refine to_e 10 rfl (by kernel_rfl) rfl (e_call' rfl (Way_spec (hg.mono hm) t (Bytes.take (hname.mono hm) 16 (by omega)) (Row.take1 (h.mono hm) (2 * P) (by omega)) (BRows.take (hw.mono hm) (2 * P)) hks' x2) ?_)
        rintro _ M4 _ hM4 ⟨rfl, A4, n4, c4, vs4, rfl, hr4, hb4⟩
        rw [if_pos ⟨hokM, by omega⟩, hH, Int.toNat_natCast] at hb4
        replace hm := hm.trans hM4
        replace hd := hd.trans hM4
        obtain rfl : n4 = k + 1 := by have h1 := hr4.len; have h2 := hb4.len; rw [wayB_len] at h2; omega
        refine ⟨⟨(by first | exact Le.refl _ | assumption), Keeps.mem⟩, ?_⟩
        refine to_p 11 rfl (by kernel_rfl) rfl (y_assign (v := .slice _ _ _) rfl) ?_
        refine to_nil (by kernel_rfl) (.then_normal ?_)
        refine .sub (F' := [(1, _), (5, _), (7, _), (9, _), (10, _), (11, _), (12, _)]) (.cons rfl (.cons rfl (.cons rfl (.cons rfl (.cons rfl (.cons rfl (.cons rfl .nil))))))) ?_
        refine x_seq ?_
        have hd : Le M4 M4 := Le.refl _
        refine x_draw 12 hmix rfl ?_
        refine to_y 0 rfl (by kernel_rfl) rfl (y_loadAgg rfl rfl (.own inferInstance inferInstance)) ?_
        refine to_p 1 rfl (by kernel_rfl) rfl (y_move (v := .slice _ _ _) rfl) ?_
        refine to_p 2 rfl (by kernel_rfl) rfl (y_sliceH rfl rfl (by omega) (by omega)) ?_
        refine to_p 3 rfl (by kernel_rfl) rfl (y_fieldAddr rfl) ?_
        refine to_y 4 rfl (by kernel_rfl) rfl (y_load rfl rfl (.own inferInstance inferInstance)) ?_
        refine to_p 5 rfl (by kernel_rfl) rfl (y_move (v := .int _ _) rfl) ?_
        refine to_p 6 rfl (by kernel_rfl) rfl (y_sliceH rfl rfl (by omega) (by omega)) ?_
        rw [Int.toNat_natCast]
        refine to_p 7 rfl (by kernel_rfl) rfl (y_move (v := .int _ _) rfl) ?_
        refine to_p 8 rfl (by kernel_rfl) rfl (y_subI rfl rfl (by omega)) ?_
        rw [show ((2 * P : Nat) : Int) - 1 = ((x3.toNat : Nat) : Int) by rw [hx3]; omega]
        refine to_p 9 rfl (by kernel_rfl) rfl (y_convN32 rfl (by omega)) ?_
        refine to_e 10 rfl (by kernel_rfl) rfl (e_call' rfl (Way_spec (hg.mono hm) t (Bytes.take (hname.mono hm) 16 (by omega)) (Row.take1 (h.mono hm) (2 * P) (by omega)) (BRows.take (hw.mono hm) (2 * P)) hks' x3) ?_)
        rintro _ M5 _ hM5 ⟨rfl, A5, n5, c5, vs5, rfl, hr5, hb5⟩
        rw [if_pos ⟨hokM, by omega⟩, hH, Int.toNat_natCast] at hb5
        replace hm := hm.trans hM5
        replace hd := hd.trans hM5
        obtain rfl : n5 = k + 1 := by have h1 := hr5.len; have h2 := hb5.len; rw [wayB_len] at h2; omega
        have hr2' := hr2.mono (hM3.trans (hM4.trans hM5))
        have hb2' := hb2.mono (hM3.trans (hM4.trans hM5))
        have hr3' := hr3.mono (hM4.trans hM5)
        have hb3' := hb3.mono (hM4.trans hM5)
        have hr4' := hr4.mono hM5
        have hb4' := hb4.mono hM5
        refine ⟨⟨(by first | exact Le.refl _ | assumption), Keeps.mem⟩, ?_⟩
        refine to_p 11 rfl (by kernel_rfl) rfl (y_assign (v := .slice _ _ _) rfl) ?_
        refine to_nil (by kernel_rfl) (.then_normal ?_)
        refine .sub (F' := [(1, _), (5, _), (7, _), (10, _), (11, _), (12, _), (13, _)]) (.cons rfl (.cons rfl (.cons rfl (.cons rfl (.cons rfl (.cons rfl (.cons rfl .nil))))))) ?_
        refine x_seq (x_seq (x_region ?_))
        refine tl_y rfl (y_move (v := .slice _ _ _) rfl) ?_
        refine tl_y rfl (y_len rfl) ?_
        refine tl_y rfl (y_fieldAddr rfl) ?_
        refine tl_y rfl (y_load rfl rfl (.own inferInstance inferInstance)) ?_
        refine tl_y rfl (y_neq rfl rfl) ?_
        refine tl_y rfl (y_move (v := .bool _) rfl) ?_
        refine tl_set (s := 93) (u := .bool false) rfl (by rw [hH]; simp) ?_
        refine tl_y rfl (y_move (v := .slice _ _ _) rfl) ?_
        refine tl_y rfl (y_len rfl) ?_
        refine tl_y rfl (y_fieldAddr rfl) ?_
        refine tl_y rfl (y_load rfl rfl (.own inferInstance inferInstance)) ?_
        refine tl_y rfl (y_neq rfl rfl) ?_
        refine tl_y rfl (y_pickF rfl rfl) ?_
        refine tl_y rfl (y_move (v := .bool _) rfl) ?_
        refine tl_set (s := 100) (u := .bool false) rfl (by rw [hH]; simp) ?_
        refine tl_y rfl (y_move (v := .slice _ _ _) rfl) ?_
        refine tl_y rfl (y_len rfl) ?_
        refine tl_y rfl (y_fieldAddr rfl) ?_
        refine tl_y rfl (y_load rfl rfl (.own inferInstance inferInstance)) ?_
        refine tl_y rfl (y_neq rfl rfl) ?_
        refine tl_y rfl (y_pickF rfl rfl) ?_
        refine tl_y rfl (y_move (v := .bool _) rfl) ?_
        refine tl_set (s := 107) (u := .bool false) rfl (by rw [hH]; simp) ?_
        refine tl_y rfl (y_move (v := .slice _ _ _) rfl) ?_
        refine tl_y rfl (y_len rfl) ?_
        refine tl_y rfl (y_fieldAddr rfl) ?_
        refine tl_y rfl (y_load rfl rfl (.own inferInstance inferInstance)) ?_
        refine tl_y rfl (y_neq rfl rfl) ?_
        refine tl_y rfl (y_pickF rfl rfl) ?_
        refine tl_nil (.then_normal ?_)
        refine .sub (F' := [(1, _), (5, _), (7, _), (10, _), (11, _), (12, _), (13, _), (113, _)]) (.cons rfl (.cons rfl (.cons rfl (.cons rfl (.cons rfl (.cons rfl (.cons rfl (.cons rfl .nil)))))))) ?_
        refine x_false rfl (by rw [hH]; simp) ?_
        refine x_skip (.then_normal ?_)
        refine x_seq (x_region ?_)
        refine tl_y rfl (y_fieldAddr rfl) ?_
        refine tl_y rfl (y_load rfl rfl (.own inferInstance inferInstance)) ?_
        refine tl_y rfl (y_subI rfl rfl (by omega)) ?_
        rw [show t.h - 1 = ((k : Nat) : Int) by omega]
        refine tl_y rfl (y_assign (v := .int _ _) rfl) ?_
        refine tl_nil (.then_normal ?_)
        refine .sub (F' := [(1, _), (5, _), (7, _), (10, _), (11, _), (12, _), (13, _), (14, _)]) (.cons rfl (.cons rfl (.cons rfl (.cons rfl (.cons rfl (.cons rfl (.cons rfl (.cons rfl .nil)))))))) ?_
        refine x_seq ?_
        have hd : Le M5 M5 := Le.refl _
        obtain ⟨g, o, rfl, hcell⟩ := (h.mono hm).addr (by omega)
        obtain ⟨A6, n6, c6, hv6, hb6⟩ := (hw.mono hm).get 0 (by omega)
        have hn6 := hb6.size
        have hn6' := hks _ (getD_mem keys 0 [] (by omega))
        have hle2 := hr2.le
        refine x_draw 16 hmix rfl ?_
        refine to_y 0 rfl (by kernel_rfl) rfl (y_loadAgg rfl rfl (.own inferInstance inferInstance)) ?_
        refine to_p 1 rfl (by kernel_rfl) rfl (y_move (v := .slice _ _ _) rfl) ?_
        refine to_p 2 rfl (by kernel_rfl) rfl (y_sliceH rfl rfl (by omega) (by omega)) ?_
        refine to_p 3 rfl (by kernel_rfl) rfl (y_fieldAddr rfl) ?_
        refine to_y 4 rfl (by kernel_rfl) rfl (y_load rfl rfl (.own inferInstance inferInstance)) ?_
        refine to_p 5 rfl (by kernel_rfl) rfl (y_indexAddr rfl rfl (by omega)) ?_
        refine to_y 6 rfl (by kernel_rfl) rfl (y_load rfl rfl (.at_ (hcell _ 0 _ hv6) (by omega))) ?_
        refine to_p 7 rfl (by kernel_rfl) rfl (y_move (v := .slice _ _ _) rfl) ?_
        refine to_p 8 rfl (by kernel_rfl) rfl (y_move (v := .int _ _) rfl) ?_
        refine to_p 9 rfl (by kernel_rfl) rfl (y_sliceH rfl rfl (by omega) (by omega)) ?_
        rw [Int.toNat_natCast]
        refine to_e 10 rfl (by kernel_rfl) rfl (e_call' rfl (Climb_spec (hg.mono hm) t (Bytes.take (hname.mono hm) 16 (by omega)) 0 hb6 (by omega) (Row.take1 hr2' k (by omega)) (BRows.take hb2' k)) ?_)
        rintro _ M6 _ hM6 ⟨rfl, A7, n7, c7, rfl, hA7⟩
        rw [climbE, if_neg (fun h => by have h1 := h.2.2.1; rw [List.length_take, wayB_len] at h1; omega)]
        replace hm := hm.trans hM6
        replace hd := hd.trans hM6
        refine ⟨⟨(by first | exact Le.refl _ | assumption), Keeps.mem⟩, ?_⟩
        refine to_p 11 rfl (by kernel_rfl) rfl (y_move (v := .tuple _) rfl) ?_
        refine to_p 12 rfl (by kernel_rfl) rfl (y_extract rfl) ?_
        refine to_p 13 rfl (by kernel_rfl) rfl (y_extract rfl) ?_
        refine to_p 14 rfl (by kernel_rfl) rfl (y_assign (v := .slice _ _ _) rfl) ?_
        refine to_p 15 rfl (by kernel_rfl) rfl (y_assign (v := .int _ _) rfl) ?_
        refine to_nil (by kernel_rfl) (.then_normal ?_)
        refine .sub (F' := [(10, _), (11, _), (12, _), (13, _), (14, _), (16, _)]) (.cons rfl (.cons rfl (.cons rfl (.cons rfl (.cons rfl (.cons rfl .nil)))))) ?_
        refine x_seq ?_
        have hd : Le M6 M6 := Le.refl _
        obtain ⟨g2, o2, rfl, hc2⟩ := (hr2'.mono hM6).addr (by omega)
        obtain ⟨g3, o3, rfl, hc3⟩ := (hr3'.mono hM6).addr (by omega)
        obtain ⟨g4, o4, rfl, hc4⟩ := (hr4'.mono hM6).addr (by omega)
        obtain ⟨g5, o5, rfl, hc5⟩ := (hr5.mono hM6).addr (by omega)
        obtain ⟨B2, l2, e2, hv2, hw2⟩ := (hb2'.mono hM6).get k (by rw [wayB_len]; omega)
        obtain ⟨B3, l3, e3, hv3, hw3⟩ := (hb3'.mono hM6).get k (by rw [wayB_len]; omega)
        obtain ⟨B4, l4, e4, hv4, hw4⟩ := (hb4'.mono hM6).get k (by rw [wayB_len]; omega)
        obtain ⟨B5, l5, e5, hv5, hw5⟩ := (hb5.mono hM6).get k (by rw [wayB_len]; omega)
        rw [hway] at hw2 hw3 hw4 hw5
        rw [show (0 : UInt32).toNat = 0 from rfl, d0] at hw2
        rw [hx1, d1] at hw3
        rw [hx2, d2] at hw4
        rw [hx3, d3] at hw5
        refine x_draw 25 hmix rfl ?_
        refine to_p 0 rfl (by kernel_rfl) rfl (y_move (v := .slice _ _ _) rfl) ?_
        refine to_p 1 rfl (by kernel_rfl) rfl (y_move (v := .int _ _) rfl) ?_
        refine to_p 2 rfl (by kernel_rfl) rfl (y_indexAddr rfl rfl (by omega)) ?_
        refine to_y 3 rfl (by kernel_rfl) rfl (y_load rfl rfl (.at_ (hc2 _ k _ hv2) (by omega))) ?_
        refine to_p 4 rfl (by kernel_rfl) rfl (y_move (v := .slice _ _ _) rfl) ?_
        refine to_p 5 rfl (by kernel_rfl) rfl (y_move (v := .int _ _) rfl) ?_
        refine to_p 6 rfl (by kernel_rfl) rfl (y_indexAddr rfl rfl (by omega)) ?_
        refine to_y 7 rfl (by kernel_rfl) rfl (y_load rfl rfl (.at_ (hc3 _ k _ hv3) (by omega))) ?_
        refine to_e 8 rfl (by kernel_rfl) rfl (e_call' rfl (same_spec hw2 hw3) ?_)
        rintro _ _ _ _ ⟨rfl, rfl, rfl⟩
        refine ⟨⟨(by first | exact Le.refl _ | assumption), Keeps.mem⟩, ?_⟩
        refine to_p 9 rfl (by kernel_rfl) rfl (y_move (v := .bool _) rfl) ?_
        refine to_set (s := 140) (u := .bool true) rfl (by simp) ?_
        refine to_p 10 rfl (by kernel_rfl) rfl (y_move (v := .slice _ _ _) rfl) ?_
        refine to_p 11 rfl (by kernel_rfl) rfl (y_move (v := .int _ _) rfl) ?_
        refine to_p 12 rfl (by kernel_rfl) rfl (y_indexAddr rfl rfl (by omega)) ?_
        refine to_y 13 rfl (by kernel_rfl) rfl (y_load rfl rfl (.at_ (hc4 _ k _ hv4) (by omega))) ?_
        refine to_p 14 rfl (by kernel_rfl) rfl (y_move (v := .slice _ _ _) rfl) ?_
        refine to_p 15 rfl (by kernel_rfl) rfl (y_move (v := .int _ _) rfl) ?_
        refine to_p 16 rfl (by kernel_rfl) rfl (y_indexAddr rfl rfl (by omega)) ?_
        refine to_y 17 rfl (by kernel_rfl) rfl (y_load rfl rfl (.at_ (hc5 _ k _ hv5) (by omega))) ?_
        refine to_e 18 rfl (by kernel_rfl) rfl (e_call' rfl (same_spec hw4 hw5) ?_)
        rintro _ _ _ _ ⟨rfl, rfl, rfl⟩
        refine ⟨⟨(by first | exact Le.refl _ | assumption), Keeps.mem⟩, ?_⟩
        refine to_p 19 rfl (by kernel_rfl) rfl (y_pickT rfl rfl) ?_
        refine to_p 20 rfl (by kernel_rfl) rfl (y_move (v := .bool _) rfl) ?_
        refine to_set (s := 151) (u := .bool true) rfl (by simp) ?_
        refine to_p 21 rfl (by kernel_rfl) rfl (y_move (v := .int _ _) rfl) ?_
        refine to_p 22 rfl (by kernel_rfl) rfl (y_eql rfl rfl) ?_
        refine to_p 23 rfl (by kernel_rfl) rfl (y_pickT rfl rfl) ?_
        refine to_p 24 rfl (by kernel_rfl) rfl (y_assign (v := .bool _) rfl) ?_
        refine to_nil (by kernel_rfl) (.then_normal ?_)
        refine .sub (F' := [(6, _)]) (.cons rfl .nil) ?_
        refine x_ret (ret1 rfl rfl hm (by simp))
end
end Go.Proofs.YtgpjbjbdfkiklaaDoor
set_option linter.unusedVariables false
set_option linter.unusedSimpArgs false
namespace Go.Eng
open Go.ChangeShapes Go.WideShapes Go.ChangeAt Go.RowKit
/-! ### From a contract to a statement's call -/
def memOf (W : World) : Mem := fun b => W.heap[b]?
theorem st_start (W : World) : St W (memOf W) [] W := ⟨rfl, rfl, rfl, fun b o h => h, fun p hp => (by cases hp), by simp⟩
theorem below_of {W W' : World} {M' : Mem} {L' : Own} (hle : Le (memOf W) M') (h : St W M' L' W') : Below W.heap.size W W' := by
  have hb : ∀ k, k < W.heap.size → W'.heap[k]? = W.heap[k]? := fun k hk => by
    have h1 : W.heap[k]? = some W.heap[k] := Array.getElem?_eq_getElem hk
    rw [h1]
    exact h.ro k _ (hle k _ h1)
  refine ⟨h.os, h.tape, h.output, ?_, hb⟩
  rcases Nat.eq_zero_or_pos W.heap.size with h0 | h0
  · omega
  · have h2 := hb (W.heap.size - 1) (by omega)
    have hlt : W.heap.size - 1 < W.heap.size := by omega
    rw [Array.getElem?_eq_getElem hlt] at h2
    have h3 := (Array.getElem?_eq_some_iff.1 h2).1
    omega
theorem calls_of_con {P : Program} {f : FuncId} {args : Array Value} {W : World} (h : Con P f args W (memOf W) [] (fun v _ _ => v = .bool true) noPanic) : Calls P f args W fun e W' => e = .returned (.bool true) ∧ Below W.heap.size W W' :=
  (h.calls W (st_start W)).mono fun e W' he => by
    cases e with
    | returned v => obtain ⟨M', L', a, b, rfl⟩ := he; exact ⟨rfl, below_of a b⟩
    | panicked c => obtain ⟨M', L', a, b, c⟩ := he; exact c.elim
    | outgrown => exact he.elim
/-! ### What came in -/
section
variable {H : Type} {enc : TypeId × Value → H} {P : Program} {W : World} {t : TypeId} {cs : List Value}
def Rd (enc : TypeId × Value → H) (P : Program) (W : World) (t : TypeId) (cs : List Value) : Prop := ∃ fuel x, DataW.trod enc P W 0 (fun _ => true) true fuel t cs = some x
theorem rd_of {v : Value} {d : DataW H} {ps : List MemPlace} (h : DataW.Trod enc P W 0 (fun _ => true) true t v d ps) : Rd enc P W t v.cells.toList := let ⟨n, h⟩ := h; ⟨n, _, h⟩
theorem TI.cellsOf {d : TypeDesc} {z : Value} {s b : Nat} (h : TI P t d z s b) : P.cellsOf t = s := by
  obtain ⟨i, hi, _, hs, _⟩ := h.parts
  simp [Program.cellsOf, hi, hs]
theorem Rd.int {k : IntKind} {z : Value} {s b : Nat} [ti : TI P t (.int k) z s b] (h : Rd enc P W t cs) : ∃ n, cs = [.int k n] ∧ (Lit.int k n).wf = true := by
  obtain ⟨fuel, x, h⟩ := h
  cases fuel with
  | zero => cases h
  | succ fuel =>
    unfold DataW.trod at h
    simp only [ti.und] at h
    split at h <;> simp_all
theorem Rd.bool {z : Value} {s b : Nat} [ti : TI P t .bool z s b] (h : Rd enc P W t cs) : ∃ n, cs = [.bool n] := by
  obtain ⟨fuel, x, h⟩ := h
  cases fuel with
  | zero => cases h
  | succ fuel =>
    unfold DataW.trod at h
    simp only [ti.und] at h
    split at h <;> simp_all
theorem Rd.string {z : Value} {s b : Nat} [ti : TI P t .string z s b] (h : Rd enc P W t cs) : ∃ n : ByteArray, cs = [.string n] ∧ n.size ≤ maxLen := by
  obtain ⟨fuel, x, h⟩ := h
  cases fuel with
  | zero => cases h
  | succ fuel =>
    unfold DataW.trod at h
    simp only [ti.und] at h
    split at h <;> simp_all
theorem mapM_some {α β : Type} {f : α → Option β} : ∀ {l : List α} {r : List β}, l.mapM f = some r → ∀ a ∈ l, ∃ b, f a = some b
  | [], _, _, a, ha => by cases ha
  | x :: l, r, h, a, ha => by
    rw [List.mapM_cons] at h
    simp only [Option.bind_eq_bind, Option.bind_eq_some_iff] at h
    obtain ⟨b, hb, rs, hrs, _⟩ := h
    rcases List.mem_cons.1 ha with rfl | ha
    · exact ⟨b, hb⟩
    · exact mapM_some hrs a ha
theorem Rd.array {m : Nat} {e : TypeId} {z z' : Value} {s b s' b' : Nat} {d' : TypeDesc} [ti : TI P t (.array m e) z s b] [te : TI P e d' z' s' b'] (h : Rd enc P W t cs) : cs.length = s ∧ ∀ i, i < m → Rd enc P W e ((cs.drop (i * s')).take s') := by
  obtain ⟨fuel, x, h⟩ := h
  cases fuel with
  | zero => cases h
  | succ fuel =>
    unfold DataW.trod at h
    simp only [ti.und, ti.cellsOf, te.cellsOf] at h
    split at h
    · rename_i hl
      obtain ⟨y, hy, _⟩ := Option.map_eq_some_iff.1 h
      refine ⟨hl, fun i hi => ?_⟩
      obtain ⟨b, hb⟩ := mapM_some hy i (List.mem_range.2 hi)
      exact ⟨fuel, b, hb⟩
    · cases h
theorem Rd.struct {fs : Array Field} {z : Value} {s b : Nat} [ti : TI P t (.struct fs) z s b] (h : Rd enc P W t cs) : cs.length = s ∧ ∀ f ∈ fs.toList, Rd enc P W f.type ((cs.drop f.offset).take (P.cellsOf f.type)) := by
  obtain ⟨fuel, x, h⟩ := h
  cases fuel with
  | zero => cases h
  | succ fuel =>
    unfold DataW.trod at h
    simp only [ti.und, ti.cellsOf] at h
    split at h
    · rename_i hl
      obtain ⟨y, hy, _⟩ := Option.map_eq_some_iff.1 h
      refine ⟨hl, fun f hf => ?_⟩
      obtain ⟨b, hb⟩ := mapM_some hy f hf
      exact ⟨fuel, b, hb⟩
    · cases h
theorem Rd.slice {e : TypeId} {z z' : Value} {s b s' b' : Nat} {d' : TypeDesc} [ti : TI P t (.slice e) z s b] [te : TI P e d' z' s' b'] (hs : 0 < s') (h : Rd enc P W t cs) :
    ∃ A len cap vs, cs = [.slice A len cap] ∧ Row (memOf W) s' A len cap vs ∧ ∀ i, i < len → Rd enc P W e ((vs.drop (i * s')).take s') := by
  obtain ⟨fuel, x, h⟩ := h
  rcases Deep.open_slice ti.und h with ⟨rfl, _⟩ | ⟨a, len, cap, m, n, D, Pl, rfl, hb, hl, hm, hmm, _, hx⟩
  · exact ⟨none, 0, 0, [], rfl, Row.nil _ _, fun i hi => by omega⟩
  · rw [te.cellsOf] at hx
    have hcap : cap ≤ 9223372036854775807 := by unfold maxLen at hm; omega
    have hlm : len ≤ m := by rw [hmm]; split <;> omega
    have hx : ∀ i, i < len → ∃ cs', W.cells? 0 (a.add (i * s')) s' = some cs' ∧ DataW.trod enc P W 0 (fun _ => true) true n e cs' = some (D i, Pl i) := fun i hi => hx i (by omega)
    rcases Nat.eq_zero_or_pos len with h0 | h0
    · subst h0
      exact ⟨some a, 0, cap, [], rfl, Row.empty _ _ _ hcap, fun i hi => by omega⟩
    · have hspot : a.spot = none := by
        obtain ⟨cs', h1, _⟩ := hx 0 h0
        obtain ⟨_, hlen, hc⟩ := World.cells?_some h1
        have := hc 0 hs
        have hg : cs'[0]? = some (cs'[0]'(by omega)) := List.getElem?_eq_getElem (by omega)
        rw [hg] at this
        have := World.cell?_spot this
        revert this
        unfold Addr.add
        simp
      obtain ⟨bl, off, sp⟩ := a
      simp only at hspot
      subst hspot
      simp only [add_plain] at hx
      -- the cells
      have hcell : ∀ i, i < len * s' → ∃ v, W.cell? ⟨bl, off + i, none⟩ = some v := fun i hi => by
        obtain ⟨cs', h1, _⟩ := hx (i / s') (Nat.div_lt_of_lt_mul (by rwa [Nat.mul_comm]))
        obtain ⟨_, hlen, hc⟩ := World.cells?_some h1
        have hmod := Nat.mod_lt i hs
        have := hc (i % s') hmod
        rw [add_plain, Nat.add_assoc, Nat.add_comm (i / s' * s'), Nat.mod_add_div' i s', List.getElem?_eq_getElem (by omega)] at this
        exact ⟨_, this⟩
      have hblock : ∃ c T fr, W.heap[bl]? = some (.cells c T fr) := by
        obtain ⟨v, hv⟩ := hcell 0 (Nat.mul_pos h0 hs)
        unfold World.cell? at hv
        split at hv
        · rename_i c T fr hh; exact ⟨c, T, fr, hh⟩
        · cases hv
      obtain ⟨c, T, fr, hh⟩ := hblock
      have hc : ∀ i, i < len * s' → c[off + i]? = some (c.getD (off + i) default) ∧ W.cell? ⟨bl, off + i, none⟩ = some (c.getD (off + i) default) := fun i hi => by
        obtain ⟨v, hv⟩ := hcell i hi
        have hv' := hv
        unfold World.cell? at hv
        simp only [hh, Option.isSome_none, Bool.false_eq_true, if_false] at hv
        have : c.getD (off + i) default = v := by simp [Array.getD_eq_getD_getElem?, hv]
        rw [this]
        exact ⟨hv, hv'⟩
      refine ⟨some ⟨bl, off, none⟩, len, cap, (List.range (len * s')).map fun i => c.getD (off + i) default, rfl, ⟨by simp, hl, hcap, fun _ => ⟨bl, off, c, T, fr, rfl, hh, fun j v hj => ?_⟩⟩, fun i hi => ?_⟩
      · rw [List.getElem?_map] at hj
        obtain ⟨k, hk, rfl⟩ := Option.map_eq_some_iff.1 hj
        have hlt := (List.getElem?_eq_some_iff.1 hk).1
        rw [List.getElem?_range (by simpa using hlt)] at hk
        cases hk
        exact (hc _ (by simpa using hlt)).1
      · obtain ⟨cs', h1, h2⟩ := hx i hi
        have : ((((List.range (len * s')).map fun i => c.getD (off + i) default).drop (i * s')).take s') = cs' := by
          obtain ⟨_, hlen, hcc⟩ := World.cells?_some h1
          have hle : (i + 1) * s' ≤ len * s' := Nat.mul_le_mul_right _ hi
          rw [Nat.add_mul, Nat.one_mul] at hle
          apply List.ext_getElem?
          intro j
          rw [List.getElem?_take]
          split
          · rename_i hj
            rw [List.getElem?_drop, List.getElem?_map, List.getElem?_range (by omega)]
            have h3 := hcc j hj
            rw [add_plain, Nat.add_assoc] at h3
            rw [← h3, (hc (i * s' + j) (by omega)).2]
            rfl
          · rw [List.getElem?_eq_none (by omega)]
        rw [this]
        exact ⟨n, _, h2⟩
/-- A value of a kind that is one cell. -/
theorem one_of {v : Value} {base : Nat} {r : Reach} {d : TypeDesc} {z : Value} {s b : Nat} [ti : TI P t d z s b] (hd : aggD d = false) (h : Value.okWide P W r base t v) {x : Value} (hc : v.cells.toList = [x]) : v = x := by
  cases v with
  | agg c =>
    exfalso
    simp only [Value.okWide, ti.und] at h
    cases d <;> simp_all [aggD, Cell.okWide, Cell.ok]
  | _ => simpa [Value.cells] using hc
theorem agg_of {v : Value} {base : Nat} {r : Reach} {d : TypeDesc} {z : Value} {s b : Nat} [ti : TI P t d z s b] (hd : aggD d = true) (h : Value.okWide P W r base t v) : v = .agg v.cells.toList.toArray := by
  simp only [Value.okWide, ti.und] at h
  cases d <;> simp_all [aggD]
  all_goals (obtain ⟨cs, rfl, _⟩ := h; simp [Value.cells])
theorem u8_of {n : Int} (h : (Lit.int .u8 n).wf = true) : ∃ c : UInt8, n = (c.toNat : Int) := by
  simp [Lit.wf, IntKind.min, IntKind.max, IntKind.signed, IntKind.bits] at h
  exact ⟨UInt8.ofNat n.toNat, by simp [UInt8.toNat_ofNat']; omega⟩
/-- A row of numbers that came in. -/
theorem ints_of {k : IntKind} : ∀ (vs : List Value), (∀ i, i < vs.length → ∃ n, (vs.drop i).take 1 = [.int k n] ∧ (Lit.int k n).wf = true) → ∃ ts : List Int, vs = ts.map (.int k) ∧ ∀ t ∈ ts, (Lit.int k t).wf = true
  | [], _ => ⟨[], rfl, fun t h => by cases h⟩
  | v :: vs, h => by
    obtain ⟨n, h1, h2⟩ := h 0 (by simp)
    obtain ⟨ts, rfl, ht⟩ := ints_of vs (fun i hi => by simpa using h (i + 1) (by simpa using hi))
    refine ⟨n :: ts, by simpa using h1, fun t hm => ?_⟩
    rcases List.mem_cons.1 hm with rfl | hm
    · exact h2
    · exact ht t hm
theorem Rd.ints {k : IntKind} {e : TypeId} {z z' : Value} {s b b' : Nat} [ti : TI P t (.slice e) z s b] [te : TI P e (.int k) z' 1 b'] (h : Rd enc P W t cs) :
    ∃ (A : Option Addr) (len cap : Nat) (ts : List Int), cs = [.slice A len cap] ∧ Row (memOf W) 1 A len cap (ts.map (.int k)) ∧ ∀ n ∈ ts, (Lit.int k n).wf = true := by
  obtain ⟨A, len, cap, vs, rfl, hr, hx⟩ := h.slice (by omega)
  have hl := hr.len
  obtain ⟨ts, rfl, ht⟩ := ints_of (k := k) vs (fun i hi => by
    have := (hx i (by omega)).int
    simpa using this)
  exact ⟨A, len, cap, ts, rfl, hr, ht⟩
theorem u8s_of : ∀ (ts : List Int), (∀ t ∈ ts, (Lit.int .u8 t).wf = true) → ∃ bs : List UInt8, ts.map (Value.int .u8) = bs.map bv
  | [], _ => ⟨[], rfl⟩
  | t :: ts, h => by
    obtain ⟨c, rfl⟩ := u8_of (h t List.mem_cons_self)
    obtain ⟨bs, hb⟩ := u8s_of ts (fun x hx => h x (List.mem_cons_of_mem _ hx))
    exact ⟨c :: bs, by rw [List.map_cons, List.map_cons, hb]; rfl⟩
/-- A row of bytes that came in. -/
theorem Rd.bytes {e : TypeId} {z z' : Value} {s b b' : Nat} [ti : TI P t (.slice e) z s b] [te : TI P e (.int .u8) z' 1 b'] (h : Rd enc P W t cs) :
    ∃ (A : Option Addr) (len cap : Nat) (bs : List UInt8), cs = [.slice A len cap] ∧ Bytes (memOf W) A len cap bs := by
  obtain ⟨A, len, cap, ts, rfl, hr, ht⟩ := h.ints (k := .u8)
  obtain ⟨bs, hb⟩ := u8s_of ts ht
  exact ⟨A, len, cap, bs, rfl, by rw [Bytes, ← hb]; exact hr⟩
end
end Go.Eng
set_option linter.unusedVariables false
namespace Go.Proofs.YtgpjbjbdfkiklaaDoor
open Go Go.Eng Go.ChangeShapes Go.WideShapes Go.ChangeAt Go.RowKit
theorem own : ownKnob Tryd.prog.godebug = none := by kernel_rfl
theorem laidOut : laidOutB Tryd.prog = true := by kernel_rfl
set_option maxRecDepth 100000 in
theorem shutBool {H : Type} {enc : TypeId × Value → H} {W : World} {base : Nat} {sp : Nat → Bool} {held : Bool} (b : Bool) : DataW.Trod enc Tryd.prog W base sp held 4 (.bool b) (.lit (.bool b)) [] := ⟨1, by simp [DataW.trod, Value.cells, Tryd.underlying4]⟩
set_option maxRecDepth 100000 in
theorem byte_arg {H : Type} {enc : TypeId × Value → H} {W : World} {v : Value} {r : Reach} {b : Nat} (k : Value.okWide Tryd.prog W r b 5 v) (h : Rd enc Tryd.prog W 5 v.cells.toList) : ∃ c : UInt8, v = .int .u8 c.toNat := by
  obtain ⟨n, e, w⟩ := h.int
  obtain rfl := one_of rfl k e
  obtain ⟨c, rfl⟩ := u8_of w
  exact ⟨c, rfl⟩
set_option maxRecDepth 100000 in
theorem int_arg {H : Type} {enc : TypeId × Value → H} {W : World} {v : Value} {r : Reach} {b : Nat} (k : Value.okWide Tryd.prog W r b 3 v) (h : Rd enc Tryd.prog W 3 v.cells.toList) : ∃ n : Int, v = .int .i64 n ∧ -9223372036854775808 ≤ n ∧ n ≤ 9223372036854775807 := by
  obtain ⟨n, e, w⟩ := h.int
  obtain rfl := one_of rfl k e
  simp [Lit.wf, IntKind.min, IntKind.max, IntKind.signed, IntKind.bits] at w
  exact ⟨n, rfl, by omega, by omega⟩
end Go.Proofs.YtgpjbjbdfkiklaaDoor
set_option linter.unusedVariables false
set_option linter.unusedSimpArgs false
set_option linter.constructorNameAsVariable false
namespace Go.Proofs.YtgpjbjbdfkiklaaDoor
open Go Go.Eng Go.ChangeShapes Go.WideShapes Go.ChangeAt Go.RowKit
/-! ### What came in, and how many bytes it may have -/
section
variable {H : Type} {enc : TypeId × Value → H} {P : Program} {W : World} {t : TypeId} {cs : List Value}
def RdW (enc : TypeId × Value → H) (P : Program) (W : World) (t : TypeId) (cs : List Value) : Prop := ∃ fuel d ps, DataW.trod enc P W 0 (fun _ => true) true fuel t cs = some (d, ps) ∧ ∀ n ∈ d.weights P t, n ≤ reachBytes
theorem RdW.rd (h : RdW enc P W t cs) : Rd enc P W t cs := let ⟨n, d, ps, h, _⟩ := h; ⟨n, _, h⟩
theorem rdW_of {v : Value} {d : DataW H} {ps : List MemPlace} (h : DataW.Trod enc P W 0 (fun _ => true) true t v d ps) (hw : ∀ n ∈ d.weights P t, n ≤ reachBytes) : RdW enc P W t v.cells.toList := let ⟨n, h⟩ := h; ⟨n, _, _, h, hw⟩
theorem rdW_at {ts : List TypeId} {ds : List (DataW H)} (hz : (DataW.weightsEach P ts ds).all (· ≤ reachBytes) = true) (j : Nat) {v : Value} {d : DataW H} {ps : List MemPlace} (ht : ts[j]? = some t) (hd : ds[j]? = some d) (h : DataW.Trod enc P W 0 (fun _ => true) true t v d ps) : RdW enc P W t v.cells.toList :=
  rdW_of h fun n hn => by simpa using List.all_eq_true.1 hz n (DataW.weights_mem_each ht hd n hn)
theorem _root_.Go.Eng.TI.bytesOf {d : TypeDesc} {z : Value} {s b : Nat} (h : TI P t d z s b) : P.bytesOf t = b := by
  obtain ⟨i, hi, _, _, hb⟩ := h.parts
  simp [Program.bytesOf, hi, hb]
theorem weightsAll_mem {e : TypeId} {d : DataW H} {n : Nat} : ∀ {ds : List (DataW H)}, d ∈ ds → n ∈ d.weights P e → n ∈ DataW.weightsAll P e ds
  | [], h, _ => by cases h
  | x :: ds, h, hn => by
    simp only [DataW.weightsAll, List.mem_append]
    rcases List.mem_cons.1 h with rfl | h
    · exact .inl hn
    · exact .inr (weightsAll_mem h hn)
theorem RdW.slice {e : TypeId} {z z' : Value} {s b s' b' : Nat} {d' : TypeDesc} [ti : TI P t (.slice e) z s b] [te : TI P e d' z' s' b'] (hs : 0 < s') (h : RdW enc P W t cs) :
    ∃ A len cap vs, cs = [.slice A len cap] ∧ Row (memOf W) s' A len cap vs ∧ len * b' ≤ reachBytes ∧ ∀ i, i < len → RdW enc P W e ((vs.drop (i * s')).take s') := by
  obtain ⟨fuel, d, ps, h, hwt⟩ := h
  rcases Deep.open_slice ti.und h with ⟨rfl, _⟩ | ⟨a, len, cap, m, n, D, Pl, rfl, hb, hl, hm, hmm, hdd, hx⟩
  · exact ⟨none, 0, 0, [], rfl, Row.nil _ _, by simp, fun i hi => by omega⟩
  · obtain ⟨rfl, rfl⟩ := Prod.mk.inj hdd
    have hsz : len * b' ≤ reachBytes := by
      have h1 := hwt ((((List.range len).map D).length + ((List.range (m - len)).map fun j => D (len + j)).length) * P.bytesOf e) (by simp [DataW.weights, ti.und])
      rw [te.bytesOf] at h1
      refine Nat.le_trans (Nat.mul_le_mul_right _ ?_) h1
      simp
    have hwe : ∀ i, i < len → ∀ k ∈ (D i).weights P e, k ≤ reachBytes := fun i hi k hk => hwt k (by
      simp only [DataW.weights, ti.und, List.mem_cons, List.mem_append]
      exact .inr (.inl (weightsAll_mem (List.mem_map.2 ⟨i, List.mem_range.2 hi, rfl⟩) hk)))
    rw [te.cellsOf] at hx
    have hcap : cap ≤ 9223372036854775807 := by unfold maxLen at hm; omega
    have hlm : len ≤ m := by rw [hmm]; split <;> omega
    have hx : ∀ i, i < len → ∃ cs', W.cells? 0 (a.add (i * s')) s' = some cs' ∧ DataW.trod enc P W 0 (fun _ => true) true n e cs' = some (D i, Pl i) := fun i hi => hx i (by omega)
    rcases Nat.eq_zero_or_pos len with h0 | h0
    · subst h0
      exact ⟨some a, 0, cap, [], rfl, Row.empty _ _ _ hcap, hsz, fun i hi => by omega⟩
    · have hspot : a.spot = none := by
        obtain ⟨cs', h1, _⟩ := hx 0 h0
        obtain ⟨_, hlen, hc⟩ := World.cells?_some h1
        have := hc 0 hs
        have hg : cs'[0]? = some (cs'[0]'(by omega)) := List.getElem?_eq_getElem (by omega)
        rw [hg] at this
        have := World.cell?_spot this
        revert this
        unfold Addr.add
        simp
      obtain ⟨bl, off, sp⟩ := a
      simp only at hspot
      subst hspot
      simp only [Eng.add_plain] at hx
      -- the cells
      have hcell : ∀ i, i < len * s' → ∃ v, W.cell? ⟨bl, off + i, none⟩ = some v := fun i hi => by
        obtain ⟨cs', h1, _⟩ := hx (i / s') (Nat.div_lt_of_lt_mul (by rwa [Nat.mul_comm]))
        obtain ⟨_, hlen, hc⟩ := World.cells?_some h1
        have hmod := Nat.mod_lt i hs
        have := hc (i % s') hmod
        rw [Eng.add_plain, Nat.add_assoc, Nat.add_comm (i / s' * s'), Nat.mod_add_div' i s', List.getElem?_eq_getElem (by omega)] at this
        exact ⟨_, this⟩
      have hblock : ∃ c T fr, W.heap[bl]? = some (.cells c T fr) := by
        obtain ⟨v, hv⟩ := hcell 0 (Nat.mul_pos h0 hs)
        unfold World.cell? at hv
        split at hv
        · rename_i c T fr hh; exact ⟨c, T, fr, hh⟩
        · cases hv
      obtain ⟨c, T, fr, hh⟩ := hblock
      have hc : ∀ i, i < len * s' → c[off + i]? = some (c.getD (off + i) default) ∧ W.cell? ⟨bl, off + i, none⟩ = some (c.getD (off + i) default) := fun i hi => by
        obtain ⟨v, hv⟩ := hcell i hi
        have hv' := hv
        unfold World.cell? at hv
        simp only [hh, Option.isSome_none, Bool.false_eq_true, if_false] at hv
        have : c.getD (off + i) default = v := by simp [Array.getD_eq_getD_getElem?, hv]
        rw [this]
        exact ⟨hv, hv'⟩
      refine ⟨some ⟨bl, off, none⟩, len, cap, (List.range (len * s')).map fun i => c.getD (off + i) default, rfl, ⟨by simp, hl, hcap, fun _ => ⟨bl, off, c, T, fr, rfl, hh, fun j v hj => ?_⟩⟩, hsz, fun i hi => ?_⟩
      · rw [List.getElem?_map] at hj
        obtain ⟨k, hk, rfl⟩ := Option.map_eq_some_iff.1 hj
        have hlt := (List.getElem?_eq_some_iff.1 hk).1
        rw [List.getElem?_range (by simpa using hlt)] at hk
        cases hk
        exact (hc _ (by simpa using hlt)).1
      · obtain ⟨cs', h1, h2⟩ := hx i hi
        have : ((((List.range (len * s')).map fun i => c.getD (off + i) default).drop (i * s')).take s') = cs' := by
          obtain ⟨_, hlen, hcc⟩ := World.cells?_some h1
          have hle : (i + 1) * s' ≤ len * s' := Nat.mul_le_mul_right _ hi
          rw [Nat.add_mul, Nat.one_mul] at hle
          apply List.ext_getElem?
          intro j
          rw [List.getElem?_take]
          split
          · rename_i hj
            rw [List.getElem?_drop, List.getElem?_map, List.getElem?_range (by omega)]
            have h3 := hcc j hj
            rw [Eng.add_plain, Nat.add_assoc] at h3
            rw [← h3, (hc (i * s' + j) (by omega)).2]
            rfl
          · rw [List.getElem?_eq_none (by omega)]
        rw [this]
        exact ⟨n, _, _, h2, hwe i hi⟩
theorem RdW.struct3 {f0 f1 f2 : Field} {z : Value} {s b : Nat} [ti : TI P t (.struct #[f0, f1, f2]) z s b] (h : RdW enc P W t cs) :
    cs.length = s ∧ RdW enc P W f0.type ((cs.drop f0.offset).take (P.cellsOf f0.type)) ∧ RdW enc P W f1.type ((cs.drop f1.offset).take (P.cellsOf f1.type)) ∧ RdW enc P W f2.type ((cs.drop f2.offset).take (P.cellsOf f2.type)) := by
  obtain ⟨fuel, d, ps, h, hw⟩ := h
  obtain ⟨y0, y1, y2, n, hx, hl, h0, h1, h2⟩ := Deep.trod_struct3 ti.und h
  obtain ⟨rfl, rfl⟩ := Prod.mk.inj hx
  rw [ti.cellsOf] at hl
  have hm : ∀ (j : Nat) (u : TypeId) (y : DataW H), ([f0.type, f1.type, f2.type] : List TypeId)[j]? = some u → ([y0.1, y1.1, y2.1] : List (DataW H))[j]? = some y → ∀ k ∈ y.weights P u, k ≤ reachBytes := fun j u y hu hy k hk => hw k (by
    simp only [DataW.weights, ti.und]
    exact DataW.weights_mem_each (j := j) (by simpa using hu) hy k hk)
  exact ⟨hl, ⟨n, y0.1, y0.2, h0, hm 0 _ _ rfl rfl⟩, ⟨n, y1.1, y1.2, h1, hm 1 _ _ rfl rfl⟩, ⟨n, y2.1, y2.2, h2, hm 2 _ _ rfl rfl⟩⟩
theorem RdW.bytes {e : TypeId} {z z' : Value} {s b : Nat} [ti : TI P t (.slice e) z s b] [te : TI P e (.int .u8) z' 1 1] (h : RdW enc P W t cs) :
    ∃ (A : Option Addr) (len cap : Nat) (bs : List UInt8), cs = [.slice A len cap] ∧ Bytes (memOf W) A len cap bs ∧ len ≤ 140737488355328 := by
  obtain ⟨A, len, cap, bs, rfl, hb⟩ := Rd.bytes (te := te) h.rd
  obtain ⟨A', len', cap', vs, e1, _, hz, _⟩ := RdW.slice (te := te) (by omega) h
  have e2 : len = len' := by simp at e1; exact e1.2.1
  exact ⟨A, len, cap, bs, rfl, hb, by unfold reachBytes at hz; omega⟩
theorem browsW_of {t e : TypeId} {z z' : Value} {s b : Nat} [ti : TI P t (.slice e) z s b] [te : TI P e (.int .u8) z' 1 1] : ∀ (vs : List Value), (∀ i, i < vs.length → RdW enc P W t ((vs.drop i).take 1)) → ∃ bss, BRows (memOf W) vs bss ∧ ∀ b ∈ bss, b.length ≤ 140737488355328
  | [], _ => ⟨[], .nil, fun b hb => by cases hb⟩
  | v :: vs, h => by
    obtain ⟨A, n, c, bs, e1, hb, hn⟩ := RdW.bytes (te := te) (h 0 (by simp))
    obtain ⟨bss, ht, hs⟩ := browsW_of vs (fun i hi => by simpa using h (i + 1) (by simpa using hi))
    have e2 : v = .slice A n c := by simpa using e1
    refine ⟨bs :: bss, by rw [e2]; exact .cons hb ht, fun x hx => ?_⟩
    rcases List.mem_cons.1 hx with rfl | hx
    · have := hb.size; omega
    · exact hs x hx
/-- A row of rows of bytes that came in. -/
theorem RdW.brows {t0 t e : TypeId} {z0 z z' : Value} {s0 b0 b : Nat} {cs : List Value} [t0i : TI P t0 (.slice t) z0 s0 b0] [ti : TI P t (.slice e) z 1 b] [te : TI P e (.int .u8) z' 1 1] (h : RdW enc P W t0 cs) :
    ∃ A len cap vs bss, cs = [.slice A len cap] ∧ Row (memOf W) 1 A len cap vs ∧ BRows (memOf W) vs bss ∧ ∀ b ∈ bss, b.length ≤ 140737488355328 := by
  obtain ⟨A, len, cap, vs, rfl, hr, _, hx⟩ := RdW.slice (te := ti) (by omega) h
  obtain ⟨bss, hb, hs⟩ := browsW_of vs (fun i hi => by
    have := hx i (by have := hr.len; omega)
    simpa using this)
  exact ⟨A, len, cap, vs, bss, rfl, hr, hb, hs⟩
end
end Go.Proofs.YtgpjbjbdfkiklaaDoor
