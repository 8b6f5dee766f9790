/-
Contracts of functions, each proved by a walk through its code.
-/
import Derived.Test.YtiimjodbaogjbaaGreatDoorSetsEtc
import Derived.Test.YtiimjodbaogjbaaGreatDoorBaseEtc
import Derived.Test.YtiimjodbaogjbaaGreatDoorEngIEtc
import Derived.Test.YtiimjodbaogjbaaGreatDoorShakeEtc
import Derived.Test.YtiimjodbaogjbaaGreatDoorEngWEtc
set_option linter.unusedVariables false
set_option linter.unusedSimpArgs false
set_option linter.constructorNameAsVariable false
namespace Go.Proofs.YtiimjodbaogjbaaGreatDoor
open Go Go.Eng
section
variable {G : World} {M : Mem} {L : Own}
theorem right_spec (hs : SetG M) (o : OtsV) {NA XA : Option Addr} {nl nc xl xc : Nat} (i : Int) :
    Con Tryz.prog 194 #[.agg (List.toArray o.cells), .slice NA nl nc, .int .i64 i, .slice XA xl xc] G M L (fun v M' L' => L' = L ∧ okR o nl i xl) (fun ch M' L' => L' = L ∧ ¬ okR o nl i xl ∧ ch = wrongc) := by
  refine enter (args := [_, _, _, _]) (fn := Tryz.f194) ⟨Tryz.func194, rfl, by kernel_rfl, by kernel_rfl⟩ 46 rfl ?_
  refine x_seq (x_region ?_)
  refine tl_e rfl (e_box rfl (fun b1 => ?_))
  refine tl_nil (.then_normal ?_)
  refine x_seq (x_region ?_)
  refine tl_y rfl (y_fieldAddr rfl) ?_
  refine tl_y rfl (y_load rfl rfl (.own inferInstance inferInstance)) ?_
  refine tl_e rfl (e_call' rfl (Ots_spec hs o.code) ?_)
  rintro _ M1 _ hM1 ⟨rfl, rfl⟩
  refine tl_y rfl (y_move (v := .tuple _) rfl) ?_
  refine tl_y rfl (y_extract rfl) ?_
  refine tl_y rfl (y_extract rfl) ?_
  refine tl_e rfl (e_alloc (fun b2 => ?_))
  refine tl_e rfl (e_store rfl rfl (by rfl) (by rfl) inferInstance inferInstance inferInstance ?_)
  refine tl_y rfl (y_assign (v := .int _ _) rfl) ?_
  refine tl_nil (.then_normal ?_)
  refine .sub (F' := [(1, _), (2, _), (3, _), (4, _), (8, _), (9, _)]) (.cons rfl (.cons rfl (.cons rfl (.cons rfl (.cons rfl (.cons rfl .nil)))))) ?_
  refine x_region ?_
  refine tl_y rfl (y_move (v := .int _ _) rfl) ?_
  refine tl_y rfl (y_eql rfl rfl) ?_
  refine tl_y rfl (y_move (v := .bool _) rfl) ?_
  refine tl_cases (s := 18) rfl (fun hk1 => ?_) (fun hk1 => ?_)
  ·
    refine tl_y rfl (y_loadAgg rfl rfl (.own inferInstance inferInstance)) ?_
    refine tl_y rfl (y_loadAgg rfl rfl (.own inferInstance inferInstance)) ?_
    refine tl_y rfl (y_eqlS rfl rfl eqs27) ?_
    refine tl_y rfl (y_pickT rfl rfl) ?_
    refine tl_y rfl (y_move (v := .bool _) rfl) ?_
    refine tl_cases (s := 23) rfl (fun hk2 => ?_) (fun hk2 => ?_)
    ·
      refine tl_y rfl (y_move (v := .slice _ _ _) rfl) ?_
      refine tl_y rfl (y_len rfl) ?_
      refine tl_y rfl (y_eql rfl rfl) ?_
      refine tl_y rfl (y_pickT rfl rfl) ?_
      refine tl_y rfl (y_move (v := .bool _) rfl) ?_
      refine tl_cases (s := 28) rfl (fun hk3 => ?_) (fun hk3 => ?_)
      ·
        refine tl_y rfl (y_move (v := .int _ _) rfl) ?_
        refine tl_y rfl (y_geq rfl rfl) ?_
        refine tl_y rfl (y_pickT rfl rfl) ?_
        refine tl_y rfl (y_move (v := .bool _) rfl) ?_
        refine tl_cases (s := 32) rfl (fun hk4 => ?_) (fun hk4 => ?_)
        ·
          refine tl_y rfl (y_move (v := .int _ _) rfl) ?_
          refine tl_y rfl (y_fieldAddr rfl) ?_
          refine tl_y rfl (y_load rfl rfl (.own inferInstance inferInstance)) ?_
          refine tl_y rfl (y_lss rfl rfl) ?_
          refine tl_y rfl (y_pickT rfl rfl) ?_
          refine tl_y rfl (y_move (v := .bool _) rfl) ?_
          refine tl_cases (s := 38) rfl (fun hk5 => ?_) (fun hk5 => ?_)
          ·
            refine tl_y rfl (y_move (v := .slice _ _ _) rfl) ?_
            refine tl_y rfl (y_len rfl) ?_
            refine tl_y rfl (y_fieldAddr rfl) ?_
            refine tl_y rfl (y_load rfl rfl (.own inferInstance inferInstance)) ?_
            refine tl_y rfl (y_eql rfl rfl) ?_
            refine tl_y rfl (y_pickT rfl rfl) ?_
            refine tl_e rfl (e_call rfl (cmust_spec _) (by
              rintro _ _ _ _ ⟨rfl, rfl, ht, rfl⟩
              refine TP.dropTo L inferInstance (.retA rfl hM1 ⟨rfl, ?_, rfl⟩)
              rintro ⟨a1, a2, a3, a4, a5, a6⟩
              first | (cases ht; done) | exact hk1 a1 | exact hk2 (eq_ots a2) | omega | (simp at ht; omega)) ?_)
            rintro _ _ _ _ ⟨rfl, rfl, ht⟩
            refine tl_nil (.dropTo L inferInstance (end0 rfl hM1 ⟨rfl, by first | (cases ht; done) | (simp at ht; exact ⟨hk1, ots_eq hk2, by omega, by omega, by omega, by omega⟩)⟩))
          ·
            refine tl_skip rfl ?_
            refine tl_skip rfl ?_
            refine tl_skip rfl ?_
            refine tl_skip rfl ?_
            refine tl_skip rfl ?_
            refine tl_y rfl (y_pickF rfl rfl) ?_
            refine tl_e rfl (e_call rfl (cmust_spec _) (by
              rintro _ _ _ _ ⟨rfl, rfl, ht, rfl⟩
              refine TP.dropTo L inferInstance (.retA rfl hM1 ⟨rfl, ?_, rfl⟩)
              rintro ⟨a1, a2, a3, a4, a5, a6⟩
              first | (cases ht; done) | exact hk1 a1 | exact hk2 (eq_ots a2) | omega | (simp at ht; omega)) ?_)
            rintro _ _ _ _ ⟨rfl, rfl, ht⟩
            refine tl_nil (.dropTo L inferInstance (end0 rfl hM1 ⟨rfl, by first | (cases ht; done) | (simp at ht; exact ⟨hk1, ots_eq hk2, by omega, by omega, by omega, by omega⟩)⟩))
        ·
          refine tl_skip rfl ?_
          refine tl_skip rfl ?_
          refine tl_skip rfl ?_
          refine tl_skip rfl ?_
          refine tl_y rfl (y_pickF rfl rfl) ?_
          refine tl_y rfl (y_move (v := .bool _) rfl) ?_
          refine tl_skip rfl ?_
          refine tl_skip rfl ?_
          refine tl_skip rfl ?_
          refine tl_skip rfl ?_
          refine tl_skip rfl ?_
          refine tl_y rfl (y_pickF rfl rfl) ?_
          refine tl_e rfl (e_call rfl (cmust_spec _) (by
            rintro _ _ _ _ ⟨rfl, rfl, ht, rfl⟩
            refine TP.dropTo L inferInstance (.retA rfl hM1 ⟨rfl, ?_, rfl⟩)
            rintro ⟨a1, a2, a3, a4, a5, a6⟩
            first | (cases ht; done) | exact hk1 a1 | exact hk2 (eq_ots a2) | omega | (simp at ht; omega)) ?_)
          rintro _ _ _ _ ⟨rfl, rfl, ht⟩
          refine tl_nil (.dropTo L inferInstance (end0 rfl hM1 ⟨rfl, by first | (cases ht; done) | (simp at ht; exact ⟨hk1, ots_eq hk2, by omega, by omega, by omega, by omega⟩)⟩))
      ·
        refine tl_skip rfl ?_
        refine tl_skip rfl ?_
        refine tl_y rfl (y_pickF rfl rfl) ?_
        refine tl_y rfl (y_move (v := .bool _) rfl) ?_
        refine tl_skip rfl ?_
        refine tl_skip rfl ?_
        refine tl_skip rfl ?_
        refine tl_skip rfl ?_
        refine tl_y rfl (y_pickF rfl rfl) ?_
        refine tl_y rfl (y_move (v := .bool _) rfl) ?_
        refine tl_skip rfl ?_
        refine tl_skip rfl ?_
        refine tl_skip rfl ?_
        refine tl_skip rfl ?_
        refine tl_skip rfl ?_
        refine tl_y rfl (y_pickF rfl rfl) ?_
        refine tl_e rfl (e_call rfl (cmust_spec _) (by
          rintro _ _ _ _ ⟨rfl, rfl, ht, rfl⟩
          refine TP.dropTo L inferInstance (.retA rfl hM1 ⟨rfl, ?_, rfl⟩)
          rintro ⟨a1, a2, a3, a4, a5, a6⟩
          first | (cases ht; done) | exact hk1 a1 | exact hk2 (eq_ots a2) | omega | (simp at ht; omega)) ?_)
        rintro _ _ _ _ ⟨rfl, rfl, ht⟩
        refine tl_nil (.dropTo L inferInstance (end0 rfl hM1 ⟨rfl, by first | (cases ht; done) | (simp at ht; exact ⟨hk1, ots_eq hk2, by omega, by omega, by omega, by omega⟩)⟩))
    ·
      refine tl_skip rfl ?_
      refine tl_skip rfl ?_
      refine tl_skip rfl ?_
      refine tl_y rfl (y_pickF rfl rfl) ?_
      refine tl_y rfl (y_move (v := .bool _) rfl) ?_
      refine tl_skip rfl ?_
      refine tl_skip rfl ?_
      refine tl_y rfl (y_pickF rfl rfl) ?_
      refine tl_y rfl (y_move (v := .bool _) rfl) ?_
      refine tl_skip rfl ?_
      refine tl_skip rfl ?_
      refine tl_skip rfl ?_
      refine tl_skip rfl ?_
      refine tl_y rfl (y_pickF rfl rfl) ?_
      refine tl_y rfl (y_move (v := .bool _) rfl) ?_
      refine tl_skip rfl ?_
      refine tl_skip rfl ?_
      refine tl_skip rfl ?_
      refine tl_skip rfl ?_
      refine tl_skip rfl ?_
      refine tl_y rfl (y_pickF rfl rfl) ?_
      refine tl_e rfl (e_call rfl (cmust_spec _) (by
        rintro _ _ _ _ ⟨rfl, rfl, ht, rfl⟩
        refine TP.dropTo L inferInstance (.retA rfl hM1 ⟨rfl, ?_, rfl⟩)
        rintro ⟨a1, a2, a3, a4, a5, a6⟩
        first | (cases ht; done) | exact hk1 a1 | exact hk2 (eq_ots a2) | omega | (simp at ht; omega)) ?_)
      rintro _ _ _ _ ⟨rfl, rfl, ht⟩
      refine tl_nil (.dropTo L inferInstance (end0 rfl hM1 ⟨rfl, by first | (cases ht; done) | (simp at ht; exact ⟨hk1, ots_eq hk2, by omega, by omega, by omega, by omega⟩)⟩))
  ·
    refine tl_skip rfl ?_
    refine tl_skip rfl ?_
    refine tl_skip rfl ?_
    refine tl_y rfl (y_pickF rfl rfl) ?_
    refine tl_y rfl (y_move (v := .bool _) rfl) ?_
    refine tl_skip rfl ?_
    refine tl_skip rfl ?_
    refine tl_skip rfl ?_
    refine tl_y rfl (y_pickF rfl rfl) ?_
    refine tl_y rfl (y_move (v := .bool _) rfl) ?_
    refine tl_skip rfl ?_
    refine tl_skip rfl ?_
    refine tl_y rfl (y_pickF rfl rfl) ?_
    refine tl_y rfl (y_move (v := .bool _) rfl) ?_
    refine tl_skip rfl ?_
    refine tl_skip rfl ?_
    refine tl_skip rfl ?_
    refine tl_skip rfl ?_
    refine tl_y rfl (y_pickF rfl rfl) ?_
    refine tl_y rfl (y_move (v := .bool _) rfl) ?_
    refine tl_skip rfl ?_
    refine tl_skip rfl ?_
    refine tl_skip rfl ?_
    refine tl_skip rfl ?_
    refine tl_skip rfl ?_
    refine tl_y rfl (y_pickF rfl rfl) ?_
    refine tl_e rfl (e_call rfl (cmust_spec _) (by
      rintro _ _ _ _ ⟨rfl, rfl, ht, rfl⟩
      refine TP.dropTo L inferInstance (.retA rfl hM1 ⟨rfl, ?_, rfl⟩)
      rintro ⟨a1, a2, a3, a4, a5, a6⟩
      first | (cases ht; done) | exact hk1 a1 | exact hk2 (eq_ots a2) | omega | (simp at ht; omega)) ?_)
    rintro _ _ _ _ ⟨rfl, rfl, ht⟩
    refine tl_nil (.dropTo L inferInstance (end0 rfl hM1 ⟨rfl, by first | (cases ht; done) | (simp at ht; exact ⟨hk1, ots_eq hk2, by omega, by omega, by omega, by omega⟩)⟩))
theorem step_spec (hg : ShaG M) (hk : KecG M) (o : OtsV) (hok : okC o.kind o.n) {NA XA : Option Addr} {nl nc xl xc : Nat} {name x : List UInt8} (hname : Bytes M NA nl nc name) (hx : Bytes M XA xl xc x) (hnl : nl ≤ 1000000) (hxl : xl ≤ 1000000) (q : UInt32) (i j : Nat) (hi : i ≤ 65535) (hj : j ≤ 255) :
    Con Tryz.prog 197 #[.agg (List.toArray o.cells), .slice NA nl nc, .int .u32 (q.toNat : Int), .int .i64 (i : Int), .int .i64 (j : Int), .slice XA xl xc] G M L (fun v M' L' => L' = L ∧ ∃ A c, v = .slice A o.n.toNat c ∧ Bytes M' A o.n.toNat c (csum o.kind o.n (stepT name q.toNat i j x))) noPanic := by
  have hnls := hname.size
  have hxls := hx.size
  have hq := q.toNat_lt
  refine enter (args := [_, _, _, _, _, _]) (fn := Tryz.f197) ⟨Tryz.func197, rfl, by kernel_rfl, by kernel_rfl⟩ 30 rfl ?_
  refine x_seq (x_region ?_)
  refine tl_e rfl (e_box rfl (fun b1 => ?_))
  refine tl_y rfl (y_assign rfl) ?_
  refine tl_nil (.then_normal ?_)
  refine x_seq ?_
  refine x_draw 18 hmix rfl ?_
  refine to_p 0 rfl (by kernel_rfl) rfl (y_fieldAddr rfl) ?_
  refine to_y 1 rfl (by kernel_rfl) rfl (y_load rfl rfl (.own inferInstance inferInstance)) ?_
  refine to_p 2 rfl (by kernel_rfl) rfl (y_fieldAddr rfl) ?_
  refine to_y 3 rfl (by kernel_rfl) rfl (y_load rfl rfl (.own inferInstance inferInstance)) ?_
  refine to_p 4 rfl (by kernel_rfl) rfl (y_move (v := .slice _ _ _) rfl) ?_
  refine to_p 5 rfl (by kernel_rfl) rfl (y_move (v := .int _ _) rfl) ?_
  refine to_p 6 rfl (by kernel_rfl) rfl (y_convN64 rfl (by omega)) ?_
  refine to_p 8 rfl (by kernel_rfl) rfl (y_move (v := .int _ _) rfl) ?_
  refine to_p 9 rfl (by kernel_rfl) rfl (y_convN64 rfl (by omega)) ?_
  refine to_p 11 rfl (by kernel_rfl) rfl (y_move (v := .int _ _) rfl) ?_
  refine to_p 12 rfl (by kernel_rfl) rfl (y_convN64 rfl (by omega)) ?_
  refine to_p 14 rfl (by kernel_rfl) rfl (y_move (v := .slice _ _ _) rfl) ?_
  refine to_e 7 rfl (by kernel_rfl) rfl (e_call' rfl (PutV_spec q.toNat 4 (by omega) (by omega)) ?_)
  rintro _ M1 _ hM1 ⟨rfl, A1, c1, rfl, hA1⟩
  refine ⟨⟨(by first | exact Le.refl _ | assumption), Keeps.mem⟩, ?_⟩
  refine to_e 10 rfl (by kernel_rfl) rfl (e_call' rfl (PutV_spec i 2 (by omega) (by omega)) ?_)
  rintro _ M2 _ hM2 ⟨rfl, A2, c2, rfl, hA2⟩
  refine ⟨⟨hM1.trans hM2, Keeps.mem⟩, ?_⟩
  refine to_e 13 rfl (by kernel_rfl) rfl (e_call' rfl (PutV_spec j 1 (by omega) (by omega)) ?_)
  rintro _ M3 _ hM3 ⟨rfl, A3, c3, rfl, hA3⟩
  have hm3 := hM1.trans (hM2.trans hM3)
  refine ⟨⟨hm3, Keeps.mem⟩, ?_⟩
  refine to_e 15 rfl (by kernel_rfl) rfl (e_buildSlice rfl (by decide) (fun b2 => ?_))
  refine ⟨⟨hm3, Keeps.mem⟩, ?_⟩
  refine .pub b2 inferInstance (fun M4 hM4 hb2 => ?_)
  have hm4 := hm3.trans hM4
  have hfl : [name, putB q.toNat 4, putB i 2, putB j 1, x].flatten = stepT name q.toNat i j x := by simp [stepT]
  have hfll : (stepT name q.toNat i j x).length = nl + 7 + xl := by
    rw [stepT, List.length_append, List.length_append, List.length_append, List.length_append, putB_length, putB_length, putB_length]; omega
  refine to_e 16 rfl (by kernel_rfl) rfl (e_call rfl (csum_spec (hg.mono hm4) (hk.mono hm4) o.kind o.n (Row.whole hb2 rfl (by omega)) (.cons (hname.mono hm4) (.cons (hA1.mono (hM2.trans (hM3.trans hM4))) (.cons (hA2.mono (hM3.trans hM4)) (.cons (hA3.mono hM4) (.cons (hx.mono hm4) .nil))))) (by rw [hfl, hfll]; omega)) (by
    rintro _ M7 _ hM7 ⟨_, hno, _⟩
    exact absurd hok hno) ?_)
  rintro _ M7 _ hM7 ⟨rfl, _, A7, c7, rfl, hA7⟩
  rw [hfl] at hA7
  refine ⟨⟨hm4.trans hM7, Keeps.mem⟩, ?_⟩
  refine to_p 17 rfl (by kernel_rfl) rfl (y_assign (v := .slice _ _ _) rfl) ?_
  refine to_nil (by kernel_rfl) (.then_normal ?_)
  refine .sub (F' := [(12, _)]) (.cons rfl .nil) ?_
  refine x_ret (.dropTo L inferInstance (ret1 rfl rfl (hm4.trans hM7) ⟨rfl, _, _, rfl, hA7⟩))
end
end Go.Proofs.YtiimjodbaogjbaaGreatDoor
set_option linter.unusedVariables false
set_option linter.unusedSimpArgs false
set_option linter.constructorNameAsVariable false
namespace Go.Proofs.YtiimjodbaogjbaaGreatDoor
open Go Go.Eng
theorem upC_length {o : OtsV} (hok : okC o.kind o.n) (hsha : ∀ t, (sha t).length = 32) (name : List UInt8) (q i f : Nat) {x : List UInt8} (hx : (x.length : Int) = o.n) (k : Nat) : ((upC o name q i f x k).length : Int) = o.n := by
  cases k with
  | zero => exact hx
  | succ k =>
    rw [upC, csum_length hok _ (hsha _)]
    rcases hok.2 with h | h <;> rw [h] <;> rfl
section
variable {G : World} {M : Mem} {L : Own}
theorem Up1_spec (hg : ShaG M) (hk : KecG M) (hs : SetG M) (o : OtsV) {NA XA : Option Addr} {nl nc xl xc : Nat} {name x : List UInt8} (hname : Bytes M NA nl nc name) (hx : Bytes M XA xl xc x) (q : UInt32) (i f t : Int) {b1 b2 b3 b4 b5 b6 b7 : Nat}
    [i1 : Has L b1 (.cells (List.toArray o.cells) 27 (0, 0))] [i2 : Has L b2 (.cells (List.toArray [.slice NA nl nc]) 35 (0, 0))] [i3 : Has L b3 (.cells (List.toArray [.int .i64 i]) 3 (0, 0))]
    [i4 : Has L b4 (.cells (List.toArray [.slice XA xl xc]) 35 (0, 0))] [i5 : Has L b5 (.cells (List.toArray [.int .i64 f]) 3 (0, 0))] [i6 : Has L b6 (.cells (List.toArray [.int .i64 t]) 3 (0, 0))] [i7 : Has L b7 (.cells (List.toArray [.int .u32 (q.toNat : Int)]) 22 (0, 0))] :
    Con Tryz.prog 193 #[.pointer (some ⟨b1, 0, none⟩), .pointer (some ⟨b2, 0, none⟩), .pointer (some ⟨b3, 0, none⟩), .pointer (some ⟨b4, 0, none⟩), .pointer (some ⟨b5, 0, none⟩), .pointer (some ⟨b6, 0, none⟩), .pointer (some ⟨b7, 0, none⟩)] G M L
      (fun v M' L' => L' = L ∧ ∃ A' m' c', v = .slice A' m' c' ∧ (okR o nl i xl ∧ 0 ≤ f ∧ f ≤ t ∧ t ≤ (pw2 o.w.toNat : Nat) - 1) ∧ m' = o.n.toNat ∧ Bytes M' A' m' c' (upC o name q.toNat i.toNat f.toNat x (t - f).toNat)) (fun ch M' L' => L' = L ∧ ¬ (okR o nl i xl ∧ 0 ≤ f ∧ f ≤ t ∧ t ≤ (pw2 o.w.toNat : Nat) - 1) ∧ ch = wrongc) := by
  have hnls := hname.size
  have hxls := hx.size
  refine enter (args := [_, _, _, _, _, _, _]) (fn := Tryz.f193) ⟨Tryz.func193, rfl, by kernel_rfl, by kernel_rfl⟩ 47 rfl ?_
  refine x_seq (x_region ?_)
  refine tl_y rfl (y_assign rfl) ?_
  refine tl_nil (.then_normal ?_)
  refine x_seq (x_region ?_)
  refine tl_y rfl (y_loadAgg rfl rfl (.own inferInstance inferInstance)) ?_
  refine tl_y rfl (y_load rfl rfl (.own inferInstance inferInstance)) ?_
  refine tl_y rfl (y_load rfl rfl (.own inferInstance inferInstance)) ?_
  refine tl_y rfl (y_load rfl rfl (.own inferInstance inferInstance)) ?_
  refine tl_e rfl (e_call rfl (right_spec hs o i) (by
    rintro _ M1 _ hM1 ⟨rfl, hno, rfl⟩
    exact .retA rfl hM1 ⟨rfl, fun h => hno h.1, rfl⟩) ?_)
  rintro _ M1 L hM1 ⟨rfl, hok⟩
  obtain ⟨hoc, hop, w, hw, hww⟩ := okR_facts hok
  have hob : nl = 16 ∧ 0 ≤ i ∧ i < o.p ∧ (xl : Int) = o.n := hok.2.2
  have hon : o.n = 24 ∨ o.n = 32 := hoc.2
  have hpw := pw2_w hw
  have hwt : o.w.toNat = w := by omega
  rw [hwt]
  have hwi : 0 ≤ o.w := by omega
  have hshl : IntKind.i64.wrap (1 * 2 ^ (min o.w.toNat IntKind.i64.bits)) = ((pw2 w : Nat) : Int) := by rw [hww]; exact shl1_w hw
  obtain ⟨i', rfl⟩ : ∃ i' : Nat, i = i' := ⟨i.toNat, by omega⟩
  refine tl_nil (.then_normal ?_)
  refine .sub (F' := [(0, _), (1, _), (2, _), (3, _), (4, _), (5, _), (6, _)]) (.cons rfl (.cons rfl (.cons rfl (.cons rfl (.cons rfl (.cons rfl (.cons rfl .nil))))))) ?_
  refine x_seq ?_
  refine x_meet (I := fun F D M2 L2 => (0 ≤ f ∧ f ≤ t ∧ t ≤ (pw2 w : Nat) - 1) ∧ D = [] ∧ M1 = M2 ∧ L = L2 ∧ F = [(0, .pointer (some ⟨b1, 0, none⟩)), (1, .pointer (some ⟨b2, 0, none⟩)), (2, .pointer (some ⟨b3, 0, none⟩)), (3, .pointer (some ⟨b4, 0, none⟩)), (4, .pointer (some ⟨b5, 0, none⟩)), (5, .pointer (some ⟨b6, 0, none⟩)), (6, .pointer (some ⟨b7, 0, none⟩))]) ?_ (fun Jd2 => ?_)
  ·
    rintro _ _ _ _ ⟨hj, rfl, rfl, rfl, rfl⟩  -- slots [0, 1, 2, 3, 4, 5, 6]
    obtain ⟨f', rfl⟩ : ∃ f' : Nat, f = f' := ⟨f.toNat, by omega⟩
    obtain ⟨t', rfl⟩ : ∃ t' : Nat, t = t' := ⟨t.toNat, by omega⟩
    refine x_seq (x_region ?_)
    refine tl_y rfl (y_load rfl rfl (.own inferInstance inferInstance)) ?_
    refine tl_e rfl (e_call' rfl (bytesClone_spec (hx.mono hM1) (by omega)) ?_)
    rintro _ M3 L hM3 ⟨rfl, A3, c3, rfl, hA3⟩
    have hm3 := hM1.trans hM3
    refine tl_y rfl (y_assign (v := .slice _ _ _) rfl) ?_
    refine tl_nil (.then_normal ?_)
    refine x_seq (x_seq (x_region ?_))
    refine tl_y rfl (y_load rfl rfl (.own inferInstance inferInstance)) ?_
    refine tl_y rfl (y_assign (v := .int _ _) rfl) ?_
    refine tl_nil (.then_normal ?_)
    refine .sub (F' := [(0, _), (1, _), (2, _), (5, _), (6, _), (8, _), (9, _)]) (.cons rfl (.cons rfl (.cons rfl (.cons rfl (.cons rfl (.cons rfl (.cons rfl .nil))))))) ?_
    refine x_block ?_
    refine x_loop (I := fun m' F D M4 L4 => ∃ (k : Nat) (A4 : Option Addr) (c4 : Nat), m' = t' - f' - k ∧ k ≤ t' - f' ∧ Le M M4 ∧ Bytes M4 A4 o.n.toNat c4 (upC o name q.toNat i' f' x k) ∧ D = [] ∧ L = L4 ∧ F = [(0, .pointer (some ⟨b1, 0, none⟩)), (1, .pointer (some ⟨b2, 0, none⟩)), (2, .pointer (some ⟨b3, 0, none⟩)), (5, .pointer (some ⟨b6, 0, none⟩)), (6, .pointer (some ⟨b7, 0, none⟩)), (8, .slice A4 o.n.toNat c4), (9, .int .i64 ((f' + k : Nat) : Int))]) (t' - f') (F0 := [(0, _), (1, _), (2, _), (5, _), (6, _), (8, _), (9, _)]) ?_ (.cons rfl (.cons rfl (.cons rfl (.cons rfl (.cons rfl (.cons rfl (.cons rfl .nil))))))) ?_  -- slots [0, 1, 2, 5, 6, 8, 9], written [8, 9]
    · exact ⟨0, A3, c3, rfl, by omega, hm3, by rw [show o.n.toNat = xl by omega]; exact hA3, rfl, rfl, by rw [show o.n.toNat = xl by omega]; rfl⟩
    rintro m _ _ M4 L4 ⟨k, A4, c4, rfl, hkk, hM4, hA4, rfl, rfl, rfl⟩
    refine x_seq (x_seq (x_region ?_))
    refine tl_y rfl (y_move (v := .int _ _) rfl) ?_
    refine tl_y rfl (y_load rfl rfl (.own inferInstance inferInstance)) ?_
    refine tl_y rfl (y_lss rfl rfl) ?_
    refine tl_nil (.then_normal ?_)
    refine x_cond rfl (fun hc1 => ?_) (fun hc1 => ?_)
    ·
      refine x_skip (.then_normal ?_)
      refine x_seq ?_
      refine x_block ?_
      refine x_region ?_
      refine tl_y rfl (y_loadAgg rfl rfl (.own inferInstance inferInstance)) ?_
      refine tl_y rfl (y_load rfl rfl (.own inferInstance inferInstance)) ?_
      refine tl_y rfl (y_load rfl rfl (.own inferInstance inferInstance)) ?_
      refine tl_y rfl (y_load rfl rfl (.own inferInstance inferInstance)) ?_
      refine tl_y rfl (y_move (v := .int _ _) rfl) ?_
      refine tl_y rfl (y_move (v := .slice _ _ _) rfl) ?_
      refine tl_e rfl (e_call' rfl (step_spec (hg.mono hM4) (hk.mono hM4) o hoc (hname.mono hM4) hA4 (by omega) (by omega) q i' (f' + k) (by omega) (by omega)) ?_)
      rintro _ M5 _ hM5 ⟨rfl, A5, c5, rfl, hA5⟩
      refine tl_y rfl (y_assign (v := .slice _ _ _) rfl) ?_
      refine tl_nil (.block_normal (.then_normal ?_))
      refine .sub (F' := [(0, _), (1, _), (2, _), (5, _), (6, _), (8, _), (9, _)]) (.cons rfl (.cons rfl (.cons rfl (.cons rfl (.cons rfl (.cons rfl (.cons rfl .nil))))))) ?_
      refine x_region ?_
      refine tl_y rfl (y_move (v := .int _ _) rfl) ?_
      refine tl_y rfl (y_addI rfl rfl (by omega)) ?_
      rw [show ((f' + k : Nat) : Int) + 1 = ((f' + (k + 1) : Nat) : Int) by omega]
      refine tl_y rfl (y_assign (v := .int _ _) rfl) ?_
      refine tl_nil (.loop_next (m' := t' - f' - (k + 1)) (by omega) (F' := [(0, _), (1, _), (2, _), (5, _), (6, _), (8, _), (9, _)]) (.cons rfl (.cons rfl (.cons rfl (.cons rfl (.cons rfl (.cons rfl (.cons rfl .nil))))))) ?_)
      exact ⟨k + 1, A5, c5, rfl, by omega, hM4.trans hM5, hA5, rfl, rfl, rfl⟩
    ·
      refine x_exit (.then_exit (.loop_exit (.block_exit (.then_normal ?_))))
      refine .sub (F' := [(8, _)]) (.cons rfl .nil) ?_
      refine x_seq (x_region ?_)
      refine tl_y rfl (y_move (v := .slice _ _ _) rfl) ?_
      refine tl_y rfl (y_assign (v := .slice _ _ _) rfl) ?_
      refine tl_nil (.then_normal ?_)
      refine x_ret (ret1 rfl rfl hM4 ⟨rfl, _, _, _, rfl, ⟨hok, hj⟩, rfl, by
        obtain rfl : k = t' - f' := by omega
        rw [show ((t' : Int) - (f' : Int)).toNat = t' - f' by omega]
        exact hA4⟩)
  ·
    refine x_draw 16 hmix rfl ?_
    refine to_y 0 rfl (by kernel_rfl) rfl (y_load rfl rfl (.own inferInstance inferInstance)) ?_
    refine to_p 1 rfl (by kernel_rfl) rfl (y_geq rfl rfl) ?_
    refine to_p 2 rfl (by kernel_rfl) rfl (y_move (v := .bool _) rfl) ?_
    refine to_cases (s := 17) rfl (fun hk1 => ?_) (fun hk1 => ?_)
    ·
      refine to_y 3 rfl (by kernel_rfl) rfl (y_load rfl rfl (.own inferInstance inferInstance)) ?_
      refine to_y 4 rfl (by kernel_rfl) rfl (y_load rfl rfl (.own inferInstance inferInstance)) ?_
      refine to_p 5 rfl (by kernel_rfl) rfl (y_leq rfl rfl) ?_
      refine to_p 6 rfl (by kernel_rfl) rfl (y_pickT rfl rfl) ?_
      refine to_p 7 rfl (by kernel_rfl) rfl (y_move (v := .bool _) rfl) ?_
      refine to_cases (s := 22) rfl (fun hk2 => ?_) (fun hk2 => ?_)
      ·
        refine to_y 8 rfl (by kernel_rfl) rfl (y_load rfl rfl (.own inferInstance inferInstance)) ?_
        refine to_p 9 rfl (by kernel_rfl) rfl (y_fieldAddr rfl) ?_
        refine to_y 10 rfl (by kernel_rfl) rfl (y_load rfl rfl (.own inferInstance inferInstance)) ?_
        refine to_p 11 rfl (by kernel_rfl) rfl (y_shl rfl rfl (by omega)) ?_
        rw [hshl]
        refine to_p 12 rfl (by kernel_rfl) rfl (y_subI rfl rfl (by omega)) ?_
        refine to_p 13 rfl (by kernel_rfl) rfl (y_leq rfl rfl) ?_
        refine to_p 14 rfl (by kernel_rfl) rfl (y_pickT rfl rfl) ?_
        refine to_e 15 rfl (by kernel_rfl) rfl (e_call rfl (cmust_spec _) (by
          rintro _ _ _ _ ⟨rfl, rfl, ht, rfl⟩
          exact .retA rfl hM1 ⟨rfl, fun h => by first | (cases ht; done) | (simp at ht; omega) | omega, rfl⟩) ?_)
        rintro _ _ _ _ ⟨rfl, rfl, ht⟩
        refine ⟨⟨(by first | exact Le.refl _ | assumption), Keeps.mem⟩, ?_⟩
        refine to_nil (by kernel_rfl) (.then_normal (.sub (F' := [(0, _), (1, _), (2, _), (3, _), (4, _), (5, _), (6, _)]) (.cons rfl (.cons rfl (.cons rfl (.cons rfl (.cons rfl (.cons rfl (.cons rfl .nil))))))) (Jd2 _ _ _ _ ?_)))
        exact ⟨by first | (cases ht; done) | (simp at ht; omega) | omega, rfl, rfl, rfl, rfl⟩
      ·
        refine to_skip 8 rfl (by kernel_rfl) rfl ?_
        refine to_skip 9 rfl (by kernel_rfl) rfl ?_
        refine to_skip 10 rfl (by kernel_rfl) rfl ?_
        refine to_skip 11 rfl (by kernel_rfl) rfl ?_
        refine to_skip 12 rfl (by kernel_rfl) rfl ?_
        refine to_skip 13 rfl (by kernel_rfl) rfl ?_
        refine to_p 14 rfl (by kernel_rfl) rfl (y_pickF rfl rfl) ?_
        refine to_e 15 rfl (by kernel_rfl) rfl (e_call rfl (cmust_spec _) (by
          rintro _ _ _ _ ⟨rfl, rfl, ht, rfl⟩
          exact .retA rfl hM1 ⟨rfl, fun h => by first | (cases ht; done) | (simp at ht; omega) | omega, rfl⟩) ?_)
        rintro _ _ _ _ ⟨rfl, rfl, ht⟩
        refine ⟨⟨(by first | exact Le.refl _ | assumption), Keeps.mem⟩, ?_⟩
        refine to_nil (by kernel_rfl) (.then_normal (.sub (F' := [(0, _), (1, _), (2, _), (3, _), (4, _), (5, _), (6, _)]) (.cons rfl (.cons rfl (.cons rfl (.cons rfl (.cons rfl (.cons rfl (.cons rfl .nil))))))) (Jd2 _ _ _ _ ?_)))
        exact ⟨by first | (cases ht; done) | (simp at ht; omega) | omega, rfl, rfl, rfl, rfl⟩
    ·
      refine to_skip 3 rfl (by kernel_rfl) rfl ?_
      refine to_skip 4 rfl (by kernel_rfl) rfl ?_
      refine to_skip 5 rfl (by kernel_rfl) rfl ?_
      refine to_p 6 rfl (by kernel_rfl) rfl (y_pickF rfl rfl) ?_
      refine to_p 7 rfl (by kernel_rfl) rfl (y_move (v := .bool _) rfl) ?_
      refine to_skip 8 rfl (by kernel_rfl) rfl ?_
      refine to_skip 9 rfl (by kernel_rfl) rfl ?_
      refine to_skip 10 rfl (by kernel_rfl) rfl ?_
      refine to_skip 11 rfl (by kernel_rfl) rfl ?_
      refine to_skip 12 rfl (by kernel_rfl) rfl ?_
      refine to_skip 13 rfl (by kernel_rfl) rfl ?_
      refine to_p 14 rfl (by kernel_rfl) rfl (y_pickF rfl rfl) ?_
      refine to_e 15 rfl (by kernel_rfl) rfl (e_call rfl (cmust_spec _) (by
        rintro _ _ _ _ ⟨rfl, rfl, ht, rfl⟩
        exact .retA rfl hM1 ⟨rfl, fun h => by first | (cases ht; done) | (simp at ht; omega) | omega, rfl⟩) ?_)
      rintro _ _ _ _ ⟨rfl, rfl, ht⟩
      refine ⟨⟨(by first | exact Le.refl _ | assumption), Keeps.mem⟩, ?_⟩
      refine to_nil (by kernel_rfl) (.then_normal (.sub (F' := [(0, _), (1, _), (2, _), (3, _), (4, _), (5, _), (6, _)]) (.cons rfl (.cons rfl (.cons rfl (.cons rfl (.cons rfl (.cons rfl (.cons rfl .nil))))))) (Jd2 _ _ _ _ ?_)))
      exact ⟨by first | (cases ht; done) | (simp at ht; omega) | omega, rfl, rfl, rfl, rfl⟩
theorem Up_spec' (hg : ShaG M) (hk : KecG M) (hs : SetG M) (o : OtsV) {NA XA : Option Addr} {nl nc xl xc : Nat} {name x : List UInt8} (hname : Bytes M NA nl nc name) (hx : Bytes M XA xl xc x) (q : UInt32) (i f t : Int) :
    Con Tryz.prog 154 #[.agg (List.toArray o.cells), .slice NA nl nc, .int .u32 (q.toNat : Int), .int .i64 i, .int .i64 f, .int .i64 t, .slice XA xl xc] G M L (fun v M' L' => L' = L ∧ ∃ A' m' c', v = .slice A' m' c' ∧ Bytes M' A' m' c' (cUp o name q.toNat i f t x)) noPanic := by
  have hnls := hname.size
  have hxls := hx.size
  refine enter (args := [_, _, _, _, _, _, _]) (fn := Tryz.f154) ⟨Tryz.func154, rfl, by kernel_rfl, by kernel_rfl⟩ 17 rfl ?_
  refine x_seq (x_region ?_)
  refine tl_e rfl (e_box rfl (fun b1 => ?_))
  refine tl_e rfl (e_box rfl (fun b2 => ?_))
  refine tl_e rfl (e_box rfl (fun b3 => ?_))
  refine tl_e rfl (e_box rfl (fun b4 => ?_))
  refine tl_e rfl (e_box rfl (fun b5 => ?_))
  refine tl_e rfl (e_box rfl (fun b6 => ?_))
  refine tl_e rfl (e_box rfl (fun b7 => ?_))
  refine tl_y rfl (y_assign rfl) ?_
  refine tl_nil (.then_normal ?_)
  refine .sub (F' := [(7, _), (8, _), (9, _), (10, _), (11, _), (12, _), (13, _)]) (.cons rfl (.cons rfl (.cons rfl (.cons rfl (.cons rfl (.cons rfl (.cons rfl .nil))))))) ?_
  refine x_seq (x_region ?_)
  refine tl_y rfl (y_makeFunc rfl rfl) ?_
  refine tl_e rfl (e_call' rfl (caughtC_spec (first := []) (cap := [.pointer (some ⟨b1, 0, none⟩), .pointer (some ⟨b2, 0, none⟩), .pointer (some ⟨b4, 0, none⟩), .pointer (some ⟨b7, 0, none⟩), .pointer (some ⟨b5, 0, none⟩), .pointer (some ⟨b6, 0, none⟩), .pointer (some ⟨b3, 0, none⟩)]) (K := fun A' m' c' M' => (okR o nl i xl ∧ 0 ≤ f ∧ f ≤ t ∧ t ≤ (pw2 o.w.toNat : Nat) - 1) ∧ m' = o.n.toNat ∧ Bytes M' A' m' c' (upC o name q.toNat i.toNat f.toNat x (t - f).toNat)) (fun p => Up1_spec hg hk hs o hname hx q i f t)) ?_)
  rintro v M1 _ hM1 ⟨rfl, hv⟩
  obtain ⟨A1, m1, c1, rfl, hA1⟩ : ∃ A' m' c', v = .slice A' m' c' ∧ Bytes M1 A' m' c' (cUp o name q.toNat i f t x) := by
    rcases hv with ⟨A', m', c', rfl, hok, rfl, hA⟩ | ⟨rfl, hno⟩
    · exact ⟨_, _, _, rfl, by rw [cUp, hnls, hxls, if_pos hok]; exact hA⟩
    · exact ⟨_, _, _, rfl, by rw [cUp, hnls, hxls, if_neg hno]; exact Row.nil _ _⟩
  refine tl_y rfl (y_assign (v := .slice _ _ _) rfl) ?_
  refine tl_nil (.then_normal ?_)
  refine .sub (F' := [(14, _)]) (.cons rfl .nil) ?_
  refine x_ret (.dropTo L inferInstance (ret1 rfl rfl hM1 ⟨rfl, _, _, _, rfl, hA1⟩))
end
end Go.Proofs.YtiimjodbaogjbaaGreatDoor
set_option linter.unusedVariables false
set_option linter.unusedSimpArgs false
namespace Go.Proofs.YtiimjodbaogjbaaGreatDoor
open Go Go.Eng
section
variable {G : World} {M : Mem} {L : Own}
def eqTo (a b : List UInt8) (k : Nat) : Prop := ∀ j, j < k → a.getD j 0 = b.getD j 0
theorem same_spec {a b : List UInt8} {A B : Option Addr} {n c m d : Nat} (ha : Bytes M A n c a) (hb : Bytes M B m d b) :
    Con Tryz.prog 23 #[.slice A n c, .slice B m d] G M L (fun v M' L' => M = M' ∧ L = L' ∧ v = .bool (decide (a = b))) noPanic := by
  have hla := ha.size
  have hlb := hb.size
  have hmx := ha.max
  have hmle := ha.le
  refine enter (args := [_, _]) (fn := Tryz.f23) ⟨Tryz.func23, rfl, by kernel_rfl, by kernel_rfl⟩ 26 rfl ?_
  refine x_seq (x_region ?_)
  refine tl_y rfl (y_assign rfl) ?_
  refine tl_nil (.then_normal ?_)
  refine x_seq (x_seq (x_region ?_))
  refine tl_y rfl (y_move (v := .slice _ _ _) rfl) ?_
  refine tl_y rfl (y_len rfl) ?_
  refine tl_y rfl (y_move (v := .slice _ _ _) rfl) ?_
  refine tl_y rfl (y_len rfl) ?_
  refine tl_y rfl (y_neq rfl rfl) ?_
  refine tl_nil (.then_normal ?_)
  refine .sub (F' := [(0, _), (1, _), (4, _), (10, _)]) (.cons rfl (.cons rfl (.cons rfl (.cons rfl .nil)))) ?_
  refine x_cond rfl (fun hc1 => ?_) (fun hc1 => ?_)
  ·
    refine x_seq (x_region ?_)
    refine tl_y rfl (y_assign rfl) ?_
    refine tl_nil (.then_normal ?_)
    refine x_ret (.then_ret (ret1 rfl rfl (Le.refl _) ⟨rfl, rfl, by rw [decide_eq_false]; rintro rfl; omega⟩))
  ·
    obtain rfl : n = m := by omega
    refine x_skip (.then_normal ?_)
    refine x_seq (x_seq (x_region ?_))
    refine tl_y rfl (y_assign rfl) ?_
    refine tl_nil (.then_normal ?_)
    refine x_block ?_
    refine x_loop (I := fun m' F D M1 L1 => ∃ k : Nat, m' = n - k ∧ k ≤ n ∧ eqTo a b k ∧ D = [] ∧ M = M1 ∧ L = L1 ∧ F = [(0, .slice A n c), (1, .slice B n d), (4, .bool false), (5, .int .i64 k)]) (n) (F0 := [(0, _), (1, _), (4, _), (5, _)]) ?_ (.cons rfl (.cons rfl (.cons rfl (.cons rfl .nil)))) ?_  -- slots [0, 1, 4, 5], written [4, 5]
    · exact ⟨0, rfl, by omega, (fun j h => by omega), rfl, rfl, rfl, rfl⟩
    rintro m _ _ M1 L1 ⟨k, rfl, hk, heq, rfl, rfl, rfl, rfl⟩
    refine x_seq (x_seq (x_region ?_))
    refine tl_y rfl (y_move (v := .int _ _) rfl) ?_
    refine tl_y rfl (y_move (v := .slice _ _ _) rfl) ?_
    refine tl_y rfl (y_len rfl) ?_
    refine tl_y rfl (y_lss rfl rfl) ?_
    refine tl_nil (.then_normal ?_)
    refine x_cond rfl (fun hc2 => ?_) (fun hc2 => ?_)
    ·
      have hkn : k < n := by omega
      obtain ⟨p, o, rfl, hca⟩ := ha.byte (by omega)
      obtain ⟨p', o', rfl, hcb⟩ := hb.byte (by omega)
      refine x_skip (.then_normal ?_)
      refine .sub (F' := [(0, _), (1, _), (4, _), (5, _)]) (.cons rfl (.cons rfl (.cons rfl (.cons rfl .nil)))) ?_
      refine x_seq ?_
      refine x_block ?_
      refine x_seq ?_
      refine x_draw 9 hmix rfl ?_
      refine to_p 0 rfl (by kernel_rfl) rfl (y_move (v := .slice _ _ _) rfl) ?_
      refine to_p 1 rfl (by kernel_rfl) rfl (y_move (v := .int _ _) rfl) ?_
      refine to_p 2 rfl (by kernel_rfl) rfl (y_indexAddr rfl rfl (by omega)) ?_
      refine to_y 3 rfl (by kernel_rfl) rfl (y_load rfl rfl (.at_ (hca _ k hkn) (by omega))) ?_
      refine to_p 4 rfl (by kernel_rfl) rfl (y_move (v := .slice _ _ _) rfl) ?_
      refine to_p 5 rfl (by kernel_rfl) rfl (y_move (v := .int _ _) rfl) ?_
      refine to_p 6 rfl (by kernel_rfl) rfl (y_indexAddr rfl rfl (by omega)) ?_
      refine to_y 7 rfl (by kernel_rfl) rfl (y_load rfl rfl (.at_ (hcb _ k hkn) (by omega))) ?_
      refine to_p 8 rfl (by kernel_rfl) rfl (y_neq rfl rfl) ?_
      refine to_nil (by kernel_rfl) (.then_normal ?_)
      refine .sub (F' := [(0, _), (1, _), (4, _), (5, _), (25, _)]) (.cons rfl (.cons rfl (.cons rfl (.cons rfl (.cons rfl .nil))))) ?_
      refine x_cond rfl (fun hc3 => ?_) (fun hc3 => ?_)
      ·
        refine x_seq (x_region ?_)
        refine tl_y rfl (y_assign rfl) ?_
        refine tl_nil (.then_normal ?_)
        refine x_ret (.block_ret (.then_ret (.loop_ret (.block_ret (.then_ret (ret1 rfl rfl (Le.refl _) ⟨rfl, rfl, by rw [decide_eq_false]; rintro rfl; exact hc3 rfl⟩))))))
      ·
        refine x_skip (.block_normal (.then_normal ?_))
        refine x_region ?_
        refine tl_y rfl (y_move (v := .int _ _) rfl) ?_
        refine tl_y rfl (y_addI rfl rfl (by omega)) ?_
        refine tl_y rfl (y_assign (v := .int _ _) rfl) ?_
        refine tl_nil (.loop_next (m' := n - (k + 1)) (by omega) (F' := [(0, _), (1, _), (4, _), (5, _)]) (.cons rfl (.cons rfl (.cons rfl (.cons rfl .nil)))) ?_)
        exact ⟨k + 1, rfl, by omega, (fun j hj => by
          rcases Nat.lt_or_ge j k with hlt | hge
          · exact heq j hlt
          · obtain rfl : j = k := by omega
            exact UInt8.toNat_inj.1 (by omega)), rfl, rfl, rfl, rfl⟩
    ·
      refine x_exit (.then_exit (.loop_exit (.block_exit (.then_normal ?_))))
      refine .sub (F' := []) .nil ?_
      refine x_seq (x_region ?_)
      refine tl_y rfl (y_assign rfl) ?_
      refine tl_nil (.then_normal ?_)
      refine x_ret (ret1 rfl rfl (Le.refl _) ⟨rfl, rfl, by
        rw [decide_eq_true]
        apply List.ext_getElem (by omega)
        intro i h1 h2
        have := heq i (by omega)
        simpa [List.getD_eq_getElem?_getD, h1, h2] using this⟩)
end
end Go.Proofs.YtiimjodbaogjbaaGreatDoor
set_option linter.unusedVariables false
set_option linter.unusedSimpArgs false
set_option linter.constructorNameAsVariable false
namespace Go.Proofs.YtiimjodbaogjbaaGreatDoor
open Go Go.Eng
theorem putB_cons : ∀ (k v : Nat), putB v (k + 1) = UInt8.ofNat (v / 256 ^ k % 256) :: putB v k
  | 0, v => by simp [putB]
  | k + 1, v => by
    rw [putB, putB_cons k (v / 256), putB, Nat.div_div_eq_div_mul, Nat.pow_succ, Nat.mul_comm 256]
    rfl
section
variable {G : World} {M : Mem} {L R : Own}
theorem RPut_spec (v : UInt64) (n : Nat) (hn : n ≤ 8) :
    Con Tryz.prog 19 #[.int .u64 (v.toNat : Int), .int .i64 (n : Int)] G M L (fun r M' L' => L = L' ∧ ∃ A c, r = .slice A n c ∧ Bytes M' A n c (putB v.toNat n)) noPanic := by
  have hv := v.toNat_lt
  refine enter (args := [_, _]) (fn := Tryz.f19) ⟨Tryz.func19, rfl, by kernel_rfl, by kernel_rfl⟩ 28 rfl ?_
  refine x_seq (x_region ?_)
  refine tl_y rfl (y_assign rfl) ?_
  refine tl_nil (.then_normal ?_)
  refine x_seq (x_seq (x_region ?_))
  refine tl_y rfl (y_move (v := .int _ _) rfl) ?_
  refine tl_y rfl (y_lss rfl rfl) ?_
  refine tl_y rfl (y_move (v := .bool _) rfl) ?_
  refine tl_set (s := 9) (u := .bool false) rfl (by rw [decide_eq_false]; omega) ?_
  refine tl_y rfl (y_move (v := .int _ _) rfl) ?_
  refine tl_y rfl (y_gtr rfl rfl) ?_
  refine tl_y rfl (y_pickF rfl rfl) ?_
  refine tl_nil (.then_normal ?_)
  refine .sub (F' := [(0, _), (1, _), (12, _)]) (.cons rfl (.cons rfl (.cons rfl .nil))) ?_
  refine x_false rfl (by rw [decide_eq_false]; omega) ?_
  refine x_skip (.then_normal ?_)
  refine x_seq (x_region ?_)
  refine tl_e rfl (e_buildSlice0 (fun b1 => ?_))
  refine tl_y rfl (y_assign (v := .slice _ _ _) rfl) ?_
  refine tl_nil (.then_normal ?_)
  refine x_seq (x_seq (x_region ?_))
  refine tl_y rfl (y_assign rfl) ?_
  refine tl_nil (.then_normal ?_)
  refine x_block ?_
  refine x_loop (I := fun m' F D M1 L1 => ∃ (k q : Nat) (A : Option Addr) (c : Nat) (E : Own), m' = n - k ∧ k ≤ n ∧ q = v.toNat / 256 ^ k ∧ q ≤ v.toNat ∧ OwnRow 5 1 A k c ((putB v.toNat k).map bv) E ∧ D = [] ∧ M = M1 ∧ L1 = E ++ L ∧ F = [(0, .int .u64 (q : Int)), (1, .int .i64 n), (5, .slice A k c), (6, .int .i64 k)]) (n) (F0 := [(0, _), (1, _), (5, _), (6, _)]) ?_ (.cons rfl (.cons rfl (.cons rfl (.cons rfl .nil)))) ?_  -- slots [0, 1, 5, 6], written [0, 5, 6]
  · exact ⟨0, v.toNat, _, _, _, rfl, by omega, by rw [Nat.pow_zero, Nat.div_one], Nat.le_refl _, OwnRow.made00, rfl, rfl, rfl, rfl⟩
  rintro m _ _ M1 L1 ⟨k, q, A, c, E, rfl, hk, hq, hqv, hE, rfl, rfl, rfl, rfl⟩
  refine x_seq (x_seq (x_region ?_))
  refine tl_y rfl (y_move (v := .int _ _) rfl) ?_
  refine tl_y rfl (y_move (v := .int _ _) rfl) ?_
  refine tl_y rfl (y_lss rfl rfl) ?_
  refine tl_nil (.then_normal ?_)
  refine x_cond rfl (fun hc2 => ?_) (fun hc2 => ?_)
  ·
    have hkn : k < n := by omega
    have hq2 : q / 256 = v.toNat / 256 ^ (k + 1) := by rw [hq, Nat.div_div_eq_div_mul, Nat.pow_succ]
    refine x_skip (.then_normal ?_)
    refine x_seq ?_
    refine x_block ?_
    refine x_seq (x_region ?_)
    refine tl_y rfl (y_move (v := .int _ _) rfl) ?_
    refine tl_y rfl (y_remI rfl rfl (by omega)) ?_
    refine tl_y rfl (y_convN8 rfl (by omega)) ?_
    rw [show (q : Int) % 256 = (((UInt8.ofNat (q % 256)).toNat : Nat) : Int) by rw [UInt8.toNat_ofNat']; omega]
    refine tl_e rfl (e_buildSlice rfl (by decide) (fun b2 => ?_))
    refine tl_y rfl (y_move (v := .slice _ _ _) rfl) ?_
    refine tl_e rfl (e_append1 (by decide) rfl rfl (OwnRow.made (n := 1) rfl (by omega)) (src_in (hE.in_ inferInstance (by omega))) (all_one_bv _) (by omega) (by omega) (fun A2 c2 E2 hE2 => ?_))
    rw [show 1 + k = k + 1 by omega] at hE2 ⊢
    refine .dropTo (E2 ++ L) inferInstance ?_
    refine tl_y rfl (y_assign (v := .slice _ _ _) rfl) ?_
    refine tl_nil (.then_normal ?_)
    refine .sub (F' := [(0, _), (1, _), (5, _), (6, _)]) (.cons rfl (.cons rfl (.cons rfl (.cons rfl .nil)))) ?_
    refine x_region ?_
    refine tl_y rfl (y_move (v := .int _ _) rfl) ?_
    refine tl_y rfl (y_quoN64 rfl rfl (by omega)) ?_
    refine tl_y rfl (y_assign (v := .int _ _) rfl) ?_
    refine tl_nil (.block_normal (.then_normal ?_))
    refine x_region ?_
    refine tl_y rfl (y_move (v := .int _ _) rfl) ?_
    refine tl_y rfl (y_addI rfl rfl (by omega)) ?_
    refine tl_y rfl (y_assign (v := .int _ _) rfl) ?_
    refine tl_nil (.loop_next (m' := n - (k + 1)) (by omega) (F' := [(0, _), (1, _), (5, _), (6, _)]) (.cons rfl (.cons rfl (.cons rfl (.cons rfl .nil)))) ?_)
    exact ⟨k + 1, q / 256, A2, c2, E2, rfl, by omega, hq2, by omega, by rw [putB_cons, ← hq]; exact hE2, rfl, rfl, rfl, rfl⟩
  ·
    refine x_exit (.then_exit (.loop_exit (.block_exit (.then_normal ?_))))
    refine .sub (F' := [(5, _)]) (.cons rfl .nil) ?_
    refine x_seq (x_region ?_)
    refine tl_y rfl (y_move (v := .slice _ _ _) rfl) ?_
    refine tl_y rfl (y_assign (v := .slice _ _ _) rfl) ?_
    refine tl_nil (.then_normal ?_)
    obtain rfl : k = n := by omega
    refine x_ret (.pubRow hE fun M' hle hr => ret1 rfl rfl hle ⟨rfl, _, _, rfl, hr⟩)
theorem RCat_own {A : Option Addr} {n c : Nat} {vs : List Value} {bss : List (List UInt8)} (h : Row M 1 A n c vs) (hb : BRows M vs bss) (hn : bss.flatten.length ≤ 1099511627776) :
    Con Tryz.prog 89 #[.slice A n c] G M L (fun v M' L' => M = M' ∧ ∃ A' c' E, v = .slice A' bss.flatten.length c' ∧ OwnRow 5 1 A' bss.flatten.length c' (bss.flatten.map bv) E ∧ L' = E ++ L) noPanic := by
  have hvl := hb.len
  have hnl : vs.length = n := by have := h.len; omega
  have hmx := h.max
  have hle := h.le
  refine enter (args := [_]) (fn := Tryz.f89) ⟨Tryz.func89, rfl, by kernel_rfl, by kernel_rfl⟩ 18 rfl ?_
  refine x_seq (x_region ?_)
  refine tl_y rfl (y_assign rfl) ?_
  refine tl_nil (.then_normal ?_)
  refine x_seq (x_region ?_)
  refine tl_y rfl (y_assign rfl) ?_
  refine tl_nil (.then_normal ?_)
  refine x_seq (x_seq (x_region ?_))
  refine tl_y rfl (y_assign rfl) ?_
  refine tl_nil (.then_normal ?_)
  refine x_block ?_
  refine x_loop (I := fun m' F D M1 L1 => ∃ (k : Nat) (A1 : Option Addr) (c1 : Nat) (E : Own), m' = n - k ∧ k ≤ n ∧ OwnRow 5 1 A1 (bss.take k).flatten.length c1 ((bss.take k).flatten.map bv) E ∧ D = [] ∧ M = M1 ∧ L1 = E ++ L ∧ F = [(0, .slice A n c), (3, .slice A1 (bss.take k).flatten.length c1), (4, .int .i64 k)]) (n) (F0 := [(0, _), (3, _), (4, _)]) ?_ (.cons rfl (.cons rfl (.cons rfl .nil))) ?_  -- slots [0, 3, 4], written [3, 4]
  · exact ⟨0, none, 0, [], rfl, by omega, .nil, rfl, rfl, rfl, rfl⟩
  rintro m _ _ M1 L1 ⟨k, A1, c1, E, rfl, hk, hE, rfl, rfl, rfl, rfl⟩
  refine x_seq (x_seq (x_region ?_))
  refine tl_y rfl (y_move (v := .int _ _) rfl) ?_
  refine tl_y rfl (y_move (v := .slice _ _ _) rfl) ?_
  refine tl_y rfl (y_len rfl) ?_
  refine tl_y rfl (y_lss rfl rfl) ?_
  refine tl_nil (.then_normal ?_)
  refine x_cond rfl (fun hc1 => ?_) (fun hc1 => ?_)
  ·
    have hkn : k < n := by omega
    obtain ⟨g, o, rfl, hcell⟩ := h.addr (by omega)
    obtain ⟨A2, n2, c2, hv2, hb2⟩ := hb.get k (by omega)
    have hn2 := hb2.size
    have hf1 := flatten_take_le bss (k + 1)
    have hf2 : (bss.take (k + 1)).flatten = (bss.take k).flatten ++ bss.getD k [] := by
      rw [take_snoc bss k [] (by omega), List.flatten_append, List.flatten_singleton]
    have hf3 : (bss.take (k + 1)).flatten.length = (bss.take k).flatten.length + n2 := by rw [hf2, List.length_append, hn2]
    refine x_skip (.then_normal ?_)
    refine .sub (F' := [(0, _), (3, _), (4, _)]) (.cons rfl (.cons rfl (.cons rfl .nil))) ?_
    refine x_seq ?_
    refine x_block ?_
    refine x_region ?_
    refine tl_y rfl (y_move (v := .slice _ _ _) rfl) ?_
    refine tl_y rfl (y_move (v := .slice _ _ _) rfl) ?_
    refine tl_y rfl (y_move (v := .int _ _) rfl) ?_
    refine tl_y rfl (y_indexAddr rfl rfl (by omega)) ?_
    refine tl_y rfl (y_load rfl rfl (.at_ (hcell _ k _ hv2) (by omega))) ?_
    refine tl_e rfl (e_append (by decide) rfl rfl hE (.row hb2) (all_one_bv _) (by omega) (by omega) (fun A3 c3 E3 hE3 => ?_))
    rw [← hf3, ← List.map_append, ← hf2] at hE3; rw [← hf3]
    refine tl_y rfl (y_assign (v := .slice _ _ _) rfl) ?_
    refine tl_nil (.block_normal (.then_normal ?_))
    refine .sub (F' := [(0, _), (3, _), (4, _)]) (.cons rfl (.cons rfl (.cons rfl .nil))) ?_
    refine x_region ?_
    refine tl_y rfl (y_move (v := .int _ _) rfl) ?_
    refine tl_y rfl (y_addI rfl rfl (by omega)) ?_
    refine tl_y rfl (y_assign (v := .int _ _) rfl) ?_
    refine tl_nil (.loop_next (m' := n - (k + 1)) (by omega) (F' := [(0, _), (3, _), (4, _)]) (.cons rfl (.cons rfl (.cons rfl .nil))) ?_)
    exact ⟨k + 1, A3, c3, E3, rfl, by omega, hE3, rfl, rfl, rfl, rfl⟩
  ·
    refine x_exit (.then_exit (.loop_exit (.block_exit (.then_normal ?_))))
    refine .sub (F' := [(3, _)]) (.cons rfl .nil) ?_
    refine x_seq (x_region ?_)
    refine tl_y rfl (y_move (v := .slice _ _ _) rfl) ?_
    refine tl_y rfl (y_assign (v := .slice _ _ _) rfl) ?_
    refine tl_nil (.then_normal ?_)
    refine x_ret (ret1 rfl rfl (Le.refl _) (by
      obtain rfl : k = bss.length := by omega
      rw [List.take_length] at hE ⊢
      exact ⟨rfl, A1, c1, E, rfl, hE, rfl⟩))
end
end Go.Proofs.YtiimjodbaogjbaaGreatDoor
