/-
Contracts of functions, each proved by a walk through its code.
-/
import Derived.Test.YtiimjodbaogjbaaGreatDoorSetsEtc
import Derived.Test.YtiimjodbaogjbaaGreatDoorBaseEtc
import Derived.Test.YtiimjodbaogjbaaGreatDoorEngIEtc
import Derived.Test.YtiimjodbaogjbaaGreatDoorEngWEtc
import Derived.Test.YtiimjodbaogjbaaGreatDoorShaEtc
import Derived.Test.YtiimjodbaogjbaaGreatDoorShakeEtc
set_option linter.unusedVariables false
set_option linter.unusedSimpArgs false
set_option linter.constructorNameAsVariable false
namespace Go.Proofs.YtiimjodbaogjbaaGreatDoor
open Go Go.Eng
section
variable {G : World} {M : Mem} {L : Own}
theorem right_spec (hs : SetG M) (o : OtsV) {NA XA : Option Addr} {nl nc xl xc : Nat} (i : Int) :
    Con Tryz.prog 194 #[.agg (List.toArray o.cells), .slice NA nl nc, .int .i64 i, .slice XA xl xc] G M L (fun v M' L' => L' = L ∧ okR o nl i xl) (fun ch M' L' => L' = L ∧ ¬ okR o nl i xl ∧ ch = wrongc) := by
  refine enter (args := [_, _, _, _]) (fn := Tryz.f194) ⟨Tryz.func194, rfl, by kernel_rfl, by kernel_rfl⟩ 46 rfl ?_
  refine x_seq (x_region ?_)
  refine tl_e rfl (e_box rfl (fun b1 => ?_))
  refine tl_nil (.then_normal ?_)
  refine x_seq (x_region ?_)
  refine tl_y rfl (y_fieldAddr rfl) ?_
  refine tl_y rfl (y_load rfl rfl (.own inferInstance inferInstance)) ?_
  refine tl_e rfl (e_call' rfl (Ots_spec hs o.code) ?_)
  rintro _ M1 _ hM1 ⟨rfl, rfl⟩
  refine tl_y rfl (y_move (v := .tuple _) rfl) ?_
  refine tl_y rfl (y_extract rfl) ?_
  refine tl_y rfl (y_extract rfl) ?_
  refine tl_e rfl (e_alloc (fun b2 => ?_))
  refine tl_e rfl (e_store rfl rfl (by rfl) (by rfl) inferInstance inferInstance inferInstance ?_)
  refine tl_y rfl (y_assign (v := .int _ _) rfl) ?_
  refine tl_nil (.then_normal ?_)
  refine .sub (F' := [(1, _), (2, _), (3, _), (4, _), (8, _), (9, _)]) (.cons rfl (.cons rfl (.cons rfl (.cons rfl (.cons rfl (.cons rfl .nil)))))) ?_
  refine x_region ?_
  refine tl_y rfl (y_move (v := .int _ _) rfl) ?_
  refine tl_y rfl (y_eql rfl rfl) ?_
  refine tl_y rfl (y_move (v := .bool _) rfl) ?_
  refine tl_cases (s := 18) rfl (fun hk1 => ?_) (fun hk1 => ?_)
  ·
    refine tl_y rfl (y_loadAgg rfl rfl (.own inferInstance inferInstance)) ?_
    refine tl_y rfl (y_loadAgg rfl rfl (.own inferInstance inferInstance)) ?_
    refine tl_y rfl (y_eqlS rfl rfl eqs27) ?_
    refine tl_y rfl (y_pickT rfl rfl) ?_
    refine tl_y rfl (y_move (v := .bool _) rfl) ?_
    refine tl_cases (s := 23) rfl (fun hk2 => ?_) (fun hk2 => ?_)
    ·
      refine tl_y rfl (y_move (v := .slice _ _ _) rfl) ?_
      refine tl_y rfl (y_len rfl) ?_
      refine tl_y rfl (y_eql rfl rfl) ?_
      refine tl_y rfl (y_pickT rfl rfl) ?_
      refine tl_y rfl (y_move (v := .bool _) rfl) ?_
      refine tl_cases (s := 28) rfl (fun hk3 => ?_) (fun hk3 => ?_)
      ·
        refine tl_y rfl (y_move (v := .int _ _) rfl) ?_
        refine tl_y rfl (y_geq rfl rfl) ?_
        refine tl_y rfl (y_pickT rfl rfl) ?_
        refine tl_y rfl (y_move (v := .bool _) rfl) ?_
        refine tl_cases (s := 32) rfl (fun hk4 => ?_) (fun hk4 => ?_)
        ·
          refine tl_y rfl (y_move (v := .int _ _) rfl) ?_
          refine tl_y rfl (y_fieldAddr rfl) ?_
          refine tl_y rfl (y_load rfl rfl (.own inferInstance inferInstance)) ?_
          refine tl_y rfl (y_lss rfl rfl) ?_
          refine tl_y rfl (y_pickT rfl rfl) ?_
          refine tl_y rfl (y_move (v := .bool _) rfl) ?_
          refine tl_cases (s := 38) rfl (fun hk5 => ?_) (fun hk5 => ?_)
          ·
            refine tl_y rfl (y_move (v := .slice _ _ _) rfl) ?_
            refine tl_y rfl (y_len rfl) ?_
            refine tl_y rfl (y_fieldAddr rfl) ?_
            refine tl_y rfl (y_load rfl rfl (.own inferInstance inferInstance)) ?_
            refine tl_y rfl (y_eql rfl rfl) ?_
            refine tl_y rfl (y_pickT rfl rfl) ?_
            refine tl_e rfl (e_call rfl (cmust_spec _) (by
              rintro _ _ _ _ ⟨rfl, rfl, ht, rfl⟩
              refine TP.dropTo L inferInstance (.retA rfl hM1 ⟨rfl, ?_, rfl⟩)
              rintro ⟨a1, a2, a3, a4, a5, a6⟩
              first | (cases ht; done) | exact hk1 a1 | exact hk2 (eq_ots a2) | omega | (simp at ht; omega)) ?_)
            rintro _ _ _ _ ⟨rfl, rfl, ht⟩
            refine tl_nil (.dropTo L inferInstance (end0 rfl hM1 ⟨rfl, by first | (cases ht; done) | (simp at ht; exact ⟨hk1, ots_eq hk2, by omega, by omega, by omega, by omega⟩)⟩))
          ·
            refine tl_skip rfl ?_
            refine tl_skip rfl ?_
            refine tl_skip rfl ?_
            refine tl_skip rfl ?_
            refine tl_skip rfl ?_
            refine tl_y rfl (y_pickF rfl rfl) ?_
            refine tl_e rfl (e_call rfl (cmust_spec _) (by
              rintro _ _ _ _ ⟨rfl, rfl, ht, rfl⟩
              refine TP.dropTo L inferInstance (.retA rfl hM1 ⟨rfl, ?_, rfl⟩)
              rintro ⟨a1, a2, a3, a4, a5, a6⟩
              first | (cases ht; done) | exact hk1 a1 | exact hk2 (eq_ots a2) | omega | (simp at ht; omega)) ?_)
            rintro _ _ _ _ ⟨rfl, rfl, ht⟩
            refine tl_nil (.dropTo L inferInstance (end0 rfl hM1 ⟨rfl, by first | (cases ht; done) | (simp at ht; exact ⟨hk1, ots_eq hk2, by omega, by omega, by omega, by omega⟩)⟩))
        ·
          refine tl_skip rfl ?_
          refine tl_skip rfl ?_
          refine tl_skip rfl ?_
          refine tl_skip rfl ?_
          refine tl_y rfl (y_pickF rfl rfl) ?_
          refine tl_y rfl (y_move (v := .bool _) rfl) ?_
          refine tl_skip rfl ?_
          refine tl_skip rfl ?_
          refine tl_skip rfl ?_
          refine tl_skip rfl ?_
          refine tl_skip rfl ?_
          refine tl_y rfl (y_pickF rfl rfl) ?_
          refine tl_e rfl (e_call rfl (cmust_spec _) (by
            rintro _ _ _ _ ⟨rfl, rfl, ht, rfl⟩
            refine TP.dropTo L inferInstance (.retA rfl hM1 ⟨rfl, ?_, rfl⟩)
            rintro ⟨a1, a2, a3, a4, a5, a6⟩
            first | (cases ht; done) | exact hk1 a1 | exact hk2 (eq_ots a2) | omega | (simp at ht; omega)) ?_)
          rintro _ _ _ _ ⟨rfl, rfl, ht⟩
          refine tl_nil (.dropTo L inferInstance (end0 rfl hM1 ⟨rfl, by first | (cases ht; done) | (simp at ht; exact ⟨hk1, ots_eq hk2, by omega, by omega, by omega, by omega⟩)⟩))
      ·
        refine tl_skip rfl ?_
        refine tl_skip rfl ?_
        refine tl_y rfl (y_pickF rfl rfl) ?_
        refine tl_y rfl (y_move (v := .bool _) rfl) ?_
        refine tl_skip rfl ?_
        refine tl_skip rfl ?_
        refine tl_skip rfl ?_
        refine tl_skip rfl ?_
        refine tl_y rfl (y_pickF rfl rfl) ?_
        refine tl_y rfl (y_move (v := .bool _) rfl) ?_
        refine tl_skip rfl ?_
        refine tl_skip rfl ?_
        refine tl_skip rfl ?_
        refine tl_skip rfl ?_
        refine tl_skip rfl ?_
        refine tl_y rfl (y_pickF rfl rfl) ?_
        refine tl_e rfl (e_call rfl (cmust_spec _) (by
          rintro _ _ _ _ ⟨rfl, rfl, ht, rfl⟩
          refine TP.dropTo L inferInstance (.retA rfl hM1 ⟨rfl, ?_, rfl⟩)
          rintro ⟨a1, a2, a3, a4, a5, a6⟩
          first | (cases ht; done) | exact hk1 a1 | exact hk2 (eq_ots a2) | omega | (simp at ht; omega)) ?_)
        rintro _ _ _ _ ⟨rfl, rfl, ht⟩
        refine tl_nil (.dropTo L inferInstance (end0 rfl hM1 ⟨rfl, by first | (cases ht; done) | (simp at ht; exact ⟨hk1, ots_eq hk2, by omega, by omega, by omega, by omega⟩)⟩))
    ·
      refine tl_skip rfl ?_
      refine tl_skip rfl ?_
      refine tl_skip rfl ?_
      refine tl_y rfl (y_pickF rfl rfl) ?_
      refine tl_y rfl (y_move (v := .bool _) rfl) ?_
      refine tl_skip rfl ?_
      refine tl_skip rfl ?_
      refine tl_y rfl (y_pickF rfl rfl) ?_
      refine tl_y rfl (y_move (v := .bool _) rfl) ?_
      refine tl_skip rfl ?_
      refine tl_skip rfl ?_
      refine tl_skip rfl ?_
      refine tl_skip rfl ?_
      refine tl_y rfl (y_pickF rfl rfl) ?_
      refine tl_y rfl (y_move (v := .bool _) rfl) ?_
      refine tl_skip rfl ?_
      refine tl_skip rfl ?_
      refine tl_skip rfl ?_
      refine tl_skip rfl ?_
      refine tl_skip rfl ?_
      refine tl_y rfl (y_pickF rfl rfl) ?_
      refine tl_e rfl (e_call rfl (cmust_spec _) (by
        rintro _ _ _ _ ⟨rfl, rfl, ht, rfl⟩
        refine TP.dropTo L inferInstance (.retA rfl hM1 ⟨rfl, ?_, rfl⟩)
        rintro ⟨a1, a2, a3, a4, a5, a6⟩
        first | (cases ht; done) | exact hk1 a1 | exact hk2 (eq_ots a2) | omega | (simp at ht; omega)) ?_)
      rintro _ _ _ _ ⟨rfl, rfl, ht⟩
      refine tl_nil (.dropTo L inferInstance (end0 rfl hM1 ⟨rfl, by first | (cases ht; done) | (simp at ht; exact ⟨hk1, ots_eq hk2, by omega, by omega, by omega, by omega⟩)⟩))
  ·
    refine tl_skip rfl ?_
    refine tl_skip rfl ?_
    refine tl_skip rfl ?_
    refine tl_y rfl (y_pickF rfl rfl) ?_
    refine tl_y rfl (y_move (v := .bool _) rfl) ?_
    refine tl_skip rfl ?_
    refine tl_skip rfl ?_
    refine tl_skip rfl ?_
    refine tl_y rfl (y_pickF rfl rfl) ?_
    refine tl_y rfl (y_move (v := .bool _) rfl) ?_
    refine tl_skip rfl ?_
    refine tl_skip rfl ?_
    refine tl_y rfl (y_pickF rfl rfl) ?_
    refine tl_y rfl (y_move (v := .bool _) rfl) ?_
    refine tl_skip rfl ?_
    refine tl_skip rfl ?_
    refine tl_skip rfl ?_
    refine tl_skip rfl ?_
    refine tl_y rfl (y_pickF rfl rfl) ?_
    refine tl_y rfl (y_move (v := .bool _) rfl) ?_
    refine tl_skip rfl ?_
    refine tl_skip rfl ?_
    refine tl_skip rfl ?_
    refine tl_skip rfl ?_
    refine tl_skip rfl ?_
    refine tl_y rfl (y_pickF rfl rfl) ?_
    refine tl_e rfl (e_call rfl (cmust_spec _) (by
      rintro _ _ _ _ ⟨rfl, rfl, ht, rfl⟩
      refine TP.dropTo L inferInstance (.retA rfl hM1 ⟨rfl, ?_, rfl⟩)
      rintro ⟨a1, a2, a3, a4, a5, a6⟩
      first | (cases ht; done) | exact hk1 a1 | exact hk2 (eq_ots a2) | omega | (simp at ht; omega)) ?_)
    rintro _ _ _ _ ⟨rfl, rfl, ht⟩
    refine tl_nil (.dropTo L inferInstance (end0 rfl hM1 ⟨rfl, by first | (cases ht; done) | (simp at ht; exact ⟨hk1, ots_eq hk2, by omega, by omega, by omega, by omega⟩)⟩))
theorem step_spec (hg : ShaG M) (hk : KecG M) (o : OtsV) (hok : okC o.kind o.n) {NA XA : Option Addr} {nl nc xl xc : Nat} {name x : List UInt8} (hname : Bytes M NA nl nc name) (hx : Bytes M XA xl xc x) (hnl : nl ≤ 1000000) (hxl : xl ≤ 1000000) (q : UInt32) (i j : Nat) (hi : i ≤ 65535) (hj : j ≤ 255) :
    Con Tryz.prog 197 #[.agg (List.toArray o.cells), .slice NA nl nc, .int .u32 (q.toNat : Int), .int .i64 (i : Int), .int .i64 (j : Int), .slice XA xl xc] G M L (fun v M' L' => L' = L ∧ ∃ A c, v = .slice A o.n.toNat c ∧ Bytes M' A o.n.toNat c (csum o.kind o.n (stepT name q.toNat i j x))) noPanic := by
  have hnls := hname.size
  have hxls := hx.size
  have hq := q.toNat_lt
  refine enter (args := [_, _, _, _, _, _]) (fn := Tryz.f197) ⟨Tryz.func197, rfl, by kernel_rfl, by kernel_rfl⟩ 30 rfl ?_
  refine x_seq (x_region ?_)
  refine tl_e rfl (e_box rfl (fun b1 => ?_))
  refine tl_y rfl (y_assign rfl) ?_
  refine tl_nil (.then_normal ?_)
  refine x_seq ?_
  refine x_draw 18 hmix rfl ?_
  refine to_p 0 rfl (by kernel_rfl) rfl (y_fieldAddr rfl) ?_
  refine to_y 1 rfl (by kernel_rfl) rfl (y_load rfl rfl (.own inferInstance inferInstance)) ?_
  refine to_p 2 rfl (by kernel_rfl) rfl (y_fieldAddr rfl) ?_
  refine to_y 3 rfl (by kernel_rfl) rfl (y_load rfl rfl (.own inferInstance inferInstance)) ?_
  refine to_p 4 rfl (by kernel_rfl) rfl (y_move (v := .slice _ _ _) rfl) ?_
  refine to_p 5 rfl (by kernel_rfl) rfl (y_move (v := .int _ _) rfl) ?_
  refine to_p 6 rfl (by kernel_rfl) rfl (y_convN64 rfl (by omega)) ?_
  refine to_p 8 rfl (by kernel_rfl) rfl (y_move (v := .int _ _) rfl) ?_
  refine to_p 9 rfl (by kernel_rfl) rfl (y_convN64 rfl (by omega)) ?_
  refine to_p 11 rfl (by kernel_rfl) rfl (y_move (v := .int _ _) rfl) ?_
  refine to_p 12 rfl (by kernel_rfl) rfl (y_convN64 rfl (by omega)) ?_
  refine to_p 14 rfl (by kernel_rfl) rfl (y_move (v := .slice _ _ _) rfl) ?_
  refine to_e 7 rfl (by kernel_rfl) rfl (e_call' rfl (PutV_spec q.toNat 4 (by omega) (by omega)) ?_)
  rintro _ M1 _ hM1 ⟨rfl, A1, c1, rfl, hA1⟩
  refine ⟨⟨(by first | exact Le.refl _ | assumption), Keeps.mem⟩, ?_⟩
  refine to_e 10 rfl (by kernel_rfl) rfl (e_call' rfl (PutV_spec i 2 (by omega) (by omega)) ?_)
  rintro _ M2 _ hM2 ⟨rfl, A2, c2, rfl, hA2⟩
  refine ⟨⟨hM1.trans hM2, Keeps.mem⟩, ?_⟩
  refine to_e 13 rfl (by kernel_rfl) rfl (e_call' rfl (PutV_spec j 1 (by omega) (by omega)) ?_)
  rintro _ M3 _ hM3 ⟨rfl, A3, c3, rfl, hA3⟩
  have hm3 := hM1.trans (hM2.trans hM3)
  refine ⟨⟨hm3, Keeps.mem⟩, ?_⟩
  refine to_e 15 rfl (by kernel_rfl) rfl (e_buildSlice rfl (by decide) (fun b2 => ?_))
  refine ⟨⟨hm3, Keeps.mem⟩, ?_⟩
  refine .pub b2 inferInstance (fun M4 hM4 hb2 => ?_)
  have hm4 := hm3.trans hM4
  have hfl : [name, putB q.toNat 4, putB i 2, putB j 1, x].flatten = stepT name q.toNat i j x := by simp [stepT]
  have hfll : (stepT name q.toNat i j x).length = nl + 7 + xl := by
    rw [stepT, List.length_append, List.length_append, List.length_append, List.length_append, putB_length, putB_length, putB_length]; omega
  refine to_e 16 rfl (by kernel_rfl) rfl (e_call rfl (csum_spec (hg.mono hm4) (hk.mono hm4) o.kind o.n (Row.whole hb2 rfl (by omega)) (.cons (hname.mono hm4) (.cons (hA1.mono (hM2.trans (hM3.trans hM4))) (.cons (hA2.mono (hM3.trans hM4)) (.cons (hA3.mono hM4) (.cons (hx.mono hm4) .nil))))) (by rw [hfl, hfll]; omega)) (by
    rintro _ M7 _ hM7 ⟨_, hno, _⟩
    exact absurd hok hno) ?_)
  rintro _ M7 _ hM7 ⟨rfl, _, A7, c7, rfl, hA7⟩
  rw [hfl] at hA7
  refine ⟨⟨hm4.trans hM7, Keeps.mem⟩, ?_⟩
  refine to_p 17 rfl (by kernel_rfl) rfl (y_assign (v := .slice _ _ _) rfl) ?_
  refine to_nil (by kernel_rfl) (.then_normal ?_)
  refine .sub (F' := [(12, _)]) (.cons rfl .nil) ?_
  refine x_ret (.dropTo L inferInstance (ret1 rfl rfl (hm4.trans hM7) ⟨rfl, _, _, rfl, hA7⟩))
end
end Go.Proofs.YtiimjodbaogjbaaGreatDoor
set_option linter.unusedVariables false
set_option linter.unusedSimpArgs false
set_option linter.constructorNameAsVariable false
namespace Go.Proofs.YtiimjodbaogjbaaGreatDoor
open Go Go.Eng
theorem upC_length {o : OtsV} (hok : okC o.kind o.n) (hsha : ∀ t, (sha t).length = 32) (name : List UInt8) (q i f : Nat) {x : List UInt8} (hx : (x.length : Int) = o.n) (k : Nat) : ((upC o name q i f x k).length : Int) = o.n := by
  cases k with
  | zero => exact hx
  | succ k =>
    rw [upC, csum_length hok _ (hsha _)]
    rcases hok.2 with h | h <;> rw [h] <;> rfl
section
variable {G : World} {M : Mem} {L : Own}
theorem Up1_spec (hg : ShaG M) (hk : KecG M) (hs : SetG M) (o : OtsV) {NA XA : Option Addr} {nl nc xl xc : Nat} {name x : List UInt8} (hname : Bytes M NA nl nc name) (hx : Bytes M XA xl xc x) (q : UInt32) (i f t : Int) {b1 b2 b3 b4 b5 b6 b7 : Nat}
    [i1 : Has L b1 (.cells (List.toArray o.cells) 27 (0, 0))] [i2 : Has L b2 (.cells (List.toArray [.slice NA nl nc]) 35 (0, 0))] [i3 : Has L b3 (.cells (List.toArray [.int .i64 i]) 3 (0, 0))]
    [i4 : Has L b4 (.cells (List.toArray [.slice XA xl xc]) 35 (0, 0))] [i5 : Has L b5 (.cells (List.toArray [.int .i64 f]) 3 (0, 0))] [i6 : Has L b6 (.cells (List.toArray [.int .i64 t]) 3 (0, 0))] [i7 : Has L b7 (.cells (List.toArray [.int .u32 (q.toNat : Int)]) 22 (0, 0))] :
    Con Tryz.prog 193 #[.pointer (some ⟨b1, 0, none⟩), .pointer (some ⟨b2, 0, none⟩), .pointer (some ⟨b3, 0, none⟩), .pointer (some ⟨b4, 0, none⟩), .pointer (some ⟨b5, 0, none⟩), .pointer (some ⟨b6, 0, none⟩), .pointer (some ⟨b7, 0, none⟩)] G M L
      (fun v M' L' => L' = L ∧ ∃ A' m' c', v = .slice A' m' c' ∧ (okR o nl i xl ∧ 0 ≤ f ∧ f ≤ t ∧ t ≤ (pw2 o.w.toNat : Nat) - 1) ∧ m' = o.n.toNat ∧ Bytes M' A' m' c' (upC o name q.toNat i.toNat f.toNat x (t - f).toNat)) (fun ch M' L' => L' = L ∧ ¬ (okR o nl i xl ∧ 0 ≤ f ∧ f ≤ t ∧ t ≤ (pw2 o.w.toNat : Nat) - 1) ∧ ch = wrongc) := by
  have hnls := hname.size
  have hxls := hx.size
  refine enter (args := [_, _, _, _, _, _, _]) (fn := Tryz.f193) ⟨Tryz.func193, rfl, by kernel_rfl, by kernel_rfl⟩ 47 rfl ?_
  refine x_seq (x_region ?_)
  refine tl_y rfl (y_assign rfl) ?_
  refine tl_nil (.then_normal ?_)
  refine x_seq (x_region ?_)
  refine tl_y rfl (y_loadAgg rfl rfl (.own inferInstance inferInstance)) ?_
  refine tl_y rfl (y_load rfl rfl (.own inferInstance inferInstance)) ?_
  refine tl_y rfl (y_load rfl rfl (.own inferInstance inferInstance)) ?_
  refine tl_y rfl (y_load rfl rfl (.own inferInstance inferInstance)) ?_
  refine tl_e rfl (e_call rfl (right_spec hs o i) (by
    rintro _ M1 _ hM1 ⟨rfl, hno, rfl⟩
    exact .retA rfl hM1 ⟨rfl, fun h => hno h.1, rfl⟩) ?_)
  rintro _ M1 L hM1 ⟨rfl, hok⟩
  obtain ⟨hoc, hop, w, hw, hww⟩ := okR_facts hok
  have hob : nl = 16 ∧ 0 ≤ i ∧ i < o.p ∧ (xl : Int) = o.n := hok.2.2
  have hon : o.n = 24 ∨ o.n = 32 := hoc.2
  have hpw := pw2_w hw
  have hwt : o.w.toNat = w := by omega
  rw [hwt]
  have hwi : 0 ≤ o.w := by omega
  have hshl : IntKind.i64.wrap (1 * 2 ^ (min o.w.toNat IntKind.i64.bits)) = ((pw2 w : Nat) : Int) := by rw [hww]; exact shl1_w hw
  obtain ⟨i', rfl⟩ : ∃ i' : Nat, i = i' := ⟨i.toNat, by omega⟩
  refine tl_nil (.then_normal ?_)
  refine .sub (F' := [(0, _), (1, _), (2, _), (3, _), (4, _), (5, _), (6, _)]) (.cons rfl (.cons rfl (.cons rfl (.cons rfl (.cons rfl (.cons rfl (.cons rfl .nil))))))) ?_
  refine x_seq ?_
  refine x_meet (I := fun F D M2 L2 => (0 ≤ f ∧ f ≤ t ∧ t ≤ (pw2 w : Nat) - 1) ∧ D = [] ∧ M1 = M2 ∧ L = L2 ∧ F = [(0, .pointer (some ⟨b1, 0, none⟩)), (1, .pointer (some ⟨b2, 0, none⟩)), (2, .pointer (some ⟨b3, 0, none⟩)), (3, .pointer (some ⟨b4, 0, none⟩)), (4, .pointer (some ⟨b5, 0, none⟩)), (5, .pointer (some ⟨b6, 0, none⟩)), (6, .pointer (some ⟨b7, 0, none⟩))]) ?_ (fun Jd2 => ?_)
  ·
    rintro _ _ _ _ ⟨hj, rfl, rfl, rfl, rfl⟩  -- slots [0, 1, 2, 3, 4, 5, 6]
    obtain ⟨f', rfl⟩ : ∃ f' : Nat, f = f' := ⟨f.toNat, by omega⟩
    obtain ⟨t', rfl⟩ : ∃ t' : Nat, t = t' := ⟨t.toNat, by omega⟩
    refine x_seq (x_region ?_)
    refine tl_y rfl (y_load rfl rfl (.own inferInstance inferInstance)) ?_
    refine tl_e rfl (e_call' rfl (bytesClone_spec (hx.mono hM1) (by omega)) ?_)
    rintro _ M3 L hM3 ⟨rfl, A3, c3, rfl, hA3⟩
    have hm3 := hM1.trans hM3
    refine tl_y rfl (y_assign (v := .slice _ _ _) rfl) ?_
    refine tl_nil (.then_normal ?_)
    refine x_seq (x_seq (x_region ?_))
    refine tl_y rfl (y_load rfl rfl (.own inferInstance inferInstance)) ?_
    refine tl_y rfl (y_assign (v := .int _ _) rfl) ?_
    refine tl_nil (.then_normal ?_)
    refine .sub (F' := [(0, _), (1, _), (2, _), (5, _), (6, _), (8, _), (9, _)]) (.cons rfl (.cons rfl (.cons rfl (.cons rfl (.cons rfl (.cons rfl (.cons rfl .nil))))))) ?_
    refine x_block ?_
    refine x_loop (I := fun m' F D M4 L4 => ∃ (k : Nat) (A4 : Option Addr) (c4 : Nat), m' = t' - f' - k ∧ k ≤ t' - f' ∧ Le M M4 ∧ Bytes M4 A4 o.n.toNat c4 (upC o name q.toNat i' f' x k) ∧ D = [] ∧ L = L4 ∧ F = [(0, .pointer (some ⟨b1, 0, none⟩)), (1, .pointer (some ⟨b2, 0, none⟩)), (2, .pointer (some ⟨b3, 0, none⟩)), (5, .pointer (some ⟨b6, 0, none⟩)), (6, .pointer (some ⟨b7, 0, none⟩)), (8, .slice A4 o.n.toNat c4), (9, .int .i64 ((f' + k : Nat) : Int))]) (t' - f') (F0 := [(0, _), (1, _), (2, _), (5, _), (6, _), (8, _), (9, _)]) ?_ (.cons rfl (.cons rfl (.cons rfl (.cons rfl (.cons rfl (.cons rfl (.cons rfl .nil))))))) ?_  -- slots [0, 1, 2, 5, 6, 8, 9], written [8, 9]
    · exact ⟨0, A3, c3, rfl, by omega, hm3, by rw [show o.n.toNat = xl by omega]; exact hA3, rfl, rfl, by rw [show o.n.toNat = xl by omega]; rfl⟩
    rintro m _ _ M4 L4 ⟨k, A4, c4, rfl, hkk, hM4, hA4, rfl, rfl, rfl⟩
    refine x_seq (x_seq (x_region ?_))
    refine tl_y rfl (y_move (v := .int _ _) rfl) ?_
    refine tl_y rfl (y_load rfl rfl (.own inferInstance inferInstance)) ?_
    refine tl_y rfl (y_lss rfl rfl) ?_
    refine tl_nil (.then_normal ?_)
    refine x_cond rfl (fun hc1 => ?_) (fun hc1 => ?_)
    ·
      refine x_skip (.then_normal ?_)
      refine x_seq ?_
      refine x_block ?_
      refine x_region ?_
      refine tl_y rfl (y_loadAgg rfl rfl (.own inferInstance inferInstance)) ?_
      refine tl_y rfl (y_load rfl rfl (.own inferInstance inferInstance)) ?_
      refine tl_y rfl (y_load rfl rfl (.own inferInstance inferInstance)) ?_
      refine tl_y rfl (y_load rfl rfl (.own inferInstance inferInstance)) ?_
      refine tl_y rfl (y_move (v := .int _ _) rfl) ?_
      refine tl_y rfl (y_move (v := .slice _ _ _) rfl) ?_
      refine tl_e rfl (e_call' rfl (step_spec (hg.mono hM4) (hk.mono hM4) o hoc (hname.mono hM4) hA4 (by omega) (by omega) q i' (f' + k) (by omega) (by omega)) ?_)
      rintro _ M5 _ hM5 ⟨rfl, A5, c5, rfl, hA5⟩
      refine tl_y rfl (y_assign (v := .slice _ _ _) rfl) ?_
      refine tl_nil (.block_normal (.then_normal ?_))
      refine .sub (F' := [(0, _), (1, _), (2, _), (5, _), (6, _), (8, _), (9, _)]) (.cons rfl (.cons rfl (.cons rfl (.cons rfl (.cons rfl (.cons rfl (.cons rfl .nil))))))) ?_
      refine x_region ?_
      refine tl_y rfl (y_move (v := .int _ _) rfl) ?_
      refine tl_y rfl (y_addI rfl rfl (by omega)) ?_
      rw [show ((f' + k : Nat) : Int) + 1 = ((f' + (k + 1) : Nat) : Int) by omega]
      refine tl_y rfl (y_assign (v := .int _ _) rfl) ?_
      refine tl_nil (.loop_next (m' := t' - f' - (k + 1)) (by omega) (F' := [(0, _), (1, _), (2, _), (5, _), (6, _), (8, _), (9, _)]) (.cons rfl (.cons rfl (.cons rfl (.cons rfl (.cons rfl (.cons rfl (.cons rfl .nil))))))) ?_)
      exact ⟨k + 1, A5, c5, rfl, by omega, hM4.trans hM5, hA5, rfl, rfl, rfl⟩
    ·
      refine x_exit (.then_exit (.loop_exit (.block_exit (.then_normal ?_))))
      refine .sub (F' := [(8, _)]) (.cons rfl .nil) ?_
      refine x_seq (x_region ?_)
      refine tl_y rfl (y_move (v := .slice _ _ _) rfl) ?_
      refine tl_y rfl (y_assign (v := .slice _ _ _) rfl) ?_
      refine tl_nil (.then_normal ?_)
      refine x_ret (ret1 rfl rfl hM4 ⟨rfl, _, _, _, rfl, ⟨hok, hj⟩, rfl, by
        obtain rfl : k = t' - f' := by omega
        rw [show ((t' : Int) - (f' : Int)).toNat = t' - f' by omega]
        exact hA4⟩)
  ·
    refine x_draw 16 hmix rfl ?_
    refine to_y 0 rfl (by kernel_rfl) rfl (y_load rfl rfl (.own inferInstance inferInstance)) ?_
    refine to_p 1 rfl (by kernel_rfl) rfl (y_geq rfl rfl) ?_
    refine to_p 2 rfl (by kernel_rfl) rfl (y_move (v := .bool _) rfl) ?_
    refine to_cases (s := 17) rfl (fun hk1 => ?_) (fun hk1 => ?_)
    ·
      refine to_y 3 rfl (by kernel_rfl) rfl (y_load rfl rfl (.own inferInstance inferInstance)) ?_
      refine to_y 4 rfl (by kernel_rfl) rfl (y_load rfl rfl (.own inferInstance inferInstance)) ?_
      refine to_p 5 rfl (by kernel_rfl) rfl (y_leq rfl rfl) ?_
      refine to_p 6 rfl (by kernel_rfl) rfl (y_pickT rfl rfl) ?_
      refine to_p 7 rfl (by kernel_rfl) rfl (y_move (v := .bool _) rfl) ?_
      refine to_cases (s := 22) rfl (fun hk2 => ?_) (fun hk2 => ?_)
      ·
        refine to_y 8 rfl (by kernel_rfl) rfl (y_load rfl rfl (.own inferInstance inferInstance)) ?_
        refine to_p 9 rfl (by kernel_rfl) rfl (y_fieldAddr rfl) ?_
        refine to_y 10 rfl (by kernel_rfl) rfl (y_load rfl rfl (.own inferInstance inferInstance)) ?_
        refine to_p 11 rfl (by kernel_rfl) rfl (y_shl rfl rfl (by omega)) ?_
        rw [hshl]
        refine to_p 12 rfl (by kernel_rfl) rfl (y_subI rfl rfl (by omega)) ?_
        refine to_p 13 rfl (by kernel_rfl) rfl (y_leq rfl rfl) ?_
        refine to_p 14 rfl (by kernel_rfl) rfl (y_pickT rfl rfl) ?_
        refine to_e 15 rfl (by kernel_rfl) rfl (e_call rfl (cmust_spec _) (by
          rintro _ _ _ _ ⟨rfl, rfl, ht, rfl⟩
          exact .retA rfl hM1 ⟨rfl, fun h => by first | (cases ht; done) | (simp at ht; omega) | omega, rfl⟩) ?_)
        rintro _ _ _ _ ⟨rfl, rfl, ht⟩
        refine ⟨⟨(by first | exact Le.refl _ | assumption), Keeps.mem⟩, ?_⟩
        refine to_nil (by kernel_rfl) (.then_normal (.sub (F' := [(0, _), (1, _), (2, _), (3, _), (4, _), (5, _), (6, _)]) (.cons rfl (.cons rfl (.cons rfl (.cons rfl (.cons rfl (.cons rfl (.cons rfl .nil))))))) (Jd2 _ _ _ _ ?_)))
        exact ⟨by first | (cases ht; done) | (simp at ht; omega) | omega, rfl, rfl, rfl, rfl⟩
      ·
        refine to_skip 8 rfl (by kernel_rfl) rfl ?_
        refine to_skip 9 rfl (by kernel_rfl) rfl ?_
        refine to_skip 10 rfl (by kernel_rfl) rfl ?_
        refine to_skip 11 rfl (by kernel_rfl) rfl ?_
        refine to_skip 12 rfl (by kernel_rfl) rfl ?_
        refine to_skip 13 rfl (by kernel_rfl) rfl ?_
        refine to_p 14 rfl (by kernel_rfl) rfl (y_pickF rfl rfl) ?_
        refine to_e 15 rfl (by kernel_rfl) rfl (e_call rfl (cmust_spec _) (by
          rintro _ _ _ _ ⟨rfl, rfl, ht, rfl⟩
          exact .retA rfl hM1 ⟨rfl, fun h => by first | (cases ht; done) | (simp at ht; omega) | omega, rfl⟩) ?_)
        rintro _ _ _ _ ⟨rfl, rfl, ht⟩
        refine ⟨⟨(by first | exact Le.refl _ | assumption), Keeps.mem⟩, ?_⟩
        refine to_nil (by kernel_rfl) (.then_normal (.sub (F' := [(0, _), (1, _), (2, _), (3, _), (4, _), (5, _), (6, _)]) (.cons rfl (.cons rfl (.cons rfl (.cons rfl (.cons rfl (.cons rfl (.cons rfl .nil))))))) (Jd2 _ _ _ _ ?_)))
        exact ⟨by first | (cases ht; done) | (simp at ht; omega) | omega, rfl, rfl, rfl, rfl⟩
    ·
      refine to_skip 3 rfl (by kernel_rfl) rfl ?_
      refine to_skip 4 rfl (by kernel_rfl) rfl ?_
      refine to_skip 5 rfl (by kernel_rfl) rfl ?_
      refine to_p 6 rfl (by kernel_rfl) rfl (y_pickF rfl rfl) ?_
      refine to_p 7 rfl (by kernel_rfl) rfl (y_move (v := .bool _) rfl) ?_
      refine to_skip 8 rfl (by kernel_rfl) rfl ?_
      refine to_skip 9 rfl (by kernel_rfl) rfl ?_
      refine to_skip 10 rfl (by kernel_rfl) rfl ?_
      refine to_skip 11 rfl (by kernel_rfl) rfl ?_
      refine to_skip 12 rfl (by kernel_rfl) rfl ?_
      refine to_skip 13 rfl (by kernel_rfl) rfl ?_
      refine to_p 14 rfl (by kernel_rfl) rfl (y_pickF rfl rfl) ?_
      refine to_e 15 rfl (by kernel_rfl) rfl (e_call rfl (cmust_spec _) (by
        rintro _ _ _ _ ⟨rfl, rfl, ht, rfl⟩
        exact .retA rfl hM1 ⟨rfl, fun h => by first | (cases ht; done) | (simp at ht; omega) | omega, rfl⟩) ?_)
      rintro _ _ _ _ ⟨rfl, rfl, ht⟩
      refine ⟨⟨(by first | exact Le.refl _ | assumption), Keeps.mem⟩, ?_⟩
      refine to_nil (by kernel_rfl) (.then_normal (.sub (F' := [(0, _), (1, _), (2, _), (3, _), (4, _), (5, _), (6, _)]) (.cons rfl (.cons rfl (.cons rfl (.cons rfl (.cons rfl (.cons rfl (.cons rfl .nil))))))) (Jd2 _ _ _ _ ?_)))
      exact ⟨by first | (cases ht; done) | (simp at ht; omega) | omega, rfl, rfl, rfl, rfl⟩
theorem Up_spec' (hg : ShaG M) (hk : KecG M) (hs : SetG M) (o : OtsV) {NA XA : Option Addr} {nl nc xl xc : Nat} {name x : List UInt8} (hname : Bytes M NA nl nc name) (hx : Bytes M XA xl xc x) (q : UInt32) (i f t : Int) :
    Con Tryz.prog 154 #[.agg (List.toArray o.cells), .slice NA nl nc, .int .u32 (q.toNat : Int), .int .i64 i, .int .i64 f, .int .i64 t, .slice XA xl xc] G M L (fun v M' L' => L' = L ∧ ∃ A' m' c', v = .slice A' m' c' ∧ Bytes M' A' m' c' (cUp o name q.toNat i f t x)) noPanic := by
  have hnls := hname.size
  have hxls := hx.size
  refine enter (args := [_, _, _, _, _, _, _]) (fn := Tryz.f154) ⟨Tryz.func154, rfl, by kernel_rfl, by kernel_rfl⟩ 17 rfl ?_
  refine x_seq (x_region ?_)
  refine tl_e rfl (e_box rfl (fun b1 => ?_))
  refine tl_e rfl (e_box rfl (fun b2 => ?_))
  refine tl_e rfl (e_box rfl (fun b3 => ?_))
  refine tl_e rfl (e_box rfl (fun b4 => ?_))
  refine tl_e rfl (e_box rfl (fun b5 => ?_))
  refine tl_e rfl (e_box rfl (fun b6 => ?_))
  refine tl_e rfl (e_box rfl (fun b7 => ?_))
  refine tl_y rfl (y_assign rfl) ?_
  refine tl_nil (.then_normal ?_)
  refine .sub (F' := [(7, _), (8, _), (9, _), (10, _), (11, _), (12, _), (13, _)]) (.cons rfl (.cons rfl (.cons rfl (.cons rfl (.cons rfl (.cons rfl (.cons rfl .nil))))))) ?_
  refine x_seq (x_region ?_)
  refine tl_y rfl (y_makeFunc rfl rfl) ?_
  refine tl_e rfl (e_call' rfl (caughtC_spec (first := []) (cap := [.pointer (some ⟨b1, 0, none⟩), .pointer (some ⟨b2, 0, none⟩), .pointer (some ⟨b4, 0, none⟩), .pointer (some ⟨b7, 0, none⟩), .pointer (some ⟨b5, 0, none⟩), .pointer (some ⟨b6, 0, none⟩), .pointer (some ⟨b3, 0, none⟩)]) (K := fun A' m' c' M' => (okR o nl i xl ∧ 0 ≤ f ∧ f ≤ t ∧ t ≤ (pw2 o.w.toNat : Nat) - 1) ∧ m' = o.n.toNat ∧ Bytes M' A' m' c' (upC o name q.toNat i.toNat f.toNat x (t - f).toNat)) (fun p => Up1_spec hg hk hs o hname hx q i f t)) ?_)
  rintro v M1 _ hM1 ⟨rfl, hv⟩
  obtain ⟨A1, m1, c1, rfl, hA1⟩ : ∃ A' m' c', v = .slice A' m' c' ∧ Bytes M1 A' m' c' (cUp o name q.toNat i f t x) := by
    rcases hv with ⟨A', m', c', rfl, hok, rfl, hA⟩ | ⟨rfl, hno⟩
    · exact ⟨_, _, _, rfl, by rw [cUp, hnls, hxls, if_pos hok]; exact hA⟩
    · exact ⟨_, _, _, rfl, by rw [cUp, hnls, hxls, if_neg hno]; exact Row.nil _ _⟩
  refine tl_y rfl (y_assign (v := .slice _ _ _) rfl) ?_
  refine tl_nil (.then_normal ?_)
  refine .sub (F' := [(14, _)]) (.cons rfl .nil) ?_
  refine x_ret (.dropTo L inferInstance (ret1 rfl rfl hM1 ⟨rfl, _, _, _, rfl, hA1⟩))
end
end Go.Proofs.YtiimjodbaogjbaaGreatDoor
set_option linter.unusedVariables false
set_option linter.unusedSimpArgs false
namespace Go.Proofs.YtiimjodbaogjbaaGreatDoor
open Go Go.Eng
section
variable {G : World} {M : Mem} {L : Own}
def eqTo (a b : List UInt8) (k : Nat) : Prop := ∀ j, j < k → a.getD j 0 = b.getD j 0
theorem same_spec {a b : List UInt8} {A B : Option Addr} {n c m d : Nat} (ha : Bytes M A n c a) (hb : Bytes M B m d b) :
    Con Tryz.prog 23 #[.slice A n c, .slice B m d] G M L (fun v M' L' => M = M' ∧ L = L' ∧ v = .bool (decide (a = b))) noPanic := by
  have hla := ha.size
  have hlb := hb.size
  have hmx := ha.max
  have hmle := ha.le
  refine enter (args := [_, _]) (fn := Tryz.f23) ⟨Tryz.func23, rfl, by kernel_rfl, by kernel_rfl⟩ 26 rfl ?_
  refine x_seq (x_region ?_)
  refine tl_y rfl (y_assign rfl) ?_
  refine tl_nil (.then_normal ?_)
  refine x_seq (x_seq (x_region ?_))
  refine tl_y rfl (y_move (v := .slice _ _ _) rfl) ?_
  refine tl_y rfl (y_len rfl) ?_
  refine tl_y rfl (y_move (v := .slice _ _ _) rfl) ?_
  refine tl_y rfl (y_len rfl) ?_
  refine tl_y rfl (y_neq rfl rfl) ?_
  refine tl_nil (.then_normal ?_)
  refine .sub (F' := [(0, _), (1, _), (4, _), (10, _)]) (.cons rfl (.cons rfl (.cons rfl (.cons rfl .nil)))) ?_
  refine x_cond rfl (fun hc1 => ?_) (fun hc1 => ?_)
  ·
    refine x_seq (x_region ?_)
    refine tl_y rfl (y_assign rfl) ?_
    refine tl_nil (.then_normal ?_)
    refine x_ret (.then_ret (ret1 rfl rfl (Le.refl _) ⟨rfl, rfl, by rw [decide_eq_false]; rintro rfl; omega⟩))
  ·
    obtain rfl : n = m := by omega
    refine x_skip (.then_normal ?_)
    refine x_seq (x_seq (x_region ?_))
    refine tl_y rfl (y_assign rfl) ?_
    refine tl_nil (.then_normal ?_)
    refine x_block ?_
    refine x_loop (I := fun m' F D M1 L1 => ∃ k : Nat, m' = n - k ∧ k ≤ n ∧ eqTo a b k ∧ D = [] ∧ M = M1 ∧ L = L1 ∧ F = [(0, .slice A n c), (1, .slice B n d), (4, .bool false), (5, .int .i64 k)]) (n) (F0 := [(0, _), (1, _), (4, _), (5, _)]) ?_ (.cons rfl (.cons rfl (.cons rfl (.cons rfl .nil)))) ?_  -- slots [0, 1, 4, 5], written [4, 5]
    · exact ⟨0, rfl, by omega, (fun j h => by omega), rfl, rfl, rfl, rfl⟩
    rintro m _ _ M1 L1 ⟨k, rfl, hk, heq, rfl, rfl, rfl, rfl⟩
    refine x_seq (x_seq (x_region ?_))
    refine tl_y rfl (y_move (v := .int _ _) rfl) ?_
    refine tl_y rfl (y_move (v := .slice _ _ _) rfl) ?_
    refine tl_y rfl (y_len rfl) ?_
    refine tl_y rfl (y_lss rfl rfl) ?_
    refine tl_nil (.then_normal ?_)
    refine x_cond rfl (fun hc2 => ?_) (fun hc2 => ?_)
    ·
      have hkn : k < n := by omega
      obtain ⟨p, o, rfl, hca⟩ := ha.byte (by omega)
      obtain ⟨p', o', rfl, hcb⟩ := hb.byte (by omega)
      refine x_skip (.then_normal ?_)
      refine .sub (F' := [(0, _), (1, _), (4, _), (5, _)]) (.cons rfl (.cons rfl (.cons rfl (.cons rfl .nil)))) ?_
      refine x_seq ?_
      refine x_block ?_
      refine x_seq ?_
      refine x_draw 9 hmix rfl ?_
      refine to_p 0 rfl (by kernel_rfl) rfl (y_move (v := .slice _ _ _) rfl) ?_
      refine to_p 1 rfl (by kernel_rfl) rfl (y_move (v := .int _ _) rfl) ?_
      refine to_p 2 rfl (by kernel_rfl) rfl (y_indexAddr rfl rfl (by omega)) ?_
      refine to_y 3 rfl (by kernel_rfl) rfl (y_load rfl rfl (.at_ (hca _ k hkn) (by omega))) ?_
      refine to_p 4 rfl (by kernel_rfl) rfl (y_move (v := .slice _ _ _) rfl) ?_
      refine to_p 5 rfl (by kernel_rfl) rfl (y_move (v := .int _ _) rfl) ?_
      refine to_p 6 rfl (by kernel_rfl) rfl (y_indexAddr rfl rfl (by omega)) ?_
      refine to_y 7 rfl (by kernel_rfl) rfl (y_load rfl rfl (.at_ (hcb _ k hkn) (by omega))) ?_
      refine to_p 8 rfl (by kernel_rfl) rfl (y_neq rfl rfl) ?_
      refine to_nil (by kernel_rfl) (.then_normal ?_)
      refine .sub (F' := [(0, _), (1, _), (4, _), (5, _), (25, _)]) (.cons rfl (.cons rfl (.cons rfl (.cons rfl (.cons rfl .nil))))) ?_
      refine x_cond rfl (fun hc3 => ?_) (fun hc3 => ?_)
      ·
        refine x_seq (x_region ?_)
        refine tl_y rfl (y_assign rfl) ?_
        refine tl_nil (.then_normal ?_)
        refine x_ret (.block_ret (.then_ret (.loop_ret (.block_ret (.then_ret (ret1 rfl rfl (Le.refl _) ⟨rfl, rfl, by rw [decide_eq_false]; rintro rfl; exact hc3 rfl⟩))))))
      ·
        refine x_skip (.block_normal (.then_normal ?_))
        refine x_region ?_
        refine tl_y rfl (y_move (v := .int _ _) rfl) ?_
        refine tl_y rfl (y_addI rfl rfl (by omega)) ?_
        refine tl_y rfl (y_assign (v := .int _ _) rfl) ?_
        refine tl_nil (.loop_next (m' := n - (k + 1)) (by omega) (F' := [(0, _), (1, _), (4, _), (5, _)]) (.cons rfl (.cons rfl (.cons rfl (.cons rfl .nil)))) ?_)
        exact ⟨k + 1, rfl, by omega, (fun j hj => by
          rcases Nat.lt_or_ge j k with hlt | hge
          · exact heq j hlt
          · obtain rfl : j = k := by omega
            exact UInt8.toNat_inj.1 (by omega)), rfl, rfl, rfl, rfl⟩
    ·
      refine x_exit (.then_exit (.loop_exit (.block_exit (.then_normal ?_))))
      refine .sub (F' := []) .nil ?_
      refine x_seq (x_region ?_)
      refine tl_y rfl (y_assign rfl) ?_
      refine tl_nil (.then_normal ?_)
      refine x_ret (ret1 rfl rfl (Le.refl _) ⟨rfl, rfl, by
        rw [decide_eq_true]
        apply List.ext_getElem (by omega)
        intro i h1 h2
        have := heq i (by omega)
        simpa [List.getD_eq_getElem?_getD, h1, h2] using this⟩)
end
end Go.Proofs.YtiimjodbaogjbaaGreatDoor
set_option linter.unusedVariables false
set_option linter.unusedSimpArgs false
namespace Go.Proofs.YtiimjodbaogjbaaGreatDoor
open Go Go.Eng
theorem RowIn.cons {M : Mem} {L : Own} {s n : Nat} {A : Option Addr} {vs : List Value} {p : Nat × Obj} (h : RowIn M L s A n vs) : RowIn M (p :: L) s A n vs := ⟨h.len, fun hn => by
  obtain ⟨b, o, e, hc⟩ := h.addr hn
  exact ⟨b, o, e, fun j v hj w hw => hc j v hj w ⟨hw.ro, fun q hq => hw.own q (List.mem_cons_of_mem _ hq)⟩⟩⟩
section
variable {G : World} {M : Mem} {L : Own}
end
end Go.Proofs.YtiimjodbaogjbaaGreatDoor
set_option linter.unusedVariables false
set_option linter.unusedSimpArgs false
set_option linter.constructorNameAsVariable false
namespace Go.Proofs.YtiimjodbaogjbaaGreatDoor
open Go Go.Eng
def shR (n w j : Nat) : Nat := shX n w / (2 ^ w) ^ j
theorem shR_succ (n w j : Nat) : ((shR n w j : Nat) : Int) / ((pw2 w : Nat) : Int) = ((shR n w (j + 1) : Nat) : Int) := by
  rw [shR, shR, pw2, Nat.pow_succ (2 ^ w), ← Nat.div_div_eq_div_mul]; simp
theorem shR_zero (n w : Nat) : shR n w 0 = shX n w := by rw [shR, Nat.pow_zero, Nat.div_one]
theorem shR_le (n w j : Nat) : shR n w j ≤ shX n w := Nat.div_le_self _ _
section
variable {G : World} {M : Mem} {L : Own}
theorem RdMay_spec {w : Nat} (hw : isW w) :
    Con Tryz.prog 172 #[.int .i64 (w : Int)] G M L (fun v M' L' => M = M' ∧ L = L' ∧ v = .bool true) noPanic := by
  refine enter (args := [_]) (fn := Tryz.f172) ⟨Tryz.func172, rfl, by kernel_rfl, by kernel_rfl⟩ 17 rfl ?_
  refine x_seq (x_region ?_)
  refine tl_y rfl (y_assign rfl) ?_
  refine tl_nil (.then_normal ?_)
  refine x_seq (x_region ?_)
  refine tl_y rfl (y_move (v := .int _ _) rfl) ?_
  refine tl_y rfl (y_eql rfl rfl) ?_
  refine tl_y rfl (y_move (v := .bool _) rfl) ?_
  refine tl_cases (s := 5) rfl (fun hk1 => ?_) (fun hk1 => ?_)
  ·
    refine tl_skip rfl ?_
    refine tl_skip rfl ?_
    refine tl_y rfl (y_pickT rfl rfl) ?_
    refine tl_y rfl (y_move (v := .bool _) rfl) ?_
    refine tl_skip rfl ?_
    refine tl_skip rfl ?_
    refine tl_y rfl (y_pickT rfl rfl) ?_
    refine tl_y rfl (y_move (v := .bool _) rfl) ?_
    refine tl_skip rfl ?_
    refine tl_skip rfl ?_
    refine tl_y rfl (y_pickT rfl rfl) ?_
    refine tl_y rfl (y_assign (v := .bool _) rfl) ?_
    refine tl_nil (.then_normal ?_)
    refine .sub (F' := [(2, _)]) (.cons rfl .nil) ?_
    refine x_ret (ret1 rfl rfl (Le.refl _) ⟨rfl, rfl, rfl⟩)
  ·
    refine tl_y rfl (y_move (v := .int _ _) rfl) ?_
    refine tl_y rfl (y_eql rfl rfl) ?_
    refine tl_y rfl (y_pickF rfl rfl) ?_
    refine tl_y rfl (y_move (v := .bool _) rfl) ?_
    refine tl_cases (s := 9) rfl (fun hk2 => ?_) (fun hk2 => ?_)
    ·
      refine tl_skip rfl ?_
      refine tl_skip rfl ?_
      refine tl_y rfl (y_pickT rfl rfl) ?_
      refine tl_y rfl (y_move (v := .bool _) rfl) ?_
      refine tl_skip rfl ?_
      refine tl_skip rfl ?_
      refine tl_y rfl (y_pickT rfl rfl) ?_
      refine tl_y rfl (y_assign (v := .bool _) rfl) ?_
      refine tl_nil (.then_normal ?_)
      refine .sub (F' := [(2, _)]) (.cons rfl .nil) ?_
      refine x_ret (ret1 rfl rfl (Le.refl _) ⟨rfl, rfl, rfl⟩)
    ·
      refine tl_y rfl (y_move (v := .int _ _) rfl) ?_
      refine tl_y rfl (y_eql rfl rfl) ?_
      refine tl_y rfl (y_pickF rfl rfl) ?_
      refine tl_y rfl (y_move (v := .bool _) rfl) ?_
      refine tl_cases (s := 13) rfl (fun hk3 => ?_) (fun hk3 => ?_)
      ·
        refine tl_skip rfl ?_
        refine tl_skip rfl ?_
        refine tl_y rfl (y_pickT rfl rfl) ?_
        refine tl_y rfl (y_assign (v := .bool _) rfl) ?_
        refine tl_nil (.then_normal ?_)
        refine .sub (F' := [(2, _)]) (.cons rfl .nil) ?_
        refine x_ret (ret1 rfl rfl (Le.refl _) ⟨rfl, rfl, rfl⟩)
      ·
        refine tl_y rfl (y_move (v := .int _ _) rfl) ?_
        refine tl_y rfl (y_eql rfl rfl) ?_
        refine tl_y rfl (y_pickF rfl rfl) ?_
        refine tl_y rfl (y_assign (v := .bool _) rfl) ?_
        refine tl_nil (.then_normal ?_)
        refine .sub (F' := [(2, _)]) (.cons rfl .nil) ?_
        refine x_ret (ret1 rfl rfl (Le.refl _) ⟨rfl, rfl, by
          rcases hw with rfl | rfl | rfl | rfl
          · exact absurd rfl hk1
          · exact absurd rfl hk2
          · exact absurd rfl hk3
          · rfl⟩)
theorem RShape_spec {n w : Nat} (hn : isN n) (hw : isW w) :
    Con Tryz.prog 123 #[.int .i64 (n : Int), .int .i64 (w : Int)] G M L (fun v M' L' => M = M' ∧ L = L' ∧ v = .tuple #[.int .i64 (shU n w : Nat), .int .i64 (shV n w : Nat), .int .i64 (shS n w : Nat)]) noPanic := by
  have hfact := shape_fact hn hw
  have hnb : 24 ≤ n ∧ n ≤ 32 := by rcases hn with rfl | rfl <;> omega
  have hlp : ∀ k, k ≤ shV n w → (0 < shR n w k ↔ k < shV n w) := fun k hk => shape_loop hn hw ⟨k, by omega⟩ hk
  change _ ∧ _ ∧ _ ∧ _ ∧ _ ∧ _ ∧ _ ∧ _ ∧ pw2 w ≤ 256 ∧ 2 ≤ pw2 w at hfact
  obtain ⟨h1, h2, h3, h4, h5, h6, h7, h8, h9, h10⟩ := hfact
  have hu : (8 * (n : Int)) / (w : Int) = ((shU n w : Nat) : Int) := by rw [shU]; simp
  have hx : (((pw2 w : Nat) : Int) - 1) * ((shU n w : Nat) : Int) = ((shX n w : Nat) : Int) := by
    rw [show ((pw2 w : Nat) : Int) - 1 = ((pw2 w - 1 : Nat) : Int) by omega, shX, pw2]; simp
  have hs : ((shV n w : Nat) : Int) * (w : Int) = ((shV n w * w : Nat) : Int) := by simp
  refine enter (args := [_, _]) (fn := Tryz.f123) ⟨Tryz.func123, rfl, by kernel_rfl, by kernel_rfl⟩ 51 rfl ?_
  refine x_seq (x_region ?_)
  refine tl_y rfl (y_assign rfl) ?_
  refine tl_y rfl (y_assign rfl) ?_
  refine tl_y rfl (y_assign rfl) ?_
  refine tl_nil (.then_normal ?_)
  refine x_seq (x_seq (x_region ?_))
  refine tl_y rfl (y_move (v := .int _ _) rfl) ?_
  refine tl_y rfl (y_lss rfl rfl) ?_
  refine tl_y rfl (y_move (v := .bool _) rfl) ?_
  refine tl_set (s := 14) (u := .bool false) rfl (by rw [decide_eq_false]; omega) ?_
  refine tl_y rfl (y_move (v := .int _ _) rfl) ?_
  refine tl_y rfl (y_gtr rfl rfl) ?_
  refine tl_y rfl (y_pickF rfl rfl) ?_
  refine tl_y rfl (y_move (v := .bool _) rfl) ?_
  refine tl_set (s := 18) (u := .bool false) rfl (by rw [decide_eq_false]; omega) ?_
  refine tl_y rfl (y_move (v := .int _ _) rfl) ?_
  refine tl_e rfl (e_call' rfl (RdMay_spec hw) ?_)
  rintro _ _ _ _ ⟨rfl, rfl, rfl⟩
  refine tl_y rfl (y_not rfl) ?_
  refine tl_y rfl (y_pickF rfl rfl) ?_
  refine tl_nil (.then_normal ?_)
  refine .sub (F' := [(0, _), (1, _), (22, _)]) (.cons rfl (.cons rfl (.cons rfl .nil))) ?_
  refine x_false rfl (rfl) ?_
  refine x_skip (.then_normal ?_)
  refine x_seq (x_region ?_)
  refine tl_y rfl (y_assign rfl) ?_
  refine tl_nil (.then_normal ?_)
  refine x_seq (x_seq (x_region ?_))
  refine tl_y rfl (y_assign rfl) ?_
  refine tl_nil (.then_normal ?_)
  refine x_block ?_
  refine x_loop (I := fun m' F D M2 L1 => ∃ k : Nat, m' = w - k ∧ k ≤ w ∧ D = [] ∧ M = M2 ∧ L = L1 ∧ F = [(0, .int .i64 n), (1, .int .i64 w), (7, .int .i64 (pw2 k : Nat)), (8, .int .i64 k)]) (w) (F0 := [(0, _), (1, _), (7, _), (8, _)]) ?_ (.cons rfl (.cons rfl (.cons rfl (.cons rfl .nil)))) ?_  -- slots [0, 1, 7, 8], written [7, 8]
  · exact ⟨0, rfl, by omega, rfl, rfl, rfl, rfl⟩
  rintro m _ _ M2 L1 ⟨k, rfl, hk, rfl, rfl, rfl, rfl⟩
  refine x_seq (x_seq (x_region ?_))
  refine tl_y rfl (y_move (v := .int _ _) rfl) ?_
  refine tl_y rfl (y_move (v := .int _ _) rfl) ?_
  refine tl_y rfl (y_lss rfl rfl) ?_
  refine tl_nil (.then_normal ?_)
  refine x_cond rfl (fun hc2 => ?_) (fun hc2 => ?_)
  ·
    have hp := pw2_le hk
    refine x_skip (.then_normal ?_)
    refine x_seq ?_
    refine x_block ?_
    refine x_region ?_
    refine tl_y rfl (y_move (v := .int _ _) rfl) ?_
    refine tl_y rfl (y_mulI rfl rfl (by omega)) ?_
    rw [pw2_succ]
    refine tl_y rfl (y_assign (v := .int _ _) rfl) ?_
    refine tl_nil (.block_normal (.then_normal ?_))
    refine .sub (F' := [(0, _), (1, _), (7, _), (8, _)]) (.cons rfl (.cons rfl (.cons rfl (.cons rfl .nil)))) ?_
    refine x_region ?_
    refine tl_y rfl (y_move (v := .int _ _) rfl) ?_
    refine tl_y rfl (y_addI rfl rfl (by omega)) ?_
    refine tl_y rfl (y_assign (v := .int _ _) rfl) ?_
    refine tl_nil (.loop_next (m' := w - (k + 1)) (by omega) (F' := [(0, _), (1, _), (7, _), (8, _)]) (.cons rfl (.cons rfl (.cons rfl (.cons rfl .nil)))) ?_)
    exact ⟨k + 1, rfl, by omega, rfl, rfl, rfl, rfl⟩
  ·
    obtain rfl : k = w := by omega
    refine x_exit (.then_exit (.loop_exit (.block_exit (.then_normal ?_))))
    refine .sub (F' := [(0, _), (1, _), (7, _)]) (.cons rfl (.cons rfl (.cons rfl .nil))) ?_
    refine x_seq (x_region ?_)
    refine tl_y rfl (y_move (v := .int _ _) rfl) ?_
    refine tl_y rfl (y_mulI rfl rfl (by omega)) ?_
    refine tl_y rfl (y_move (v := .int _ _) rfl) ?_
    refine tl_y rfl (y_quoI rfl rfl (by omega)) ?_
    rw [hu]
    refine tl_y rfl (y_assign (v := .int _ _) rfl) ?_
    refine tl_nil (.then_normal ?_)
    refine .sub (F' := [(1, _), (7, _), (9, _)]) (.cons rfl (.cons rfl (.cons rfl .nil))) ?_
    refine x_seq (x_region ?_)
    refine tl_y rfl (y_assign rfl) ?_
    refine tl_nil (.then_normal ?_)
    refine x_seq (x_seq (x_region ?_))
    refine tl_y rfl (y_move (v := .int _ _) rfl) ?_
    refine tl_y rfl (y_subI rfl rfl (by omega)) ?_
    refine tl_y rfl (y_move (v := .int _ _) rfl) ?_
    refine tl_y rfl (y_mulI rfl rfl (by rw [hx]; omega)) ?_
    rw [hx]
    refine tl_y rfl (y_assign (v := .int _ _) rfl) ?_
    refine tl_nil (.then_normal ?_)
    refine .sub (F' := [(1, _), (7, _), (9, _), (10, _), (11, _)]) (.cons rfl (.cons rfl (.cons rfl (.cons rfl (.cons rfl .nil))))) ?_
    refine x_block ?_
    refine x_loop (I := fun m' F D M2 L1 => ∃ j : Nat, m' = shV n k - j ∧ j ≤ shV n k ∧ D = [] ∧ M = M2 ∧ L = L1 ∧ F = [(1, .int .i64 k), (7, .int .i64 (pw2 k : Nat)), (9, .int .i64 (shU n k : Nat)), (10, .int .i64 j), (11, .int .i64 (shR n k j : Nat))]) (shV n k) (F0 := [(1, _), (7, _), (9, _), (10, _), (11, _)]) ?_ (.cons rfl (.cons rfl (.cons rfl (.cons rfl (.cons rfl .nil))))) ?_  -- slots [1, 7, 9, 10, 11], written [10, 11]
    · exact ⟨0, rfl, by omega, rfl, rfl, rfl, by rw [shR_zero]; rfl⟩
    rintro m _ _ M2 L1 ⟨j, rfl, hj, rfl, rfl, rfl, rfl⟩
    refine x_seq (x_seq (x_region ?_))
    refine tl_y rfl (y_move (v := .int _ _) rfl) ?_
    refine tl_y rfl (y_gtr rfl rfl) ?_
    refine tl_nil (.then_normal ?_)
    refine x_cond rfl (fun hc3 => ?_) (fun hc3 => ?_)
    ·
      have hjv : j < shV n k := (hlp j hj).1 (by omega)
      have hdl := shR_le n k j
      refine x_skip (.then_normal ?_)
      refine x_seq ?_
      refine x_block ?_
      refine x_region ?_
      refine tl_y rfl (y_move (v := .int _ _) rfl) ?_
      refine tl_y rfl (y_addI rfl rfl (by omega)) ?_
      refine tl_y rfl (y_assign (v := .int _ _) rfl) ?_
      refine tl_nil (.block_normal (.then_normal ?_))
      refine .sub (F' := [(1, _), (7, _), (9, _), (10, _), (11, _)]) (.cons rfl (.cons rfl (.cons rfl (.cons rfl (.cons rfl .nil))))) ?_
      refine x_region ?_
      refine tl_y rfl (y_move (v := .int _ _) rfl) ?_
      refine tl_y rfl (y_move (v := .int _ _) rfl) ?_
      refine tl_y rfl (y_quoI rfl rfl (by omega)) ?_
      rw [shR_succ]
      refine tl_y rfl (y_assign (v := .int _ _) rfl) ?_
      refine tl_nil (.loop_next (m' := shV n k - (j + 1)) (by omega) (F' := [(1, _), (7, _), (9, _), (10, _), (11, _)]) (.cons rfl (.cons rfl (.cons rfl (.cons rfl (.cons rfl .nil))))) ?_)
      exact ⟨j + 1, rfl, by omega, rfl, rfl, rfl, rfl⟩
    ·
      have hjv : ¬ j < shV n k := fun h => hc3 (by have := (hlp j hj).2 h; omega)
      obtain rfl : j = shV n k := by omega
      refine x_exit (.then_exit (.loop_exit (.block_exit (.then_normal ?_))))
      refine .sub (F' := [(1, _), (9, _), (10, _)]) (.cons rfl (.cons rfl (.cons rfl .nil))) ?_
      refine x_seq (x_region ?_)
      refine tl_y rfl (y_move (v := .int _ _) rfl) ?_
      refine tl_y rfl (y_move (v := .int _ _) rfl) ?_
      refine tl_y rfl (y_move (v := .int _ _) rfl) ?_
      refine tl_y rfl (y_move (v := .int _ _) rfl) ?_
      refine tl_y rfl (y_mulI rfl rfl (by rw [hs]; omega)) ?_
      rw [hs]
      refine tl_y rfl (y_subI rfl rfl (by omega)) ?_
      rw [show (16 : Int) - ((shV n k * k : Nat) : Int) = ((shS n k : Nat) : Int) by rw [shS]; omega]
      refine tl_y rfl (y_assign (v := .int _ _) rfl) ?_
      refine tl_y rfl (y_assign (v := .int _ _) rfl) ?_
      refine tl_y rfl (y_assign (v := .int _ _) rfl) ?_
      refine tl_nil (.then_normal ?_)
      refine .sub (F' := [(4, _), (5, _), (6, _)]) (.cons rfl (.cons rfl (.cons rfl .nil))) ?_
      refine x_ret (ret3 rfl rfl rfl rfl (Le.refl _) ⟨rfl, rfl, rfl⟩)
theorem Rsize_spec (i : Nat) (hi : i ≤ 1000) :
    Con Tryz.prog 122 #[.int .i64 (i : Int)] G M L (fun v M' L' => M = M' ∧ L = L' ∧ v = .tuple #[.int .i64 ((i / 2 : Nat) : Int), .int .i64 ((szN i : Nat) : Int)]) noPanic := by
  refine enter (args := [_]) (fn := Tryz.f122) ⟨Tryz.func122, rfl, by kernel_rfl, by kernel_rfl⟩ 11 rfl ?_
  refine x_seq (x_region ?_)
  refine tl_y rfl (y_assign rfl) ?_
  refine tl_y rfl (y_assign rfl) ?_
  refine tl_nil (.then_normal ?_)
  refine x_seq (x_region ?_)
  refine tl_y rfl (y_assign rfl) ?_
  refine tl_nil (.then_normal ?_)
  refine x_seq (x_seq (x_region ?_))
  refine tl_y rfl (y_move (v := .int _ _) rfl) ?_
  refine tl_y rfl (y_remI rfl rfl (by omega)) ?_
  refine tl_y rfl (y_eql rfl rfl) ?_
  refine tl_nil (.then_normal ?_)
  refine .sub (F' := [(0, _), (4, _), (7, _)]) (.cons rfl (.cons rfl (.cons rfl .nil))) ?_
  refine x_cond rfl (fun hc1 => ?_) (fun hc1 => ?_)
  ·
    refine x_region ?_
    refine tl_y rfl (y_assign rfl) ?_
    refine tl_nil (.then_normal ?_)
    refine x_seq (x_region ?_)
    refine tl_y rfl (y_move (v := .int _ _) rfl) ?_
    refine tl_y rfl (y_quoI rfl rfl (by omega)) ?_
    refine tl_y rfl (y_move (v := .int _ _) rfl) ?_
    refine tl_y rfl (y_assign (v := .int _ _) rfl) ?_
    refine tl_y rfl (y_assign (v := .int _ _) rfl) ?_
    refine tl_nil (.then_normal ?_)
    refine .sub (F' := [(2, _), (3, _)]) (.cons rfl (.cons rfl .nil)) ?_
    refine x_ret (ret2 rfl rfl rfl (Le.refl _) ⟨rfl, rfl, by rw [szN, if_pos (by omega)]; rfl⟩)
  ·
    refine x_skip (.then_normal ?_)
    refine x_seq (x_region ?_)
    refine tl_y rfl (y_move (v := .int _ _) rfl) ?_
    refine tl_y rfl (y_quoI rfl rfl (by omega)) ?_
    refine tl_y rfl (y_move (v := .int _ _) rfl) ?_
    refine tl_y rfl (y_assign (v := .int _ _) rfl) ?_
    refine tl_y rfl (y_assign (v := .int _ _) rfl) ?_
    refine tl_nil (.then_normal ?_)
    refine .sub (F' := [(2, _), (3, _)]) (.cons rfl (.cons rfl .nil)) ?_
    refine x_ret (ret2 rfl rfl rfl (Le.refl _) ⟨rfl, rfl, by rw [szN, if_neg (by omega)]; rfl⟩)
theorem ROts_spec (code : UInt32) :
    Con Tryz.prog 54 #[.int .u32 (code.toNat : Int)] G M L (fun v M' L' => M = M' ∧ L = L' ∧ v = .tuple #[.agg (List.toArray (otsV code).cells), .int .i64 (otsE code)]) noPanic := by
  have hc := code.toNat_lt
  refine enter (args := [_]) (fn := Tryz.f54) ⟨Tryz.func54, rfl, by kernel_rfl, by kernel_rfl⟩ 47 rfl ?_
  refine x_seq (x_region ?_)
  refine tl_e rfl (e_alloc (fun b1 => ?_))
  refine tl_y rfl (y_assign rfl) ?_
  refine tl_nil (.then_normal ?_)
  refine x_seq (x_seq (x_region ?_))
  refine tl_y rfl (y_move (v := .int _ _) rfl) ?_
  refine tl_y rfl (y_lss rfl rfl) ?_
  refine tl_y rfl (y_move (v := .bool _) rfl) ?_
  refine tl_cases (s := 12) rfl (fun hk1 => ?_) (fun hk1 => ?_)
  ·
    have ho : otsOf code = none := by rw [otsOf, if_neg (by omega)]
    refine tl_skip rfl ?_
    refine tl_skip rfl ?_
    refine tl_y rfl (y_pickT rfl rfl) ?_
    refine tl_nil (.then_normal ?_)
    refine .sub (F' := [(0, _), (2, _), (15, _)]) (.cons rfl (.cons rfl (.cons rfl .nil))) ?_
    refine x_true rfl rfl ?_
    refine x_seq (x_region ?_)
    refine tl_y rfl (y_build rfl) ?_
    refine tl_e rfl (e_store rfl rfl (by rfl) (by rfl) inferInstance inferInstance inferInstance ?_)
    refine tl_y rfl (y_assign rfl) ?_
    refine tl_nil (.then_normal ?_)
    refine x_ret (.then_ret (retRV (L' := L) (rv2 rfl (rc_cellAgg (by rfl) rfl (.own inferInstance inferInstance)) (rc_tmp (by rfl))) inferInstance (Le.refl _) ⟨rfl, rfl, by rw [otsV, otsE, ho]; rfl⟩))
  ·
    refine tl_y rfl (y_move (v := .int _ _) rfl) ?_
    refine tl_y rfl (y_gtr rfl rfl) ?_
    refine tl_y rfl (y_pickF rfl rfl) ?_
    refine tl_nil (.then_normal ?_)
    refine .sub (F' := [(0, _), (2, _), (15, _)]) (.cons rfl (.cons rfl (.cons rfl .nil))) ?_
    refine x_cond rfl (fun hc1 => ?_) (fun hc1 => ?_)
    ·
      have ho : otsOf code = none := by rw [otsOf, if_neg (by omega)]
      refine x_seq (x_region ?_)
      refine tl_y rfl (y_build rfl) ?_
      refine tl_e rfl (e_store rfl rfl (by rfl) (by rfl) inferInstance inferInstance inferInstance ?_)
      refine tl_y rfl (y_assign rfl) ?_
      refine tl_nil (.then_normal ?_)
      refine x_ret (.then_ret (retRV (L' := L) (rv2 rfl (rc_cellAgg (by rfl) rfl (.own inferInstance inferInstance)) (rc_tmp (by rfl))) inferInstance (Le.refl _) ⟨rfl, rfl, by rw [otsV, otsE, ho]; rfl⟩))
    ·
      obtain ⟨i, hi⟩ : ∃ i, i = code.toNat - 1 := ⟨_, rfl⟩
      have hi4 : i % 4 < 4 := Nat.mod_lt _ (by omega)
      have hi16 : i < 16 := by omega
      obtain ⟨s1, s2, s3, s4, s5, s6, s7, s8, s9, s10⟩ := shape_fact (szN_is (i / 4)) (w_is i)
      refine x_skip (.then_normal ?_)
      refine x_seq (x_region ?_)
      refine tl_y rfl (y_move (v := .int _ _) rfl) ?_
      refine tl_y rfl (y_subN32 rfl rfl (by omega)) ?_
      refine tl_y rfl (y_convI rfl (by omega)) ?_
      rw [show (code.toNat : Int) - 1 = (i : Int) by omega]
      refine tl_y rfl (y_quoI rfl rfl (by omega)) ?_
      rw [show (i : Int) / 4 = ((i / 4 : Nat) : Int) by omega]
      refine tl_e rfl (e_call' rfl (Rsize_spec (i / 4) (by omega)) ?_)
      rintro _ _ _ _ ⟨rfl, rfl, rfl⟩
      refine tl_y rfl (y_move (v := .tuple _) rfl) ?_
      refine tl_y rfl (y_extract rfl) ?_
      refine tl_y rfl (y_extract rfl) ?_
      refine tl_y rfl (y_assign (v := .int _ _) rfl) ?_
      refine tl_y rfl (y_assign (v := .int _ _) rfl) ?_
      refine tl_nil (.then_normal ?_)
      refine .sub (F' := [(0, _), (2, _), (4, _), (5, _)]) (.cons rfl (.cons rfl (.cons rfl (.cons rfl .nil)))) ?_
      refine x_seq (x_region ?_)
      refine tl_e rfl (e_buildSlice rfl (by decide) (fun b2 => ?_))
      refine tl_y rfl (y_move (v := .int _ _) rfl) ?_
      refine tl_y rfl (y_subN32 rfl rfl (by omega)) ?_
      refine tl_y rfl (y_remI rfl rfl (by omega)) ?_
      rw [show ((code.toNat : Int) - 1) % 4 = ((i % 4 : Nat) : Int) by omega]
      refine tl_y rfl (y_indexAddr rfl rfl (by omega)) ?_
      refine tl_y rfl (y_load rfl rfl (.at_ (.ownAt (i := i % 4) (c := [Value.int .i64 1, .int .i64 2, .int .i64 4, .int .i64 8]) inferInstance (widths_get _ hi4)) (by omega))) ?_
      refine tl_y rfl (y_assign (v := .int _ _) rfl) ?_
      refine tl_nil (.then_normal ?_)
      refine .sub (F' := [(0, _), (2, _), (4, _), (5, _), (6, _)]) (.cons rfl (.cons rfl (.cons rfl (.cons rfl (.cons rfl .nil))))) ?_
      refine x_seq (x_region ?_)
      refine tl_y rfl (y_move (v := .int _ _) rfl) ?_
      refine tl_y rfl (y_move (v := .int _ _) rfl) ?_
      refine tl_e rfl (e_call' rfl (RShape_spec (szN_is (i / 4)) (w_is i)) ?_)
      rintro _ _ _ _ ⟨rfl, rfl, rfl⟩
      refine tl_y rfl (y_move (v := .tuple _) rfl) ?_
      refine tl_y rfl (y_extract rfl) ?_
      refine tl_y rfl (y_extract rfl) ?_
      refine tl_y rfl (y_extract rfl) ?_
      refine tl_y rfl (y_assign (v := .int _ _) rfl) ?_
      refine tl_y rfl (y_assign (v := .int _ _) rfl) ?_
      refine tl_y rfl (y_assign (v := .int _ _) rfl) ?_
      refine tl_nil (.then_normal ?_)
      refine .sub (F' := [(0, _), (2, _), (4, _), (5, _), (6, _), (7, _), (8, _), (9, _)]) (.cons rfl (.cons rfl (.cons rfl (.cons rfl (.cons rfl (.cons rfl (.cons rfl (.cons rfl .nil)))))))) ?_
      refine x_seq (x_region ?_)
      refine tl_y rfl (y_move (v := .int _ _) rfl) ?_
      refine tl_y rfl (y_move (v := .int _ _) rfl) ?_
      refine tl_y rfl (y_move (v := .int _ _) rfl) ?_
      refine tl_y rfl (y_move (v := .int _ _) rfl) ?_
      refine tl_y rfl (y_move (v := .int _ _) rfl) ?_
      refine tl_y rfl (y_move (v := .int _ _) rfl) ?_
      refine tl_y rfl (y_addI rfl rfl (by omega)) ?_
      refine tl_y rfl (y_move (v := .int _ _) rfl) ?_
      refine tl_y rfl (y_build rfl) ?_
      refine tl_e rfl (e_store rfl rfl (by rfl) (by rfl) inferInstance inferInstance inferInstance ?_)
      refine tl_y rfl (y_assign rfl) ?_
      refine tl_nil (.then_normal ?_)
      refine .sub (F' := [(2, _), (3, _)]) (.cons rfl (.cons rfl .nil)) ?_
      refine x_ret (retRV (L' := L) (rv2 rfl (rc_cellAgg (by rfl) rfl (.own inferInstance inferInstance)) (rc_tmp (by rfl))) inferInstance (Le.refl _) ⟨rfl, rfl, by
        rw [otsV, otsE, show otsOf code = some (otsT i) by rw [otsOf, if_pos (by omega), hi]]
        rw [Option.getD_some, otsT]
        show _ = Value.tuple #[.agg (List.toArray [.int .u32 ((UInt32.ofNat (i + 1)).toNat : Int), _, _, _, _, _]), _]
        rw [show (UInt32.ofNat (i + 1)).toNat = code.toNat by rw [UInt32.toNat_ofNat']; omega, show i / 8 = i / 4 / 2 by omega]
        rfl⟩)
end
end Go.Proofs.YtiimjodbaogjbaaGreatDoor
set_option linter.unusedVariables false
set_option linter.unusedSimpArgs false
set_option linter.constructorNameAsVariable false
namespace Go.Proofs.YtiimjodbaogjbaaGreatDoor
open Go Go.Eng
section
variable {G : World} {M : Mem} {L : Own}
theorem bool_iff {t : Bool} {p : Prop} [Decidable p] (h : t = true ↔ p) : t = decide p := by
  rw [Bool.eq_iff_iff, h]; simp
end
end Go.Proofs.YtiimjodbaogjbaaGreatDoor
set_option linter.unusedVariables false
set_option linter.unusedSimpArgs false
namespace Go.Proofs.YtiimjodbaogjbaaGreatDoor
open Go Go.Eng
def dig (w c k : Nat) : Nat := c / 2 ^ (8 - w * (k + 1)) % 2 ^ w
def dpb (w : Nat) : Nat := 8 / w
def digAt (w : Nat) (bs : List UInt8) (m : Nat) : Nat := dig w (bs.getD (m / dpb w) 0).toNat (m % dpb w)
def digs (w : Nat) (bs : List UInt8) (m : Nat) : List Nat := (List.range m).map (digAt w bs)
def lackN (w : Nat) (bs : List UInt8) (m : Nat) : Nat := ((digs w bs m).map fun d => 2 ^ w - 1 - d).sum
theorem digs_len (w : Nat) (bs : List UInt8) (m : Nat) : (digs w bs m).length = m := by simp [digs]
theorem digs_succ (w : Nat) (bs : List UInt8) (m : Nat) : digs w bs (m + 1) = digs w bs m ++ [digAt w bs m] := by rw [digs, List.range_succ, List.map_append]; rfl
theorem lackN_succ (w : Nat) (bs : List UInt8) (m : Nat) : lackN w bs (m + 1) = lackN w bs m + (2 ^ w - 1 - digAt w bs m) := by
  rw [lackN, digs_succ, List.map_append, List.sum_append]; simp [lackN]
theorem dpb_pos {w : Nat} (h : isW w) : 1 ≤ dpb w ∧ w * dpb w = 8 := by rcases h with rfl | rfl | rfl | rfl <;> decide
theorem digAt_lt (w : Nat) (bs : List UInt8) (m : Nat) : digAt w bs m < 2 ^ w := Nat.mod_lt _ (Nat.two_pow_pos w)
theorem lackN_le (w : Nat) (bs : List UInt8) : ∀ m, lackN w bs m ≤ m * (2 ^ w - 1)
  | 0 => by simp [lackN, digs]
  | m + 1 => by
    have := lackN_le w bs m
    rw [lackN_succ, Nat.succ_mul]
    omega
theorem lack_fits {n w : Nat} (hn : isN n) (hw : isW w) : shX n w * 2 ^ shS n w < 65536 ∧ shX n w = n * dpb w * (2 ^ w - 1) ∧ shV n w ≤ 2 * dpb w ∧ shU n w = n * dpb w := by
  rcases hn with rfl | rfl <;> rcases hw with rfl | rfl | rfl | rfl <;> decide
def lackX (n w : Nat) (bs : List UInt8) : Nat := lackN w bs (n * dpb w) * 2 ^ shS n w
theorem lackX_lt {n w : Nat} (hn : isN n) (hw : isW w) (bs : List UInt8) : lackX n w bs < 65536 := by
  obtain ⟨h1, h2, _⟩ := lack_fits hn hw
  have h3 := lackN_le w bs (n * dpb w)
  rw [← h2] at h3
  exact Nat.lt_of_le_of_lt (Nat.mul_le_mul_right _ h3) h1
def two (x : Nat) : List UInt8 := [UInt8.ofNat (x / 256), UInt8.ofNat (x % 256)]
def allD (n w : Nat) (bs : List UInt8) : List Nat := digs w bs (n * dpb w) ++ (digs w (two (lackX n w bs)) (2 * dpb w)).take (shV n w)
theorem allD_len {n w : Nat} (hn : isN n) (hw : isW w) (bs : List UInt8) : (allD n w bs).length = shU n w + shV n w := by
  obtain ⟨_, _, h3, h4⟩ := lack_fits hn hw
  rw [allD, List.length_append, digs_len, List.length_take, digs_len, Nat.min_eq_left h3, h4]
theorem allD_lt {n w : Nat} (bs : List UInt8) : ∀ d ∈ allD n w bs, d < 2 ^ w := by
  intro d hd
  rcases List.mem_append.1 hd with h | h
  · obtain ⟨m, _, rfl⟩ := List.mem_map.1 h
    exact digAt_lt _ _ _
  · obtain ⟨m, _, rfl⟩ := List.mem_map.1 (List.mem_of_mem_take h)
    exact digAt_lt _ _ _
end Go.Proofs.YtiimjodbaogjbaaGreatDoor
