/-
From a contract to a statement; what came in. What is listed of package-level variables.
-/
import Derived.Test.YtgpjbjbdfkiklaaDoorRef8Etc
import Derived.Test.YtgpjbjbdfkiklaaDoorEngIEtc
import Derived.WalkKit
import Derived.ProofKit
import Derived.OpenShut
import Derived.ShutString
import Derived.ChangeOld
import Derived.Below
import Derived.Deep.Slices
import Derived.LaidMore
import Derived.LaidLaws
import Derived.MakeChecks
import Derived.Stop.Joined
import Derived.SevenTiedAt
import Derived.Test.YtgpjbjbdfkiklaaDoorTypes1Etc
import Derived.Test.YtgpjbjbdfkiklaaDoorShaEtc
import Derived.Test.YtgpjbjbdfkiklaaDoorChecked
import Derived.Test.YtgpjbjbdfkiklaaDoorRows
import Derived.ChangeSame
set_option linter.unusedVariables false
set_option linter.unusedSimpArgs false
set_option linter.constructorNameAsVariable false
namespace Go.Proofs.YtgpjbjbdfkiklaaDoor
open Go Go.Eng
theorem f9 : ∃ o : OtsV, otsV 7 = o ∧ otsE 7 = 0 ∧ o.n = 24 ∧ o.kind = 0 ∧ o.w = 4 ∧ o.p = 51 ∧ otsE o.code = 0 ∧ otsV o.code = o := by
  refine ⟨otsV 7, rfl, ?_⟩
  decide +kernel
structure ChG (M : Mem) : Prop where
  sha : ShaG M
  kec : KecG M
  set : SetG M
theorem ChG.mono {M M' : Mem} (h : ChG M) (hle : Le M M') : ChG M' := ⟨h.sha.mono hle, h.kec.mono hle, h.set.mono hle⟩
section
variable {G : World} {M : Mem} {L : Own}
theorem awake9_spec (hg : ChG M) : Con Tryd.prog 12 #[] G M L (fun v M' L' => L = L' ∧ v = .bool true) noPanic := by
  obtain ⟨o, eo, ee, on, ok_, ow, op, oe, ov⟩ := f9
  refine enter (args := []) (fn := Tryd.f12) ⟨Tryd.func12, rfl, by kernel_rfl, by kernel_rfl⟩ 62 rfl ?_
  refine x_seq (x_region ?_)
  refine tl_y rfl (y_assign rfl) ?_
  refine tl_nil (.then_normal ?_)
  refine x_seq (x_region ?_)
  refine tl_e rfl (e_call' rfl (ROts_spec 7) ?_)
  rintro _ _ _ _ ⟨rfl, rfl, rfl⟩
  rw [eo]
  refine tl_y rfl (y_move (v := .tuple _) rfl) ?_
  refine tl_y rfl (y_extract rfl) ?_
  refine tl_y rfl (y_extract rfl) ?_
  refine tl_e rfl (e_alloc (fun b1 => ?_))
  refine tl_e rfl (e_store rfl rfl (by rfl) (by rfl) inferInstance inferInstance inferInstance ?_)
  refine tl_y rfl (y_assign (v := .int _ _) rfl) ?_
  refine tl_nil (.then_normal ?_)
  refine .sub (F' := [(1, _)]) (.cons rfl .nil) ?_
  refine x_seq (x_region ?_)
  refine tl_e rfl (e_make1 rfl rfl (by omega) (by omega) (by omega) (by omega) (fun bx => ?_))
  refine .pub bx inferInstance (fun M1 hM1 hbx => ?_)
  have hx : Bytes M1 (some ⟨bx, 0, none⟩) 24 24 (List.replicate 24 0) := Bytes.zeros hbx (by omega)
  refine tl_y rfl (y_assign (v := .slice _ _ _) rfl) ?_
  refine tl_nil (.then_normal ?_)
  refine x_seq (x_region ?_)
  refine tl_e rfl (e_make1 rfl rfl (by omega) (by omega) (by omega) (by omega) (fun bn => ?_))
  refine .pub bn inferInstance (fun M2 hM2 hbn => ?_)
  have hn : Bytes M2 (some ⟨bn, 0, none⟩) 16 16 (List.replicate 16 0) := Bytes.zeros hbn (by omega)
  replace hx := hx.mono hM2
  have hm := hM1.trans hM2
  have hR2 : okR o (List.replicate 16 (0 : UInt8)).length 2 (List.replicate 24 (0 : UInt8)).length := ⟨oe, ov, by simp, by omega, by omega, by rw [on]; simp⟩
  refine tl_y rfl (y_assign (v := .slice _ _ _) rfl) ?_
  refine tl_nil (.then_normal ?_)
  refine x_seq (x_region ?_)
  refine tl_e rfl (e_buildSlice rfl (by decide) (fun b4 => ?_))
  refine tl_e rfl (e_convMark rfl inferInstance (fun M3 fr3 hM3 hb3 => ?_))
  have ha : Bytes M3 (some ⟨b4, 0, none⟩) 1 1 [97] := Row.whole hb3 rfl (by omega)
  refine tl_e rfl (e_buildSlice rfl (by decide) (fun b5 => ?_))
  refine tl_e rfl (e_convMark rfl inferInstance (fun M4 fr4 hM4 hb4 => ?_))
  have hb : Bytes M4 (some ⟨b5, 0, none⟩) 2 2 [98, 99] := Row.whole hb4 rfl (by omega)
  refine tl_e rfl (e_buildSlice rfl (by decide) (fun b6 => ?_))
  refine .pub b6 inferInstance (fun M5 hM5 hb6 => ?_)
  replace hm := hm.trans (hM3.trans (hM4.trans hM5))
  have hm5 := hM3.trans (hM4.trans hM5)
  refine tl_e rfl (e_call' rfl (Sum_spec (hg.mono hm).sha (hg.mono hm).kec 0 32 (Row.whole hb6 rfl (by omega)) (.cons (ha.mono (hM4.trans hM5)) (.cons (hb.mono hM5) .nil)) (by decide)) ?_)
  rintro _ M6 L hM6 ⟨rfl, A6, m6, c6, rfl, hA6⟩
  replace hm := hm.trans hM6
  rw [cSum, if_pos (by decide), csum, if_pos rfl, show ([[97], [98, 99]] : List (List UInt8)).flatten = [97, 98, 99] from rfl, show (32 : Int).toNat = 32 from rfl, List.take_of_length_le (by rw [sha_length]; omega)] at hA6
  have hm6 := hA6.size
  rw [sha_length] at hm6
  obtain rfl : m6 = 32 := hm6.symm
  obtain ⟨g6, o6, rfl, hc6⟩ := hA6.byte (by omega)
  have hba : (sha [97, 98, 99]).getD 0 0 = 186 := by
    have := sha_abc
    have hl := sha_length [97, 98, 99]
    generalize sha [97, 98, 99] = s at this hl
    match s, this with
    | a :: s, this => simpa using this
  have hv6 := fun L => hc6 L 0 (by omega)
  rw [hba] at hv6
  have hx6 := hx.mono (hm5.trans hM6)
  have hn6 := hn.mono (hm5.trans hM6)
  refine tl_y rfl (y_assign (v := .slice _ _ _) rfl) ?_
  refine tl_nil (.then_normal ?_)
  refine .sub (F' := [(1, _), (3, _), (4, _), (5, _)]) (.cons rfl (.cons rfl (.cons rfl (.cons rfl .nil)))) ?_
  refine x_seq (x_region ?_)
  refine tl_y rfl (y_loadAgg rfl rfl (.own inferInstance inferInstance)) ?_
  refine tl_y rfl (y_move (v := .slice _ _ _) rfl) ?_
  refine tl_y rfl (y_move (v := .slice _ _ _) rfl) ?_
  refine tl_e rfl (e_call' rfl (Up_spec' (hg.mono hm).sha (hg.mono hm).kec (hg.mono hm).set o hn6 hx6 5 2 3 3) ?_)
  rintro _ M7 L hM7 ⟨rfl, A7, m7, c7, rfl, hA7⟩
  replace hm := hm.trans hM7
  rw [cUp, if_pos ⟨hR2, by omega, by omega, by rw [ow]; decide⟩, show ((3 : Int) - 3).toNat = 0 from rfl, upC] at hA7
  refine tl_y rfl (y_assign (v := .slice _ _ _) rfl) ?_
  refine tl_nil (.then_normal ?_)
  refine .sub (F' := [(1, _), (3, _), (4, _), (5, _), (6, _)]) (.cons rfl (.cons rfl (.cons rfl (.cons rfl (.cons rfl .nil))))) ?_
  refine x_seq (x_region ?_)
  refine tl_y rfl (y_loadAgg rfl rfl (.own inferInstance inferInstance)) ?_
  refine tl_y rfl (y_move (v := .slice _ _ _) rfl) ?_
  refine tl_y rfl (y_move (v := .slice _ _ _) rfl) ?_
  refine tl_e rfl (e_call' rfl (Step_spec (hg.mono hm).sha (hg.mono hm).kec (hg.mono hm).set o (hn6.mono hM7) (hx6.mono hM7) 5 2 3) ?_)
  rintro _ M8 L hM8 ⟨rfl, A8, m8, c8, rfl, hA8⟩
  replace hm := hm.trans hM8
  have hv8 : ∀ L, CellAt M8 L ⟨g6, o6 + 0, none⟩ (.int .u8 ((186 : UInt8).toNat : Int)) := fun L w hw => hv6 L w ⟨fun b o h => hw.ro b o (hM8 b o (hM7 b o h)), hw.own⟩
  refine tl_y rfl (y_assign (v := .slice _ _ _) rfl) ?_
  refine tl_nil (.then_normal ?_)
  refine .sub (F' := [(1, _), (3, _), (4, _), (5, _), (6, _), (7, _)]) (.cons rfl (.cons rfl (.cons rfl (.cons rfl (.cons rfl (.cons rfl .nil)))))) ?_
  refine x_seq (x_region ?_)
  refine tl_y rfl (y_move (v := .slice _ _ _) rfl) ?_
  refine tl_y rfl (y_len rfl) ?_
  refine tl_y rfl (y_eql rfl rfl) ?_
  refine tl_y rfl (y_move (v := .bool _) rfl) ?_
  refine tl_set (s := 31) (u := .bool true) rfl (rfl) ?_
  refine tl_y rfl (y_move (v := .slice _ _ _) rfl) ?_
  refine tl_y rfl (y_indexAddr rfl rfl (by omega)) ?_
  refine tl_y rfl (y_load rfl rfl (.at_ (hv8 _) (by omega))) ?_
  refine tl_y rfl (y_eql rfl rfl) ?_
  refine tl_y rfl (y_pickT rfl rfl) ?_
  refine tl_y rfl (y_move (v := .bool _) rfl) ?_
  refine tl_set (s := 37) (u := .bool true) rfl (rfl) ?_
  refine tl_y rfl (y_move (v := .slice _ _ _) rfl) ?_
  refine tl_y rfl (y_move (v := .slice _ _ _) rfl) ?_
  refine tl_e rfl (e_call' rfl (same_spec (hA7.mono hM8) (hx6.mono (hM7.trans hM8))) ?_)
  rintro _ _ _ _ ⟨rfl, rfl, rfl⟩
  refine tl_y rfl (y_pickT rfl rfl) ?_
  refine tl_y rfl (y_move (v := .bool _) rfl) ?_
  refine tl_set (s := 42) (u := .bool true) rfl (by simp) ?_
  refine tl_y rfl (y_move (v := .slice _ _ _) rfl) ?_
  refine tl_y rfl (y_loadAgg rfl rfl (.own inferInstance inferInstance)) ?_
  refine tl_y rfl (y_move (v := .slice _ _ _) rfl) ?_
  refine tl_y rfl (y_move (v := .slice _ _ _) rfl) ?_
  refine tl_e rfl (e_call' rfl (RStep_spec9 o (hn6.mono (hM7.trans hM8)) (hx6.mono (hM7.trans hM8)) 5 2 3) ?_)
  rintro _ M9 _ hM9 ⟨rfl, A9, m9, c9, rfl, hA9⟩
  replace hm := hm.trans hM9
  refine tl_e rfl (e_call' rfl (same_spec (hA8.mono hM9) hA9) ?_)
  rintro _ _ _ _ ⟨rfl, rfl, rfl⟩
  refine tl_y rfl (y_pickT rfl rfl) ?_
  refine tl_y rfl (y_move (v := .bool _) rfl) ?_
  refine tl_set (s := 50) (u := .bool true) rfl (by simp) ?_
  refine tl_y rfl (y_move (v := .slice _ _ _) rfl) ?_
  refine tl_e rfl (e_call' rfl (Part_spec (hg.mono hm).sha (hg.mono hm).kec 0 25 (hn6.mono (hM7.trans (hM8.trans hM9))) 1 2 (by omega) (Row.nil _ _) .nil (by decide)) ?_)
  rintro _ M10 L hM10 ⟨rfl, A10, m10, c10, rfl, hA10⟩
  replace hm := hm.trans hM10
  have h10 := hA10.size
  rw [cPart, if_pos (by simp), cSum, if_neg (by decide)] at h10
  obtain rfl : m10 = 0 := h10.symm
  refine tl_y rfl (y_len rfl) ?_
  refine tl_y rfl (y_eql rfl rfl) ?_
  refine tl_y rfl (y_pickT rfl rfl) ?_
  refine tl_y rfl (y_move (v := .bool _) rfl) ?_
  refine tl_set (s := 56) (u := .bool true) rfl (rfl) ?_
  refine tl_y rfl (y_move (v := .slice _ _ _) rfl) ?_
  refine tl_e rfl (e_call' rfl (Part_spec (hg.mono hm).sha (hg.mono hm).kec 0 24 (hn6.mono (hM7.trans (hM8.trans (hM9.trans hM10)))) 1 2 (by omega) (Row.nil _ _) .nil (by decide)) ?_)
  rintro _ M11 L hM11 ⟨rfl, A11, m11, c11, rfl, hA11⟩
  have h11 := hA11.size
  rw [cPart, if_pos (by simp), cSum, if_pos (by decide), csum_length (by decide) _ (sha_length _)] at h11
  obtain rfl : m11 = 24 := h11.symm
  refine tl_y rfl (y_len rfl) ?_
  refine tl_y rfl (y_eql rfl rfl) ?_
  refine tl_y rfl (y_pickT rfl rfl) ?_
  refine tl_y rfl (y_assign (v := .bool _) rfl) ?_
  refine tl_nil (.then_normal ?_)
  refine .sub (F' := [(0, _)]) (.cons rfl .nil) ?_
  refine x_ret (.dropTo L inferInstance (ret1 rfl rfl (hm.trans hM11) ⟨rfl, rfl⟩))
end
end Go.Proofs.YtgpjbjbdfkiklaaDoor
set_option linter.unusedVariables false
set_option linter.unusedSimpArgs false
set_option linter.constructorNameAsVariable false
namespace Go.Proofs.YtgpjbjbdfkiklaaDoor
open Go Go.Eng
section
variable {G : World} {M : Mem} {L : Own}
theorem u16_wrap (v : Int) : ∃ d : Nat, d ≤ 65535 ∧ IntKind.u16.wrap v = (d : Int) := ⟨(v % 65536).toNat, by omega, by rw [wrapU16]; omega⟩
theorem half_flat (text : List UInt8) (k : Nat) : [text.take k, text.drop k].flatten = text := by simp
theorem ChainSums_spec (hg : ChG M) (kind n : Int) {NA : Option Addr} {nl nc : Nat} {name : List UInt8} (hname : Bytes M NA nl nc name) (q : UInt32) (pi pf pt : Int) {A : Option Addr} {m c : Nat} {text : List UInt8} (h : Bytes M A m c text) :
    Con Tryd.prog 3 #[.agg #[.int .i64 kind, .int .i64 n], .agg #[.slice NA nl nc, .int .u32 (q.toNat : Int), .int .i64 pi, .int .i64 pf, .int .i64 pt], .slice A m c] G M L (fun v M' L' => v = .bool true) noPanic := by
  have hnl := hname.size
  have hml := h.size
  have hmc := h.le
  refine enter (args := [_, _, _]) (fn := Tryd.f3) ⟨Tryd.func3, rfl, by kernel_rfl, by kernel_rfl⟩ 87 rfl ?_
  refine x_seq (x_region ?_)
  refine tl_e rfl (e_box rfl (fun b1 => ?_))
  refine tl_e rfl (e_box rfl (fun b2 => ?_))
  refine tl_y rfl (y_assign rfl) ?_
  refine tl_nil (.then_normal ?_)
  refine x_seq (x_seq (x_region ?_))
  refine tl_e rfl (e_call' rfl (awake9_spec hg) ?_)
  rintro _ M1 _ hM1 ⟨rfl, rfl⟩
  have hm := hM1
  refine tl_y rfl (y_not rfl) ?_
  refine tl_nil (.then_normal ?_)
  refine .sub (F' := [(2, _), (3, _), (4, _), (12, _)]) (.cons rfl (.cons rfl (.cons rfl (.cons rfl .nil)))) ?_
  refine x_false rfl (rfl) ?_
  refine x_skip (.then_normal ?_)
  refine x_seq (x_region ?_)
  refine tl_y rfl (y_indexArrK 0 rfl rfl (by omega)) ?_
  refine tl_y rfl (y_load rfl rfl (.own inferInstance inferInstance)) ?_
  refine tl_y rfl (y_assign (v := .int _ _) rfl) ?_
  refine tl_nil (.then_normal ?_)
  refine x_seq (x_region ?_)
  refine tl_y rfl (y_indexArrK 1 rfl rfl (by omega)) ?_
  refine tl_y rfl (y_load rfl rfl (.own inferInstance inferInstance)) ?_
  refine tl_y rfl (y_assign (v := .int _ _) rfl) ?_
  refine tl_nil (.then_normal ?_)
  refine .sub (F' := [(2, _), (4, _), (7, _), (8, _)]) (.cons rfl (.cons rfl (.cons rfl (.cons rfl .nil)))) ?_
  refine x_seq (x_region ?_)
  refine tl_y rfl (y_fieldAddr rfl) ?_
  refine tl_y rfl (y_load rfl rfl (.own inferInstance inferInstance)) ?_
  refine tl_y rfl (y_mul32 (b := 7) rfl rfl) ?_
  refine tl_y rfl (y_conv rfl) ?_
  obtain ⟨d, hd16, hde⟩ := u16_wrap ((q * 7).toNat : Int)
  rw [hde]
  refine tl_y rfl (y_assign (v := .int _ _) rfl) ?_
  refine tl_nil (.then_normal ?_)
  refine .sub (F' := [(2, _), (4, _), (7, _), (8, _), (9, _)]) (.cons rfl (.cons rfl (.cons rfl (.cons rfl (.cons rfl .nil))))) ?_
  refine x_seq (x_seq (x_region ?_))
  refine tl_y rfl (y_move (v := .slice _ _ _) rfl) ?_
  refine tl_y rfl (y_len rfl) ?_
  refine tl_y rfl (y_gtr rfl rfl) ?_
  refine tl_y rfl (y_move (v := .bool _) rfl) ?_
  refine tl_cases (s := 24) rfl (fun hk1 => ?_) (fun hk1 => ?_)
  ·
    refine tl_skip rfl ?_
    refine tl_skip rfl ?_
    refine tl_skip rfl ?_
    refine tl_skip rfl ?_
    refine tl_y rfl (y_pickT rfl rfl) ?_
    refine tl_nil (.then_normal ?_)
    refine .sub (F' := [(2, _), (4, _), (7, _), (8, _), (9, _), (29, _)]) (.cons rfl (.cons rfl (.cons rfl (.cons rfl (.cons rfl (.cons rfl .nil)))))) ?_
    refine x_true rfl rfl ?_
    refine x_seq (x_region ?_)
    refine tl_y rfl (y_assign rfl) ?_
    refine tl_nil (.then_normal ?_)
    refine .sub (F' := [(6, _)]) (.cons rfl .nil) ?_
    refine x_ret (.then_ret (ret1 rfl rfl hm rfl))
  ·
    refine tl_y rfl (y_fieldAddr rfl) ?_
    refine tl_y rfl (y_load rfl rfl (.own inferInstance inferInstance)) ?_
    refine tl_y rfl (y_len rfl) ?_
    refine tl_y rfl (y_gtr rfl rfl) ?_
    refine tl_y rfl (y_pickF rfl rfl) ?_
    refine tl_nil (.then_normal ?_)
    refine .sub (F' := [(2, _), (4, _), (7, _), (8, _), (9, _), (29, _)]) (.cons rfl (.cons rfl (.cons rfl (.cons rfl (.cons rfl (.cons rfl .nil)))))) ?_
    refine x_cond rfl (fun hc2 => ?_) (fun hc2 => ?_)
    ·
      refine x_seq (x_region ?_)
      refine tl_y rfl (y_assign rfl) ?_
      refine tl_nil (.then_normal ?_)
      refine .sub (F' := [(6, _)]) (.cons rfl .nil) ?_
      refine x_ret (.then_ret (ret1 rfl rfl hm rfl))
    ·
      have hm2000 : m ≤ 2000 := by omega
      refine x_skip (.then_normal ?_)
      refine x_seq (x_region ?_)
      refine tl_y rfl (y_move (v := .slice _ _ _) rfl) ?_
      refine tl_y rfl (y_len rfl) ?_
      refine tl_y rfl (y_quoI rfl rfl (by omega)) ?_
      rw [show (m : Int) / 2 = ((m / 2 : Nat) : Int) by omega]
      refine tl_y rfl (y_assign (v := .int _ _) rfl) ?_
      refine tl_nil (.then_normal ?_)
      refine .sub (F' := [(2, _), (4, _), (7, _), (8, _), (9, _), (10, _)]) (.cons rfl (.cons rfl (.cons rfl (.cons rfl (.cons rfl (.cons rfl .nil)))))) ?_
      refine x_seq ?_
      have hd : Le M1 M1 := Le.refl _
      refine x_draw 55 hmix rfl ?_
      refine to_p 0 rfl (by kernel_rfl) rfl (y_move (v := .int _ _) rfl) ?_
      refine to_p 1 rfl (by kernel_rfl) rfl (y_move (v := .int _ _) rfl) ?_
      refine to_p 2 rfl (by kernel_rfl) rfl (y_move (v := .slice _ _ _) rfl) ?_
      refine to_p 5 rfl (by kernel_rfl) rfl (y_move (v := .int _ _) rfl) ?_
      refine to_p 6 rfl (by kernel_rfl) rfl (y_move (v := .int _ _) rfl) ?_
      refine to_p 7 rfl (by kernel_rfl) rfl (y_move (v := .slice _ _ _) rfl) ?_
      refine to_e 3 rfl (by kernel_rfl) rfl (e_buildSlice rfl (by decide) (fun b3 => ?_))
      refine ⟨⟨hd, Keeps.mem⟩, ?_⟩
      refine .pub b3 inferInstance (fun M2 hM2 hb3 => ?_)
      replace hd := hd.trans hM2
      replace hm := hm.trans hM2
      have ht2 := h.mono hm
      have hfl1 : [text].flatten = text := by simp
      refine to_e 4 rfl (by kernel_rfl) rfl (e_call' rfl (Sum_spec (hg.mono hm).sha (hg.mono hm).kec kind n (Row.whole hb3 rfl (by omega)) (.cons ht2 .nil) (by rw [hfl1]; omega)) ?_)
      rintro _ M3 _ hM3 ⟨rfl, A3, m3, c3, rfl, hA3⟩
      rw [hfl1] at hA3
      replace hd := hd.trans hM3
      replace hm := hm.trans hM3
      refine ⟨⟨(by first | exact Le.refl _ | assumption), Keeps.mem⟩, ?_⟩
      refine to_e 8 rfl (by kernel_rfl) rfl (e_call' rfl (RSum_spec kind n (h.mono hm).in_ (by omega)) ?_)
      rintro _ M4 _ hM4 ⟨rfl, A4, m4, c4, rfl, hA4⟩
      replace hd := hd.trans hM4
      replace hm := hm.trans hM4
      refine ⟨⟨(by first | exact Le.refl _ | assumption), Keeps.mem⟩, ?_⟩
      refine to_e 9 rfl (by kernel_rfl) rfl (e_call' rfl (same_spec (hA3.mono hM4) hA4) ?_)
      rintro _ _ _ _ ⟨rfl, rfl, rfl⟩
      refine ⟨⟨(by first | exact Le.refl _ | assumption), Keeps.mem⟩, ?_⟩
      refine to_p 10 rfl (by kernel_rfl) rfl (y_move (v := .bool _) rfl) ?_
      refine to_set (s := 43) (u := .bool true) rfl (by simp) ?_
      refine to_p 11 rfl (by kernel_rfl) rfl (y_move (v := .int _ _) rfl) ?_
      refine to_p 12 rfl (by kernel_rfl) rfl (y_move (v := .int _ _) rfl) ?_
      refine to_p 13 rfl (by kernel_rfl) rfl (y_move (v := .slice _ _ _) rfl) ?_
      refine to_p 14 rfl (by kernel_rfl) rfl (y_move (v := .int _ _) rfl) ?_
      refine to_p 15 rfl (by kernel_rfl) rfl (y_sliceH rfl rfl (by omega) (by omega)) ?_
      refine to_p 16 rfl (by kernel_rfl) rfl (y_move (v := .slice _ _ _) rfl) ?_
      refine to_p 17 rfl (by kernel_rfl) rfl (y_move (v := .int _ _) rfl) ?_
      refine to_p 18 rfl (by kernel_rfl) rfl (y_sliceL rfl rfl (by omega)) ?_
      refine to_p 21 rfl (by kernel_rfl) rfl (y_move (v := .int _ _) rfl) ?_
      refine to_p 22 rfl (by kernel_rfl) rfl (y_move (v := .int _ _) rfl) ?_
      refine to_p 23 rfl (by kernel_rfl) rfl (y_move (v := .slice _ _ _) rfl) ?_
      refine to_e 19 rfl (by kernel_rfl) rfl (e_buildSlice rfl (by decide) (fun b4 => ?_))
      refine ⟨⟨hd, Keeps.mem⟩, ?_⟩
      refine .pub b4 inferInstance (fun M5 hM5 hb4 => ?_)
      replace hd := hd.trans hM5
      replace hm := hm.trans hM5
      have ht5 := h.mono hm
      refine to_e 20 rfl (by kernel_rfl) rfl (e_call' rfl (Sum_spec (hg.mono hm).sha (hg.mono hm).kec kind n (Row.whole hb4 rfl (by omega)) (.cons (Bytes.take ht5 (m / 2) (by omega)) (.cons (Bytes.drop ht5 (m / 2) (by omega)) .nil)) (by rw [half_flat]; omega)) ?_)
      rintro _ M6 _ hM6 ⟨rfl, A6, m6, c6, rfl, hA6⟩
      rw [half_flat] at hA6
      replace hd := hd.trans hM6
      replace hm := hm.trans hM6
      refine ⟨⟨(by first | exact Le.refl _ | assumption), Keeps.mem⟩, ?_⟩
      refine to_e 24 rfl (by kernel_rfl) rfl (e_call' rfl (RSum_spec kind n (h.mono hm).in_ (by omega)) ?_)
      rintro _ M7 _ hM7 ⟨rfl, A7, m7, c7, rfl, hA7⟩
      replace hd := hd.trans hM7
      replace hm := hm.trans hM7
      refine ⟨⟨(by first | exact Le.refl _ | assumption), Keeps.mem⟩, ?_⟩
      refine to_e 25 rfl (by kernel_rfl) rfl (e_call' rfl (same_spec (hA6.mono hM7) hA7) ?_)
      rintro _ _ _ _ ⟨rfl, rfl, rfl⟩
      refine ⟨⟨(by first | exact Le.refl _ | assumption), Keeps.mem⟩, ?_⟩
      refine to_p 26 rfl (by kernel_rfl) rfl (y_pickT rfl rfl) ?_
      refine to_p 27 rfl (by kernel_rfl) rfl (y_move (v := .bool _) rfl) ?_
      refine to_set (s := 60) (u := .bool true) rfl (by simp) ?_
      refine to_p 28 rfl (by kernel_rfl) rfl (y_move (v := .int _ _) rfl) ?_
      refine to_p 29 rfl (by kernel_rfl) rfl (y_move (v := .int _ _) rfl) ?_
      refine to_p 30 rfl (by kernel_rfl) rfl (y_fieldAddr rfl) ?_
      refine to_y 31 rfl (by kernel_rfl) rfl (y_load rfl rfl (.own inferInstance inferInstance)) ?_
      refine to_p 32 rfl (by kernel_rfl) rfl (y_fieldAddr rfl) ?_
      refine to_y 33 rfl (by kernel_rfl) rfl (y_load rfl rfl (.own inferInstance inferInstance)) ?_
      refine to_p 34 rfl (by kernel_rfl) rfl (y_move (v := .int _ _) rfl) ?_
      refine to_p 35 rfl (by kernel_rfl) rfl (y_move (v := .slice _ _ _) rfl) ?_
      refine to_p 36 rfl (by kernel_rfl) rfl (y_move (v := .int _ _) rfl) ?_
      refine to_p 37 rfl (by kernel_rfl) rfl (y_sliceH rfl rfl (by omega) (by omega)) ?_
      refine to_p 38 rfl (by kernel_rfl) rfl (y_move (v := .slice _ _ _) rfl) ?_
      refine to_p 39 rfl (by kernel_rfl) rfl (y_move (v := .int _ _) rfl) ?_
      refine to_p 40 rfl (by kernel_rfl) rfl (y_sliceL rfl rfl (by omega)) ?_
      refine to_p 43 rfl (by kernel_rfl) rfl (y_move (v := .int _ _) rfl) ?_
      refine to_p 44 rfl (by kernel_rfl) rfl (y_move (v := .int _ _) rfl) ?_
      refine to_p 45 rfl (by kernel_rfl) rfl (y_fieldAddr rfl) ?_
      refine to_y 46 rfl (by kernel_rfl) rfl (y_load rfl rfl (.own inferInstance inferInstance)) ?_
      refine to_p 47 rfl (by kernel_rfl) rfl (y_fieldAddr rfl) ?_
      refine to_y 48 rfl (by kernel_rfl) rfl (y_load rfl rfl (.own inferInstance inferInstance)) ?_
      refine to_p 49 rfl (by kernel_rfl) rfl (y_move (v := .int _ _) rfl) ?_
      refine to_p 50 rfl (by kernel_rfl) rfl (y_move (v := .slice _ _ _) rfl) ?_
      refine to_e 41 rfl (by kernel_rfl) rfl (e_buildSlice rfl (by decide) (fun b5 => ?_))
      refine ⟨⟨hd, Keeps.mem⟩, ?_⟩
      refine .pub b5 inferInstance (fun M8 hM8 hb5 => ?_)
      replace hd := hd.trans hM8
      replace hm := hm.trans hM8
      have ht8 := h.mono hm
      refine to_e 42 rfl (by kernel_rfl) rfl (e_call' rfl (Part_spec (hg.mono hm).sha (hg.mono hm).kec kind n (hname.mono hm) q d hd16 (Row.whole hb5 rfl (by omega)) (.cons (Bytes.take ht8 (m / 2) (by omega)) (.cons (Bytes.drop ht8 (m / 2) (by omega)) .nil)) (by rw [half_flat]; omega)) ?_)
      rintro _ M9 _ hM9 ⟨rfl, A9, m9, c9, rfl, hA9⟩
      rw [half_flat] at hA9
      replace hd := hd.trans hM9
      replace hm := hm.trans hM9
      refine ⟨⟨(by first | exact Le.refl _ | assumption), Keeps.mem⟩, ?_⟩
      refine to_e 51 rfl (by kernel_rfl) rfl (e_call' rfl (RPart_spec kind n (hname.mono hm) q d hd16 (h.mono hm) (by omega)) ?_)
      rintro _ M10 _ hM10 ⟨rfl, A10, m10, c10, rfl, hA10⟩
      replace hd := hd.trans hM10
      replace hm := hm.trans hM10
      refine ⟨⟨(by first | exact Le.refl _ | assumption), Keeps.mem⟩, ?_⟩
      refine to_e 52 rfl (by kernel_rfl) rfl (e_call' rfl (same_spec (hA9.mono hM10) hA10) ?_)
      rintro _ _ _ _ ⟨rfl, rfl, rfl⟩
      refine ⟨⟨(by first | exact Le.refl _ | assumption), Keeps.mem⟩, ?_⟩
      refine to_p 53 rfl (by kernel_rfl) rfl (y_pickT rfl rfl) ?_
      refine to_p 54 rfl (by kernel_rfl) rfl (y_assign (v := .bool _) rfl) ?_
      refine to_nil (by kernel_rfl) (.then_normal ?_)
      refine .sub (F' := [(6, _)]) (.cons rfl .nil) ?_
      refine x_ret (ret1 rfl rfl hm (by simp))
theorem ChainSteps_spec (hg : ChG M) (o : OtsV) {NA : Option Addr} {nl nc : Nat} {name : List UInt8} (hname : Bytes M NA nl nc name) (q : UInt32) (pi pf pt : Int) {A : Option Addr} {m c : Nat} {x : List UInt8} (h : Bytes M A m c x) :
    Con Tryd.prog 4 #[.agg (List.toArray o.cells), .agg #[.slice NA nl nc, .int .u32 (q.toNat : Int), .int .i64 pi, .int .i64 pf, .int .i64 pt], .slice A m c] G M L (fun v M' L' => v = .bool true) noPanic := by
  have hnl := hname.size
  have hml := h.size
  have hmc := h.le
  refine enter (args := [_, _, _]) (fn := Tryd.f4) ⟨Tryd.func4, rfl, by kernel_rfl, by kernel_rfl⟩ 79 rfl ?_
  refine x_seq (x_region ?_)
  refine tl_e rfl (e_box rfl (fun b1 => ?_))
  refine tl_e rfl (e_box rfl (fun b2 => ?_))
  refine tl_y rfl (y_assign rfl) ?_
  refine tl_nil (.then_normal ?_)
  refine x_seq (x_seq (x_region ?_))
  refine tl_e rfl (e_call' rfl (awake9_spec hg) ?_)
  rintro _ M1 _ hM1 ⟨rfl, rfl⟩
  have hm := hM1
  refine tl_y rfl (y_not rfl) ?_
  refine tl_nil (.then_normal ?_)
  refine .sub (F' := [(2, _), (3, _), (4, _), (9, _)]) (.cons rfl (.cons rfl (.cons rfl (.cons rfl .nil)))) ?_
  refine x_false rfl (rfl) ?_
  refine x_skip (.then_normal ?_)
  refine x_seq (x_seq (x_region ?_))
  refine tl_y rfl (y_move (v := .slice _ _ _) rfl) ?_
  refine tl_y rfl (y_len rfl) ?_
  refine tl_y rfl (y_gtr rfl rfl) ?_
  refine tl_y rfl (y_move (v := .bool _) rfl) ?_
  refine tl_cases (s := 13) rfl (fun hk1 => ?_) (fun hk1 => ?_)
  ·
    refine tl_skip rfl ?_
    refine tl_skip rfl ?_
    refine tl_skip rfl ?_
    refine tl_skip rfl ?_
    refine tl_y rfl (y_pickT rfl rfl) ?_
    refine tl_nil (.then_normal ?_)
    refine .sub (F' := [(2, _), (3, _), (4, _), (18, _)]) (.cons rfl (.cons rfl (.cons rfl (.cons rfl .nil)))) ?_
    refine x_true rfl rfl ?_
    refine x_seq (x_region ?_)
    refine tl_y rfl (y_assign rfl) ?_
    refine tl_nil (.then_normal ?_)
    refine .sub (F' := [(6, _)]) (.cons rfl .nil) ?_
    refine x_ret (.then_ret (ret1 rfl rfl hm rfl))
  ·
    refine tl_y rfl (y_fieldAddr rfl) ?_
    refine tl_y rfl (y_load rfl rfl (.own inferInstance inferInstance)) ?_
    refine tl_y rfl (y_len rfl) ?_
    refine tl_y rfl (y_gtr rfl rfl) ?_
    refine tl_y rfl (y_pickF rfl rfl) ?_
    refine tl_nil (.then_normal ?_)
    refine .sub (F' := [(2, _), (3, _), (4, _), (18, _)]) (.cons rfl (.cons rfl (.cons rfl (.cons rfl .nil)))) ?_
    refine x_cond rfl (fun hc2 => ?_) (fun hc2 => ?_)
    ·
      refine x_seq (x_region ?_)
      refine tl_y rfl (y_assign rfl) ?_
      refine tl_nil (.then_normal ?_)
      refine .sub (F' := [(6, _)]) (.cons rfl .nil) ?_
      refine x_ret (.then_ret (ret1 rfl rfl hm rfl))
    ·
      have hm100 : m ≤ 100 := by omega
      refine x_skip (.then_normal ?_)
      refine x_seq (x_region ?_)
      refine tl_e rfl (e_buildSlice0 (fun b3 => ?_))
      refine tl_y rfl (y_move (v := .slice _ _ _) rfl) ?_
      refine tl_e rfl (e_append1 (by decide) rfl rfl OwnRow.made00 (.row (h.mono hm)) (all_one_bv _) (by omega) (by omega) (fun A2 c2 E2 hE2 => ?_))
      rw [Nat.zero_add, List.nil_append] at hE2
      rw [Nat.zero_add]
      refine .pubRow hE2 (fun M2 hM2 hown => ?_)
      replace hm := hm.trans hM2
      refine tl_y rfl (y_assign (v := .slice _ _ _) rfl) ?_
      refine tl_nil (.then_normal ?_)
      refine .sub (F' := [(2, _), (3, _), (4, _), (7, _)]) (.cons rfl (.cons rfl (.cons rfl (.cons rfl .nil)))) ?_
      refine x_seq ?_
      have hd : Le M2 M2 := Le.refl _
      refine x_draw 58 hmix rfl ?_
      refine to_y 0 rfl (by kernel_rfl) rfl (y_loadAgg rfl rfl (.own inferInstance inferInstance)) ?_
      refine to_p 1 rfl (by kernel_rfl) rfl (y_fieldAddr rfl) ?_
      refine to_y 2 rfl (by kernel_rfl) rfl (y_load rfl rfl (.own inferInstance inferInstance)) ?_
      refine to_p 3 rfl (by kernel_rfl) rfl (y_fieldAddr rfl) ?_
      refine to_y 4 rfl (by kernel_rfl) rfl (y_load rfl rfl (.own inferInstance inferInstance)) ?_
      refine to_p 5 rfl (by kernel_rfl) rfl (y_fieldAddr rfl) ?_
      refine to_y 6 rfl (by kernel_rfl) rfl (y_load rfl rfl (.own inferInstance inferInstance)) ?_
      refine to_p 7 rfl (by kernel_rfl) rfl (y_fieldAddr rfl) ?_
      refine to_y 8 rfl (by kernel_rfl) rfl (y_load rfl rfl (.own inferInstance inferInstance)) ?_
      refine to_p 9 rfl (by kernel_rfl) rfl (y_move (v := .slice _ _ _) rfl) ?_
      refine to_y 11 rfl (by kernel_rfl) rfl (y_loadAgg rfl rfl (.own inferInstance inferInstance)) ?_
      refine to_p 12 rfl (by kernel_rfl) rfl (y_fieldAddr rfl) ?_
      refine to_y 13 rfl (by kernel_rfl) rfl (y_load rfl rfl (.own inferInstance inferInstance)) ?_
      refine to_p 14 rfl (by kernel_rfl) rfl (y_fieldAddr rfl) ?_
      refine to_y 15 rfl (by kernel_rfl) rfl (y_load rfl rfl (.own inferInstance inferInstance)) ?_
      refine to_p 16 rfl (by kernel_rfl) rfl (y_fieldAddr rfl) ?_
      refine to_y 17 rfl (by kernel_rfl) rfl (y_load rfl rfl (.own inferInstance inferInstance)) ?_
      refine to_p 18 rfl (by kernel_rfl) rfl (y_fieldAddr rfl) ?_
      refine to_y 19 rfl (by kernel_rfl) rfl (y_load rfl rfl (.own inferInstance inferInstance)) ?_
      refine to_p 20 rfl (by kernel_rfl) rfl (y_move (v := .slice _ _ _) rfl) ?_
      refine to_e 10 rfl (by kernel_rfl) rfl (e_call' rfl (Step_spec (hg.mono hm).sha (hg.mono hm).kec (hg.mono hm).set o (hname.mono hm) hown q pi pf) ?_)
      rintro _ M3 _ hM3 ⟨rfl, A3, m3, c3, rfl, hA3⟩
      replace hd := hd.trans hM3
      replace hm := hm.trans hM3
      refine ⟨⟨(by first | exact Le.refl _ | assumption), Keeps.mem⟩, ?_⟩
      refine to_e 21 rfl (by kernel_rfl) rfl (e_call' rfl (RStep_spec9 o (hname.mono hm) (h.mono hm) q pi pf) ?_)
      rintro _ M4 _ hM4 ⟨rfl, A4, m4, c4, rfl, hA4⟩
      replace hd := hd.trans hM4
      replace hm := hm.trans hM4
      refine ⟨⟨(by first | exact Le.refl _ | assumption), Keeps.mem⟩, ?_⟩
      refine to_e 22 rfl (by kernel_rfl) rfl (e_call' rfl (same_spec (hA3.mono hM4) hA4) ?_)
      rintro _ _ _ _ ⟨rfl, rfl, rfl⟩
      refine ⟨⟨(by first | exact Le.refl _ | assumption), Keeps.mem⟩, ?_⟩
      refine to_p 23 rfl (by kernel_rfl) rfl (y_move (v := .bool _) rfl) ?_
      refine to_set (s := 45) (u := .bool true) rfl (by simp) ?_
      refine to_y 24 rfl (by kernel_rfl) rfl (y_loadAgg rfl rfl (.own inferInstance inferInstance)) ?_
      refine to_p 25 rfl (by kernel_rfl) rfl (y_fieldAddr rfl) ?_
      refine to_y 26 rfl (by kernel_rfl) rfl (y_load rfl rfl (.own inferInstance inferInstance)) ?_
      refine to_p 27 rfl (by kernel_rfl) rfl (y_fieldAddr rfl) ?_
      refine to_y 28 rfl (by kernel_rfl) rfl (y_load rfl rfl (.own inferInstance inferInstance)) ?_
      refine to_p 29 rfl (by kernel_rfl) rfl (y_fieldAddr rfl) ?_
      refine to_y 30 rfl (by kernel_rfl) rfl (y_load rfl rfl (.own inferInstance inferInstance)) ?_
      refine to_p 31 rfl (by kernel_rfl) rfl (y_fieldAddr rfl) ?_
      refine to_y 32 rfl (by kernel_rfl) rfl (y_load rfl rfl (.own inferInstance inferInstance)) ?_
      refine to_p 33 rfl (by kernel_rfl) rfl (y_fieldAddr rfl) ?_
      refine to_y 34 rfl (by kernel_rfl) rfl (y_load rfl rfl (.own inferInstance inferInstance)) ?_
      refine to_p 35 rfl (by kernel_rfl) rfl (y_move (v := .slice _ _ _) rfl) ?_
      refine to_y 37 rfl (by kernel_rfl) rfl (y_loadAgg rfl rfl (.own inferInstance inferInstance)) ?_
      refine to_p 38 rfl (by kernel_rfl) rfl (y_fieldAddr rfl) ?_
      refine to_y 39 rfl (by kernel_rfl) rfl (y_load rfl rfl (.own inferInstance inferInstance)) ?_
      refine to_p 40 rfl (by kernel_rfl) rfl (y_fieldAddr rfl) ?_
      refine to_y 41 rfl (by kernel_rfl) rfl (y_load rfl rfl (.own inferInstance inferInstance)) ?_
      refine to_p 42 rfl (by kernel_rfl) rfl (y_fieldAddr rfl) ?_
      refine to_y 43 rfl (by kernel_rfl) rfl (y_load rfl rfl (.own inferInstance inferInstance)) ?_
      refine to_p 44 rfl (by kernel_rfl) rfl (y_fieldAddr rfl) ?_
      refine to_y 45 rfl (by kernel_rfl) rfl (y_load rfl rfl (.own inferInstance inferInstance)) ?_
      refine to_p 46 rfl (by kernel_rfl) rfl (y_fieldAddr rfl) ?_
      refine to_y 47 rfl (by kernel_rfl) rfl (y_load rfl rfl (.own inferInstance inferInstance)) ?_
      refine to_p 48 rfl (by kernel_rfl) rfl (y_move (v := .slice _ _ _) rfl) ?_
      refine to_e 36 rfl (by kernel_rfl) rfl (e_call' rfl (Up_spec' (hg.mono hm).sha (hg.mono hm).kec (hg.mono hm).set o (hname.mono hm) (hown.mono hd) q pi pf pt) ?_)
      rintro _ M5 _ hM5 ⟨rfl, A5, m5, c5, rfl, hA5⟩
      replace hd := hd.trans hM5
      replace hm := hm.trans hM5
      refine ⟨⟨(by first | exact Le.refl _ | assumption), Keeps.mem⟩, ?_⟩
      refine to_e 49 rfl (by kernel_rfl) rfl (e_call' rfl (RUp_spec9 sha_length o (hname.mono hm) (h.mono hm) q pi pf pt) ?_)
      rintro _ M6 _ hM6 ⟨rfl, A6, m6, c6, rfl, hA6⟩
      replace hd := hd.trans hM6
      replace hm := hm.trans hM6
      refine ⟨⟨(by first | exact Le.refl _ | assumption), Keeps.mem⟩, ?_⟩
      refine to_e 50 rfl (by kernel_rfl) rfl (e_call' rfl (same_spec (hA5.mono hM6) hA6) ?_)
      rintro _ _ _ _ ⟨rfl, rfl, rfl⟩
      refine ⟨⟨(by first | exact Le.refl _ | assumption), Keeps.mem⟩, ?_⟩
      refine to_p 51 rfl (by kernel_rfl) rfl (y_pickT rfl rfl) ?_
      refine to_p 52 rfl (by kernel_rfl) rfl (y_move (v := .bool _) rfl) ?_
      refine to_set (s := 74) (u := .bool true) rfl (by simp) ?_
      refine to_p 53 rfl (by kernel_rfl) rfl (y_move (v := .slice _ _ _) rfl) ?_
      refine to_p 54 rfl (by kernel_rfl) rfl (y_move (v := .slice _ _ _) rfl) ?_
      refine to_e 55 rfl (by kernel_rfl) rfl (e_call' rfl (same_spec (hown.mono hd) (h.mono hm)) ?_)
      rintro _ _ _ _ ⟨rfl, rfl, rfl⟩
      refine ⟨⟨(by first | exact Le.refl _ | assumption), Keeps.mem⟩, ?_⟩
      refine to_p 56 rfl (by kernel_rfl) rfl (y_pickT rfl rfl) ?_
      refine to_p 57 rfl (by kernel_rfl) rfl (y_assign (v := .bool _) rfl) ?_
      refine to_nil (by kernel_rfl) (.then_normal ?_)
      refine .sub (F' := [(6, _)]) (.cons rfl .nil) ?_
      refine x_ret (ret1 rfl rfl hm (by simp))
end
end Go.Proofs.YtgpjbjbdfkiklaaDoor
set_option linter.unusedVariables false
set_option linter.unusedSimpArgs false
namespace Go.Eng
open Go.ChangeShapes Go.WideShapes Go.ChangeAt Go.RowKit
/-! ### From a contract to a statement's call -/
def memOf (W : World) : Mem := fun b => W.heap[b]?
theorem st_start (W : World) : St W (memOf W) [] W := ⟨rfl, rfl, rfl, fun b o h => h, fun p hp => (by cases hp), by simp⟩
theorem below_of {W W' : World} {M' : Mem} {L' : Own} (hle : Le (memOf W) M') (h : St W M' L' W') : Below W.heap.size W W' := by
  have hb : ∀ k, k < W.heap.size → W'.heap[k]? = W.heap[k]? := fun k hk => by
    have h1 : W.heap[k]? = some W.heap[k] := Array.getElem?_eq_getElem hk
    rw [h1]
    exact h.ro k _ (hle k _ h1)
  refine ⟨h.os, h.tape, h.output, ?_, hb⟩
  rcases Nat.eq_zero_or_pos W.heap.size with h0 | h0
  · omega
  · have h2 := hb (W.heap.size - 1) (by omega)
    have hlt : W.heap.size - 1 < W.heap.size := by omega
    rw [Array.getElem?_eq_getElem hlt] at h2
    have h3 := (Array.getElem?_eq_some_iff.1 h2).1
    omega
theorem calls_of_con {P : Program} {f : FuncId} {args : Array Value} {W : World} (h : Con P f args W (memOf W) [] (fun v _ _ => v = .bool true) noPanic) : Calls P f args W fun e W' => e = .returned (.bool true) ∧ Below W.heap.size W W' :=
  (h.calls W (st_start W)).mono fun e W' he => by
    cases e with
    | returned v => obtain ⟨M', L', a, b, rfl⟩ := he; exact ⟨rfl, below_of a b⟩
    | panicked c => obtain ⟨M', L', a, b, c⟩ := he; exact c.elim
    | outgrown => exact he.elim
/-! ### What came in -/
section
variable {H : Type} {enc : TypeId × Value → H} {P : Program} {W : World} {t : TypeId} {cs : List Value}
def Rd (enc : TypeId × Value → H) (P : Program) (W : World) (t : TypeId) (cs : List Value) : Prop := ∃ fuel x, DataW.trod enc P W 0 (fun _ => true) true fuel t cs = some x
theorem rd_of {v : Value} {d : DataW H} {ps : List MemPlace} (h : DataW.Trod enc P W 0 (fun _ => true) true t v d ps) : Rd enc P W t v.cells.toList := let ⟨n, h⟩ := h; ⟨n, _, h⟩
theorem TI.cellsOf {d : TypeDesc} {z : Value} {s b : Nat} (h : TI P t d z s b) : P.cellsOf t = s := by
  obtain ⟨i, hi, _, hs, _⟩ := h.parts
  simp [Program.cellsOf, hi, hs]
theorem Rd.int {k : IntKind} {z : Value} {s b : Nat} [ti : TI P t (.int k) z s b] (h : Rd enc P W t cs) : ∃ n, cs = [.int k n] ∧ (Lit.int k n).wf = true := by
  obtain ⟨fuel, x, h⟩ := h
  cases fuel with
  | zero => cases h
  | succ fuel =>
    unfold DataW.trod at h
    simp only [ti.und] at h
    split at h <;> simp_all
theorem Rd.bool {z : Value} {s b : Nat} [ti : TI P t .bool z s b] (h : Rd enc P W t cs) : ∃ n, cs = [.bool n] := by
  obtain ⟨fuel, x, h⟩ := h
  cases fuel with
  | zero => cases h
  | succ fuel =>
    unfold DataW.trod at h
    simp only [ti.und] at h
    split at h <;> simp_all
theorem Rd.string {z : Value} {s b : Nat} [ti : TI P t .string z s b] (h : Rd enc P W t cs) : ∃ n : ByteArray, cs = [.string n] ∧ n.size ≤ maxLen := by
  obtain ⟨fuel, x, h⟩ := h
  cases fuel with
  | zero => cases h
  | succ fuel =>
    unfold DataW.trod at h
    simp only [ti.und] at h
    split at h <;> simp_all
theorem mapM_some {α β : Type} {f : α → Option β} : ∀ {l : List α} {r : List β}, l.mapM f = some r → ∀ a ∈ l, ∃ b, f a = some b
  | [], _, _, a, ha => by cases ha
  | x :: l, r, h, a, ha => by
    rw [List.mapM_cons] at h
    simp only [Option.bind_eq_bind, Option.bind_eq_some_iff] at h
    obtain ⟨b, hb, rs, hrs, _⟩ := h
    rcases List.mem_cons.1 ha with rfl | ha
    · exact ⟨b, hb⟩
    · exact mapM_some hrs a ha
theorem Rd.array {m : Nat} {e : TypeId} {z z' : Value} {s b s' b' : Nat} {d' : TypeDesc} [ti : TI P t (.array m e) z s b] [te : TI P e d' z' s' b'] (h : Rd enc P W t cs) : cs.length = s ∧ ∀ i, i < m → Rd enc P W e ((cs.drop (i * s')).take s') := by
  obtain ⟨fuel, x, h⟩ := h
  cases fuel with
  | zero => cases h
  | succ fuel =>
    unfold DataW.trod at h
    simp only [ti.und, ti.cellsOf, te.cellsOf] at h
    split at h
    · rename_i hl
      obtain ⟨y, hy, _⟩ := Option.map_eq_some_iff.1 h
      refine ⟨hl, fun i hi => ?_⟩
      obtain ⟨b, hb⟩ := mapM_some hy i (List.mem_range.2 hi)
      exact ⟨fuel, b, hb⟩
    · cases h
theorem Rd.struct {fs : Array Field} {z : Value} {s b : Nat} [ti : TI P t (.struct fs) z s b] (h : Rd enc P W t cs) : cs.length = s ∧ ∀ f ∈ fs.toList, Rd enc P W f.type ((cs.drop f.offset).take (P.cellsOf f.type)) := by
  obtain ⟨fuel, x, h⟩ := h
  cases fuel with
  | zero => cases h
  | succ fuel =>
    unfold DataW.trod at h
    simp only [ti.und, ti.cellsOf] at h
    split at h
    · rename_i hl
      obtain ⟨y, hy, _⟩ := Option.map_eq_some_iff.1 h
      refine ⟨hl, fun f hf => ?_⟩
      obtain ⟨b, hb⟩ := mapM_some hy f hf
      exact ⟨fuel, b, hb⟩
    · cases h
theorem Rd.slice {e : TypeId} {z z' : Value} {s b s' b' : Nat} {d' : TypeDesc} [ti : TI P t (.slice e) z s b] [te : TI P e d' z' s' b'] (hs : 0 < s') (h : Rd enc P W t cs) :
    ∃ A len cap vs, cs = [.slice A len cap] ∧ Row (memOf W) s' A len cap vs ∧ ∀ i, i < len → Rd enc P W e ((vs.drop (i * s')).take s') := by
  obtain ⟨fuel, x, h⟩ := h
  rcases Deep.open_slice ti.und h with ⟨rfl, _⟩ | ⟨a, len, cap, m, n, D, Pl, rfl, hb, hl, hm, hmm, _, hx⟩
  · exact ⟨none, 0, 0, [], rfl, Row.nil _ _, fun i hi => by omega⟩
  · rw [te.cellsOf] at hx
    have hcap : cap ≤ 9223372036854775807 := by unfold maxLen at hm; omega
    have hlm : len ≤ m := by rw [hmm]; split <;> omega
    have hx : ∀ i, i < len → ∃ cs', W.cells? 0 (a.add (i * s')) s' = some cs' ∧ DataW.trod enc P W 0 (fun _ => true) true n e cs' = some (D i, Pl i) := fun i hi => hx i (by omega)
    rcases Nat.eq_zero_or_pos len with h0 | h0
    · subst h0
      exact ⟨some a, 0, cap, [], rfl, Row.empty _ _ _ hcap, fun i hi => by omega⟩
    · have hspot : a.spot = none := by
        obtain ⟨cs', h1, _⟩ := hx 0 h0
        obtain ⟨_, hlen, hc⟩ := World.cells?_some h1
        have := hc 0 hs
        have hg : cs'[0]? = some (cs'[0]'(by omega)) := List.getElem?_eq_getElem (by omega)
        rw [hg] at this
        have := World.cell?_spot this
        revert this
        unfold Addr.add
        simp
      obtain ⟨bl, off, sp⟩ := a
      simp only at hspot
      subst hspot
      simp only [add_plain] at hx
      -- the cells
      have hcell : ∀ i, i < len * s' → ∃ v, W.cell? ⟨bl, off + i, none⟩ = some v := fun i hi => by
        obtain ⟨cs', h1, _⟩ := hx (i / s') (Nat.div_lt_of_lt_mul (by rwa [Nat.mul_comm]))
        obtain ⟨_, hlen, hc⟩ := World.cells?_some h1
        have hmod := Nat.mod_lt i hs
        have := hc (i % s') hmod
        rw [add_plain, Nat.add_assoc, Nat.add_comm (i / s' * s'), Nat.mod_add_div' i s', List.getElem?_eq_getElem (by omega)] at this
        exact ⟨_, this⟩
      have hblock : ∃ c T fr, W.heap[bl]? = some (.cells c T fr) := by
        obtain ⟨v, hv⟩ := hcell 0 (Nat.mul_pos h0 hs)
        unfold World.cell? at hv
        split at hv
        · rename_i c T fr hh; exact ⟨c, T, fr, hh⟩
        · cases hv
      obtain ⟨c, T, fr, hh⟩ := hblock
      have hc : ∀ i, i < len * s' → c[off + i]? = some (c.getD (off + i) default) ∧ W.cell? ⟨bl, off + i, none⟩ = some (c.getD (off + i) default) := fun i hi => by
        obtain ⟨v, hv⟩ := hcell i hi
        have hv' := hv
        unfold World.cell? at hv
        simp only [hh, Option.isSome_none, Bool.false_eq_true, if_false] at hv
        have : c.getD (off + i) default = v := by simp [Array.getD_eq_getD_getElem?, hv]
        rw [this]
        exact ⟨hv, hv'⟩
      refine ⟨some ⟨bl, off, none⟩, len, cap, (List.range (len * s')).map fun i => c.getD (off + i) default, rfl, ⟨by simp, hl, hcap, fun _ => ⟨bl, off, c, T, fr, rfl, hh, fun j v hj => ?_⟩⟩, fun i hi => ?_⟩
      · rw [List.getElem?_map] at hj
        obtain ⟨k, hk, rfl⟩ := Option.map_eq_some_iff.1 hj
        have hlt := (List.getElem?_eq_some_iff.1 hk).1
        rw [List.getElem?_range (by simpa using hlt)] at hk
        cases hk
        exact (hc _ (by simpa using hlt)).1
      · obtain ⟨cs', h1, h2⟩ := hx i hi
        have : ((((List.range (len * s')).map fun i => c.getD (off + i) default).drop (i * s')).take s') = cs' := by
          obtain ⟨_, hlen, hcc⟩ := World.cells?_some h1
          have hle : (i + 1) * s' ≤ len * s' := Nat.mul_le_mul_right _ hi
          rw [Nat.add_mul, Nat.one_mul] at hle
          apply List.ext_getElem?
          intro j
          rw [List.getElem?_take]
          split
          · rename_i hj
            rw [List.getElem?_drop, List.getElem?_map, List.getElem?_range (by omega)]
            have h3 := hcc j hj
            rw [add_plain, Nat.add_assoc] at h3
            rw [← h3, (hc (i * s' + j) (by omega)).2]
            rfl
          · rw [List.getElem?_eq_none (by omega)]
        rw [this]
        exact ⟨n, _, h2⟩
/-- A value of a kind that is one cell. -/
theorem one_of {v : Value} {base : Nat} {r : Reach} {d : TypeDesc} {z : Value} {s b : Nat} [ti : TI P t d z s b] (hd : aggD d = false) (h : Value.okWide P W r base t v) {x : Value} (hc : v.cells.toList = [x]) : v = x := by
  cases v with
  | agg c =>
    exfalso
    simp only [Value.okWide, ti.und] at h
    cases d <;> simp_all [aggD, Cell.okWide, Cell.ok]
  | _ => simpa [Value.cells] using hc
theorem agg_of {v : Value} {base : Nat} {r : Reach} {d : TypeDesc} {z : Value} {s b : Nat} [ti : TI P t d z s b] (hd : aggD d = true) (h : Value.okWide P W r base t v) : v = .agg v.cells.toList.toArray := by
  simp only [Value.okWide, ti.und] at h
  cases d <;> simp_all [aggD]
  all_goals (obtain ⟨cs, rfl, _⟩ := h; simp [Value.cells])
theorem u8_of {n : Int} (h : (Lit.int .u8 n).wf = true) : ∃ c : UInt8, n = (c.toNat : Int) := by
  simp [Lit.wf, IntKind.min, IntKind.max, IntKind.signed, IntKind.bits] at h
  exact ⟨UInt8.ofNat n.toNat, by simp [UInt8.toNat_ofNat']; omega⟩
/-- A row of numbers that came in. -/
theorem ints_of {k : IntKind} : ∀ (vs : List Value), (∀ i, i < vs.length → ∃ n, (vs.drop i).take 1 = [.int k n] ∧ (Lit.int k n).wf = true) → ∃ ts : List Int, vs = ts.map (.int k) ∧ ∀ t ∈ ts, (Lit.int k t).wf = true
  | [], _ => ⟨[], rfl, fun t h => by cases h⟩
  | v :: vs, h => by
    obtain ⟨n, h1, h2⟩ := h 0 (by simp)
    obtain ⟨ts, rfl, ht⟩ := ints_of vs (fun i hi => by simpa using h (i + 1) (by simpa using hi))
    refine ⟨n :: ts, by simpa using h1, fun t hm => ?_⟩
    rcases List.mem_cons.1 hm with rfl | hm
    · exact h2
    · exact ht t hm
theorem Rd.ints {k : IntKind} {e : TypeId} {z z' : Value} {s b b' : Nat} [ti : TI P t (.slice e) z s b] [te : TI P e (.int k) z' 1 b'] (h : Rd enc P W t cs) :
    ∃ (A : Option Addr) (len cap : Nat) (ts : List Int), cs = [.slice A len cap] ∧ Row (memOf W) 1 A len cap (ts.map (.int k)) ∧ ∀ n ∈ ts, (Lit.int k n).wf = true := by
  obtain ⟨A, len, cap, vs, rfl, hr, hx⟩ := h.slice (by omega)
  have hl := hr.len
  obtain ⟨ts, rfl, ht⟩ := ints_of (k := k) vs (fun i hi => by
    have := (hx i (by omega)).int
    simpa using this)
  exact ⟨A, len, cap, ts, rfl, hr, ht⟩
theorem u8s_of : ∀ (ts : List Int), (∀ t ∈ ts, (Lit.int .u8 t).wf = true) → ∃ bs : List UInt8, ts.map (Value.int .u8) = bs.map bv
  | [], _ => ⟨[], rfl⟩
  | t :: ts, h => by
    obtain ⟨c, rfl⟩ := u8_of (h t List.mem_cons_self)
    obtain ⟨bs, hb⟩ := u8s_of ts (fun x hx => h x (List.mem_cons_of_mem _ hx))
    exact ⟨c :: bs, by rw [List.map_cons, List.map_cons, hb]; rfl⟩
/-- A row of bytes that came in. -/
theorem Rd.bytes {e : TypeId} {z z' : Value} {s b b' : Nat} [ti : TI P t (.slice e) z s b] [te : TI P e (.int .u8) z' 1 b'] (h : Rd enc P W t cs) :
    ∃ (A : Option Addr) (len cap : Nat) (bs : List UInt8), cs = [.slice A len cap] ∧ Bytes (memOf W) A len cap bs := by
  obtain ⟨A, len, cap, ts, rfl, hr, ht⟩ := h.ints (k := .u8)
  obtain ⟨bs, hb⟩ := u8s_of ts ht
  exact ⟨A, len, cap, bs, rfl, by rw [Bytes, ← hb]; exact hr⟩
end
end Go.Eng
set_option linter.unusedVariables false
set_option linter.unusedSimpArgs false
namespace Go.Eng
open Go.ChangeShapes Go.WideShapes Go.ChangeAt Go.RowKit
/-! ### What is listed of package-level variables -/
section
variable {P : Program} {W : World}
theorem laidVars_mem : ∀ {laid : List (String × DataW Unit)} {ps : List MemPlace}, DataW.LaidVars P W laid ps → ∀ {n d}, (n, d) ∈ laid → ∃ g t cs fuel p, P.globalNamed n = some g ∧ (P.globals[g]?).map (·.type) = some t ∧ W.var? P n = some cs ∧ DataW.trod (fun _ => ()) P W 0 (fun _ => true) false fuel t cs.toList = some (d, p)
  | [], _, _, n, d, hm => by cases hm
  | (n0, d0) :: r, ps, h, n, d, hm => by
    obtain ⟨g, t, cs, fuel, p, q, h1, h2, h3, h4, h5, _⟩ := h
    rcases List.mem_cons.1 hm with he | hm
    · cases he; exact ⟨g, t, cs, fuel, p, h1, h2, h3, h4⟩
    · exact laidVars_mem h5 hm
theorem var_heap {n : String} {g : Nat} {cs : Array Value} (hg : P.globalNamed n = some g) (h : W.var? P n = some cs) : ∃ T fr, memOf W g = some (.cells cs T fr) := by
  simp only [World.var?, hg, Option.bind_some] at h
  unfold memOf
  split at h
  · rename_i c t fr hb
    cases h
    exact ⟨t, fr, hb⟩
  · cases h
theorem map_lits {k : IntKind} : ∀ {ns : List Int} {cs : List Value}, cs.length = ns.length → (∀ i, i < ns.length → ∃ x, (cs.drop i).take 1 = [Value.int k x] ∧ ns[i]? = some x) → cs = ns.map (.int k)
  | [], [], _, _ => rfl
  | [], _ :: _, h, _ => by simp at h
  | _ :: _, [], h, _ => by simp at h
  | n :: ns, c :: cs, h, hx => by
    obtain ⟨x, h1, h2⟩ := hx 0 (by simp)
    simp at h1 h2
    have h3 := map_lits (k := k) (ns := ns) (cs := cs) (by simpa using h) (fun i hi => by simpa using hx (i + 1) (by simpa using hi))
    rw [h1, h2, h3]
    rfl
theorem trod_ints {t e : TypeId} {m : Nat} {k : IntKind} {z z' : Value} {s b b' fuel : Nat} [ti : TI P t (.array m e) z s b] [te : TI P e (.int k) z' 1 b'] {ns : List Int} {cs : List Value} {p : List MemPlace} {sp : Nat → Bool} {held : Bool} {enc : TypeId × Value → Unit}
    (h : DataW.trod enc P W 0 sp held fuel t cs = some (.agg (ns.map fun x => .lit (.int k x)), p)) (hs : s = m) : cs = ns.map (.int k) := by
  obtain ⟨xs, m', rfl, hx, hl, hn, hel⟩ := DataW.trod_array ti.und h
  rw [ti.cellsOf, hs] at hl
  simp only [Prod.mk.injEq, DataW.agg.injEq] at hx
  have hln : ns.length = m := by rw [← hn]; simpa using congrArg List.length hx.1
  refine map_lits (by omega) (fun i hi => ?_)
  have h1 := hel i (by omega)
  rw [te.cellsOf, Nat.mul_one] at h1
  rw [List.getElem?_eq_getElem (show i < xs.length by omega)] at h1
  obtain ⟨x, e1, e2, _⟩ := DataW.trod_int te.und h1
  refine ⟨x, e1, ?_⟩
  have h2 := congrArg (fun l => l[i]?) hx.1
  simp only [List.getElem?_map] at h2
  rw [List.getElem?_eq_getElem (show i < xs.length by omega), List.getElem?_eq_getElem hi] at h2
  simp only [Option.map_some, Option.some.injEq, e2, DataW.lit.injEq, Lit.int.injEq, true_and] at h2
  rw [List.getElem?_eq_getElem hi, h2]
theorem laid_ints {laid : List (String × DataW Unit)} (h : laidMet P laid W) {n : String} {g : Nat} {t e : TypeId} {m : Nat} {k : IntKind} {z z' : Value} {s b b' : Nat} (ns : List Int) (hm : (n, DataW.agg (ns.map fun x => .lit (.int k x))) ∈ laid) (hg : P.globalNamed n = some g)
    (ht : (P.globals[g]?).map (·.type) = some t) (ti : TI P t (.array m e) z s b) (te : TI P e (.int k) z' 1 b') (hs : s = m) : ∃ T fr, memOf W g = some (.cells (ns.map (.int k)).toArray T fr) := by
  obtain ⟨ps, hv, _⟩ := h
  obtain ⟨g', t', cs, fuel, p, h1, h2, h3, h4⟩ := laidVars_mem hv hm
  obtain rfl := Option.some.inj (hg.symm.trans h1)
  obtain rfl := Option.some.inj (ht.symm.trans h2)
  obtain ⟨T, fr, hh⟩ := var_heap hg h3
  have := trod_ints h4 hs
  refine ⟨T, fr, ?_⟩
  rw [hh, ← this]
theorem brows_of {H : Type} {enc : TypeId × Value → H} {t e : TypeId} {z z' : Value} {s b b' : Nat} [ti : TI P t (.slice e) z s b] [te : TI P e (.int .u8) z' 1 b'] : ∀ (vs : List Value), (∀ i, i < vs.length → Rd enc P W t ((vs.drop i).take 1)) → ∃ bss, BRows (memOf W) vs bss
  | [], _ => ⟨[], .nil⟩
  | v :: vs, h => by
    obtain ⟨A, n, c, bs, e1, hb⟩ := (h 0 (by simp)).bytes
    obtain ⟨bss, ht⟩ := brows_of vs (fun i hi => by simpa using h (i + 1) (by simpa using hi))
    have e2 : v = .slice A n c := by simpa using e1
    exact ⟨bs :: bss, by rw [e2]; exact .cons hb ht⟩
/-- A row of rows of bytes that came in. -/
theorem Rd.brows {H : Type} {enc : TypeId × Value → H} {t0 t e : TypeId} {z0 z z' : Value} {s0 b0 b b' : Nat} {cs : List Value} [t0i : TI P t0 (.slice t) z0 s0 b0] [ti : TI P t (.slice e) z 1 b] [te : TI P e (.int .u8) z' 1 b'] (h : Rd enc P W t0 cs) :
    ∃ A len cap vs bss, cs = [.slice A len cap] ∧ Row (memOf W) 1 A len cap vs ∧ BRows (memOf W) vs bss := by
  obtain ⟨A, len, cap, vs, rfl, hr, hx⟩ := h.slice (by omega)
  obtain ⟨bss, hb⟩ := brows_of vs (fun i hi => by
    have := hx i (by have := hr.len; omega)
    simpa using this)
  exact ⟨A, len, cap, vs, bss, rfl, hr, hb⟩
end
end Go.Eng
set_option linter.unusedVariables false
namespace Go.Proofs.YtgpjbjbdfkiklaaDoor
open Go Go.Eng Go.ChangeShapes Go.WideShapes Go.ChangeAt Go.RowKit
theorem own : ownKnob Tryd.prog.godebug = none := by kernel_rfl
theorem laidOut : laidOutB Tryd.prog = true := by kernel_rfl
set_option maxRecDepth 100000 in
theorem shutBool {H : Type} {enc : TypeId × Value → H} {W : World} {base : Nat} {sp : Nat → Bool} {held : Bool} (b : Bool) : DataW.Trod enc Tryd.prog W base sp held 4 (.bool b) (.lit (.bool b)) [] := ⟨1, by simp [DataW.trod, Value.cells, Tryd.underlying4]⟩
set_option maxRecDepth 100000 in
theorem byte_arg {H : Type} {enc : TypeId × Value → H} {W : World} {v : Value} {r : Reach} {b : Nat} (k : Value.okWide Tryd.prog W r b 5 v) (h : Rd enc Tryd.prog W 5 v.cells.toList) : ∃ c : UInt8, v = .int .u8 c.toNat := by
  obtain ⟨n, e, w⟩ := h.int
  obtain rfl := one_of rfl k e
  obtain ⟨c, rfl⟩ := u8_of w
  exact ⟨c, rfl⟩
set_option maxRecDepth 100000 in
theorem int_arg {H : Type} {enc : TypeId × Value → H} {W : World} {v : Value} {r : Reach} {b : Nat} (k : Value.okWide Tryd.prog W r b 3 v) (h : Rd enc Tryd.prog W 3 v.cells.toList) : ∃ n : Int, v = .int .i64 n ∧ -9223372036854775808 ≤ n ∧ n ≤ 9223372036854775807 := by
  obtain ⟨n, e, w⟩ := h.int
  obtain rfl := one_of rfl k e
  simp [Lit.wf, IntKind.min, IntKind.max, IntKind.signed, IntKind.bits] at w
  exact ⟨n, rfl, by omega, by omega⟩
end Go.Proofs.YtgpjbjbdfkiklaaDoor
set_option linter.unusedVariables false
namespace Go.Proofs.YtgpjbjbdfkiklaaDoor
open Go Go.Eng Go.ChangeShapes Go.WideShapes Go.ChangeAt Go.RowKit
section
variable {W : World}
/-- From the listed variables: the constants of SHA-256. -/
theorem shaG_of {laid : List (String × DataW Unit)} (h : laidMet Tryd.prog laid W) (h1 : ("tearoff/sha2.k", Rows.laid_tearoff_sha2_k) ∈ laid) (h2 : ("tearoff/sha2.first", Rows.laid_tearoff_sha2_first) ∈ laid) : ShaG (memOf W) := by
  refine ⟨?_, ?_⟩
  · obtain ⟨T, fr, hc⟩ := laid_ints h (kT.map fun x => (x.toNat : Int)) h1 (show Tryd.prog.globalNamed "tearoff/sha2.k" = some 2 by kernel_rfl) (show (Tryd.prog.globals[2]?).map (·.type) = some 117 by kernel_rfl) ti117 ti24 rfl
    refine ⟨_, T, fr, hc, fun j hj => ?_⟩
    rw [List.getElem?_toArray, List.map_map]
    exact get_u32' kT j hj
  · obtain ⟨T, fr, hc⟩ := laid_ints h (H8.init.list.map fun x => (x.toNat : Int)) h2 (show Tryd.prog.globalNamed "tearoff/sha2.first" = some 0 by kernel_rfl) (show (Tryd.prog.globals[0]?).map (·.type) = some 96 by kernel_rfl) ti96 ti24 rfl
    exact ⟨T, fr, hc⟩
end
end Go.Proofs.YtgpjbjbdfkiklaaDoor
set_option linter.unusedVariables false
set_option maxRecDepth 100000
namespace Go.Proofs.YtgpjbjbdfkiklaaDoor
open Go Go.Eng Go.ChangeShapes Go.WideShapes Go.ChangeAt Go.RowKit
section
variable {H : Type} {enc : TypeId × Value → H} {W : World}
theorem kecG_of {laid : List (String × DataW Unit)} (h : laidMet Tryd.prog laid W) (h1 : ("tearoff/keccak.rc", Rows.laid_tearoff_keccak_rc) ∈ laid) (h2 : ("tearoff/keccak.turns", Rows.laid_tearoff_keccak_turns) ∈ laid) : KecG (memOf W) := by
  refine ⟨?_, ?_⟩
  · obtain ⟨T, fr, hc⟩ := laid_ints h (kRc.map fun x => (x.toNat : Int)) h1 (show Tryd.prog.globalNamed "tearoff/keccak.rc" = some 8 by kernel_rfl) (show (Tryd.prog.globals[8]?).map (·.type) = some 98 by kernel_rfl) ti98 ti65 rfl
    refine ⟨_, T, fr, hc, fun j hj => ?_⟩
    rw [List.getElem?_toArray, List.map_map]
    exact get_u64' kRc j hj
  · obtain ⟨T, fr, hc⟩ := laid_ints h (kTurns.map fun (x : Nat) => (x : Int)) h2 (show Tryd.prog.globalNamed "tearoff/keccak.turns" = some 7 by kernel_rfl) (show (Tryd.prog.globals[7]?).map (·.type) = some 144 by kernel_rfl) ti144 ti3 rfl
    refine ⟨_, T, fr, hc, fun j hj => ?_⟩
    rw [List.getElem?_toArray, List.map_map, List.getElem?_map, List.getElem?_eq_getElem (show j < kTurns.length from hj), List.getD_eq_getElem?_getD, List.getElem?_eq_getElem (show j < kTurns.length from hj)]
    rfl
theorem trod_pair {t it : TypeId} {z z' : Value} {b b' fuel : Nat} {f0 f1 : Field} {cs : List Value} {a c : Int} {p : List MemPlace} {sp : Nat → Bool} {held : Bool} {enc : TypeId × Value → Unit} [ti : TI Tryd.prog t (.struct #[f0, f1]) z 2 b] [te : TI Tryd.prog it (.int .i64) z' 1 b']
    (e0 : f0.type = it ∧ f0.offset = 0) (e1 : f1.type = it ∧ f1.offset = 1) (h : DataW.trod enc Tryd.prog W 0 sp held fuel t cs = some (.agg [.lit (.int .i64 a), .lit (.int .i64 c)], p)) : cs = [.int .i64 a, .int .i64 c] := by
  obtain ⟨y0, y1, n, hx, hl, h0, h1⟩ := trod_struct2 ti.und h
  rw [ti.cellsOf] at hl
  rw [e0.1, e0.2, te.cellsOf] at h0
  rw [e1.1, e1.2, te.cellsOf] at h1
  obtain ⟨x, g1, g2, _⟩ := DataW.trod_int te.und h0
  obtain ⟨x', g1', g2', _⟩ := DataW.trod_int te.und h1
  simp only [Prod.mk.injEq, DataW.agg.injEq, List.cons.injEq, and_true] at hx
  match cs, hl with
  | [c0, c1], _ =>
    simp at g1 g1'
    rw [g2, g2'] at hx
    simp only [DataW.lit.injEq, Lit.int.injEq, true_and] at hx
    rw [g1, g1', hx.1.1, hx.1.2]
theorem setG_of {laid : List (String × DataW Unit)} (h : laidMet Tryd.prog laid W) (h1 : ("tearoff/sets.sums", Rows.laid_tearoff_sets_sums) ∈ laid) (h2 : ("tearoff/sets.widths", Rows.laid_tearoff_sets_widths) ∈ laid) : SetG (memOf W) := by
  refine ⟨?_, ?_⟩
  · obtain ⟨ps, hv, _⟩ := h
    obtain ⟨g', t', cs, fuel, p, e1, e2, e3, e4⟩ := laidVars_mem hv h1
    obtain rfl := Option.some.inj ((show Tryd.prog.globalNamed "tearoff/sets.sums" = some 6 by kernel_rfl).symm.trans e1)
    obtain rfl := Option.some.inj ((show (Tryd.prog.globals[6]?).map (·.type) = some 138 by kernel_rfl).symm.trans e2)
    obtain ⟨T, fr, hh⟩ := var_heap e1 e3
    obtain ⟨xs, m', hx', hx, hl, hn, hel⟩ := DataW.trod_array (ti138 : TI Tryd.prog 138 _ _ _ _).und e4
    rw [TI.cellsOf (ti138 : TI Tryd.prog 138 _ _ _ _)] at hl
    rw [TI.cellsOf (ti123 : TI Tryd.prog 123 _ _ _ _)] at hel
    unfold Rows.laid_tearoff_sets_sums at hx
    refine ⟨T, fr, ?_⟩
    rw [hh]
    obtain ⟨cl, rfl⟩ : ∃ cl : List Value, cs = cl.toArray := ⟨cs.toList, by simp⟩
    match xs, hn with
    | [x0, x1, x2, x3], _ =>
      simp only [Prod.mk.injEq, DataW.agg.injEq, List.map_cons, List.map_nil, List.cons.injEq, and_true] at hx
      have k0 := hel 0 (by omega)
      have k1 := hel 1 (by omega)
      have k2 := hel 2 (by omega)
      have k3 := hel 3 (by omega)
      match cl, hl with
      | [c0, c1, c2, c3, c4, c5, c6, c7], _ =>
        simp at k0 k1 k2 k3
        obtain ⟨q0, q0'⟩ := x0
        obtain ⟨q1, q1'⟩ := x1
        obtain ⟨q2, q2'⟩ := x2
        obtain ⟨q3, q3'⟩ := x3
        obtain ⟨⟨rfl, rfl, rfl, rfl⟩, _⟩ := hx
        have r0 := trod_pair (te := ti3) ⟨rfl, rfl⟩ ⟨rfl, rfl⟩ k0
        have r1 := trod_pair (te := ti3) ⟨rfl, rfl⟩ ⟨rfl, rfl⟩ k1
        have r2 := trod_pair (te := ti3) ⟨rfl, rfl⟩ ⟨rfl, rfl⟩ k2
        have r3 := trod_pair (te := ti3) ⟨rfl, rfl⟩ ⟨rfl, rfl⟩ k3
        simp only [List.cons.injEq, and_true] at r0 r1 r2 r3
        rw [r0.1, r0.2, r1.1, r1.2, r2.1, r2.2, r3.1, r3.2]
  · obtain ⟨T, fr, hc⟩ := laid_ints h [1, 2, 4, 8] h2 (show Tryd.prog.globalNamed "tearoff/sets.widths" = some 1 by kernel_rfl) (show (Tryd.prog.globals[1]?).map (·.type) = some 126 by kernel_rfl) ti126 ti3 rfl
    exact ⟨T, fr, hc⟩
theorem chG_of {laid : List (String × DataW Unit)} (e : laid = [("tearoff/keccak.rc", Rows.laid_tearoff_keccak_rc), ("tearoff/keccak.turns", Rows.laid_tearoff_keccak_turns), ("tearoff/sets.sums", Rows.laid_tearoff_sets_sums), ("tearoff/sets.widths", Rows.laid_tearoff_sets_widths), ("tearoff/sha2.k", Rows.laid_tearoff_sha2_k), ("tearoff/sha2.first", Rows.laid_tearoff_sha2_first)]) (h : laidMet Tryd.prog laid W) : ChG (memOf W) :=
  ⟨shaG_of h (by rw [e]; simp) (by rw [e]; simp), kecG_of h (by rw [e]; simp) (by rw [e]; simp), setG_of h (by rw [e]; simp) (by rw [e]; simp)⟩
theorem u32_of {n : Int} (h : (Lit.int .u32 n).wf = true) : ∃ c : UInt32, n = (c.toNat : Int) := by
  have hb : 0 ≤ n ∧ n ≤ 4294967295 := by simp [Lit.wf, IntKind.min, IntKind.max, IntKind.signed, IntKind.bits] at h; omega
  exact ⟨UInt32.ofNat n.toNat, by rw [UInt32.toNat_ofNat', Nat.mod_eq_of_lt (by omega)]; omega⟩
theorem bytes_arg' {v : Value} {r : Reach} {b : Nat} (k : Value.okWide Tryd.prog W r b 23 v) (h : Rd enc Tryd.prog W 23 v.cells.toList) : ∃ A n c g, v = .slice A n c ∧ Bytes (memOf W) A n c g := by
  obtain ⟨A, n, c, g, e0, h0⟩ := Rd.bytes (te := ti5) h
  exact ⟨A, n, c, g, one_of (ti := ti23) rfl k e0, h0⟩
theorem ints2_arg {v : Value} {r : Reach} {b : Nat} (k : Value.okWide Tryd.prog W r b 22 v) (h : Rd enc Tryd.prog W 22 v.cells.toList) : ∃ x y : Int, v = .agg #[.int .i64 x, .int .i64 y] := by
  have ha := agg_of (d := .array 2 3) rfl k
  obtain ⟨hl, hf⟩ := Rd.array (te := ti3) h
  obtain ⟨x, e0, _⟩ := Rd.int (k := .i64) (ti := ti3) (hf 0 (by omega))
  obtain ⟨y, e1, _⟩ := Rd.int (k := .i64) (ti := ti3) (hf 1 (by omega))
  refine ⟨x, y, ?_⟩
  rw [ha]
  generalize v.cells.toList = cs at hl e0 e1
  match cs, hl with
  | [x0, x1], _ =>
    simp at e0 e1
    rw [e0, e1]
theorem place_arg {v : Value} {r : Reach} {b : Nat} (k : Value.okWide Tryd.prog W r b 26 v) (h : Rd enc Tryd.prog W 26 v.cells.toList) : ∃ (NA : Option Addr) (nl nc : Nat) (name : List UInt8) (q : UInt32) (i f t : Int), v = .agg #[.slice NA nl nc, .int .u32 (q.toNat : Int), .int .i64 i, .int .i64 f, .int .i64 t] ∧ Bytes (memOf W) NA nl nc name := by
  have ha := agg_of (d := .struct _) rfl k
  obtain ⟨hl, hf⟩ := h.struct
  have f0 := hf _ (List.mem_cons_self)
  have f1 := hf _ (List.mem_cons_of_mem _ List.mem_cons_self)
  have f2 := hf _ (List.mem_cons_of_mem _ (List.mem_cons_of_mem _ List.mem_cons_self))
  have f3 := hf _ (List.mem_cons_of_mem _ (List.mem_cons_of_mem _ (List.mem_cons_of_mem _ List.mem_cons_self)))
  have f4 := hf _ (List.mem_cons_of_mem _ (List.mem_cons_of_mem _ (List.mem_cons_of_mem _ (List.mem_cons_of_mem _ List.mem_cons_self))))
  rw [TI.cellsOf (ti23 : TI Tryd.prog 23 _ _ _ _)] at f0
  rw [TI.cellsOf (ti24 : TI Tryd.prog 24 _ _ _ _)] at f1
  rw [TI.cellsOf (ti3 : TI Tryd.prog 3 _ _ _ _)] at f2 f3 f4
  obtain ⟨NA, nl, nc, name, e0, h0⟩ := Rd.bytes (te := ti5) f0
  obtain ⟨n1, e1, w1⟩ := Rd.int (k := .u32) f1
  obtain ⟨n2, e2, w2⟩ := Rd.int (k := .i64) f2
  obtain ⟨n3, e3, w3⟩ := Rd.int (k := .i64) f3
  obtain ⟨n4, e4, w4⟩ := Rd.int (k := .i64) f4
  obtain ⟨q, rfl⟩ := u32_of w1
  refine ⟨NA, nl, nc, name, q, n2, n3, n4, ?_, h0⟩
  rw [ha]
  generalize v.cells.toList = cs at hl e0 e1 e2 e3 e4
  match cs, hl with
  | [x0, x1, x2, x3, x4], _ =>
    simp at e0 e1 e2 e3 e4
    rw [e0, e1, e2, e3, e4]
theorem ots_arg {v : Value} {r : Reach} {b : Nat} (k : Value.okWide Tryd.prog W r b 36 v) (h : Rd enc Tryd.prog W 36 v.cells.toList) : ∃ o : OtsV, v = .agg (List.toArray o.cells) := by
  have ha := agg_of (d := .struct _) rfl k
  obtain ⟨hl, hf⟩ := h.struct
  have f0 := hf _ (List.mem_cons_self)
  have f1 := hf _ (List.mem_cons_of_mem _ List.mem_cons_self)
  have f2 := hf _ (List.mem_cons_of_mem _ (List.mem_cons_of_mem _ List.mem_cons_self))
  have f3 := hf _ (List.mem_cons_of_mem _ (List.mem_cons_of_mem _ (List.mem_cons_of_mem _ List.mem_cons_self)))
  have f4 := hf _ (List.mem_cons_of_mem _ (List.mem_cons_of_mem _ (List.mem_cons_of_mem _ (List.mem_cons_of_mem _ List.mem_cons_self))))
  have f5 := hf _ (List.mem_cons_of_mem _ (List.mem_cons_of_mem _ (List.mem_cons_of_mem _ (List.mem_cons_of_mem _ (List.mem_cons_of_mem _ List.mem_cons_self)))))
  rw [TI.cellsOf (ti24 : TI Tryd.prog 24 _ _ _ _)] at f0
  rw [TI.cellsOf (ti3 : TI Tryd.prog 3 _ _ _ _)] at f1 f2 f3 f4 f5
  obtain ⟨n0, e0, w0⟩ := Rd.int (k := .u32) f0
  obtain ⟨n1, e1, w1⟩ := Rd.int (k := .i64) f1
  obtain ⟨n2, e2, w2⟩ := Rd.int (k := .i64) f2
  obtain ⟨n3, e3, w3⟩ := Rd.int (k := .i64) f3
  obtain ⟨n4, e4, w4⟩ := Rd.int (k := .i64) f4
  obtain ⟨n5, e5, w5⟩ := Rd.int (k := .i64) f5
  obtain ⟨q, rfl⟩ := u32_of w0
  refine ⟨⟨q, n1, n2, n3, n4, n5⟩, ?_⟩
  rw [ha]
  generalize v.cells.toList = cs at hl e0 e1 e2 e3 e4 e5
  match cs, hl with
  | [x0, x1, x2, x3, x4, x5], _ =>
    simp at e0 e1 e2 e3 e4 e5
    rw [e0, e1, e2, e3, e4, e5]
end
end Go.Proofs.YtgpjbjbdfkiklaaDoor
set_option linter.unusedVariables false
set_option linter.constructorNameAsVariable false
set_option maxRecDepth 100000
namespace Go.Proofs.YtgpjbjbdfkiklaaDoor
open Go Go.Eng Go.ChangeShapes Go.WideShapes Go.ChangeAt Go.RowKit
section
variable {H : Type} {enc : TypeId × Value → H} {W : World}
theorem csums_con {v0 v1 v2 : Value} {r : Reach} {b : Nat} (hl : laidMet Tryd.prog Rows.chainSumsRow.laid W) (k0 : Value.okWide Tryd.prog W r b 22 v0) (k1 : Value.okWide Tryd.prog W r b 26 v1) (k2 : Value.okWide Tryd.prog W r b 23 v2)
    (h0 : Rd enc Tryd.prog W 22 v0.cells.toList) (h1 : Rd enc Tryd.prog W 26 v1.cells.toList) (h2 : Rd enc Tryd.prog W 23 v2.cells.toList) :
    Con Tryd.prog 3 #[v0, v1, v2] W (memOf W) [] (fun v _ _ => v = .bool true) noPanic := by
  obtain ⟨x, y, rfl⟩ := ints2_arg k0 h0
  obtain ⟨NA, nl, nc, name, q, i, f, t, rfl, hn⟩ := place_arg k1 h1
  obtain ⟨A, n, c, g, rfl, hA⟩ := bytes_arg' k2 h2
  exact ChainSums_spec (chG_of rfl hl) x y hn q i f t hA
end
end Go.Proofs.YtgpjbjbdfkiklaaDoor
