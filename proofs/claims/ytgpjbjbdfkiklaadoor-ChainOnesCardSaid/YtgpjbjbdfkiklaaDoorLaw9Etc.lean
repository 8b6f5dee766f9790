/-
From a contract to a statement; what came in. What is listed of package-level variables.
-/
import Derived.Test.YtgpjbjbdfkiklaaDoorRef8Etc
import Derived.Test.YtgpjbjbdfkiklaaDoorEngIEtc
import Derived.WalkKit
import Derived.ProofKit
import Derived.OpenShut
import Derived.ShutString
import Derived.ChangeOld
import Derived.Below
import Derived.Deep.Slices
import Derived.LaidMore
import Derived.LaidLaws
import Derived.MakeChecks
import Derived.Stop.Joined
import Derived.SevenTiedAt
set_option linter.unusedVariables false
set_option linter.unusedSimpArgs false
set_option linter.constructorNameAsVariable false
namespace Go.Proofs.YtgpjbjbdfkiklaaDoor
open Go Go.Eng
theorem f9 : ∃ o : OtsV, otsV 7 = o ∧ otsE 7 = 0 ∧ o.n = 24 ∧ o.kind = 0 ∧ o.w = 4 ∧ o.p = 51 ∧ otsE o.code = 0 ∧ otsV o.code = o := by
  refine ⟨otsV 7, rfl, ?_⟩
  decide +kernel
structure ChG (M : Mem) : Prop where
  sha : ShaG M
  kec : KecG M
  set : SetG M
theorem ChG.mono {M M' : Mem} (h : ChG M) (hle : Le M M') : ChG M' := ⟨h.sha.mono hle, h.kec.mono hle, h.set.mono hle⟩
section
variable {G : World} {M : Mem} {L : Own}
theorem awake9_spec (hg : ChG M) : Con Tryd.prog 12 #[] G M L (fun v M' L' => L = L' ∧ v = .bool true) noPanic := by
  obtain ⟨o, eo, ee, on, ok_, ow, op, oe, ov⟩ := f9
  refine enter (args := []) (fn := Tryd.f12) ⟨Tryd.func12, rfl, by kernel_rfl, by kernel_rfl⟩ 62 rfl ?_
  refine x_seq (x_region ?_)
  refine tl_y rfl (y_assign rfl) ?_
  refine tl_nil (.then_normal ?_)
  refine x_seq (x_region ?_)
  refine tl_e rfl (e_call' rfl (ROts_spec 7) ?_)
  rintro _ _ _ _ ⟨rfl, rfl, rfl⟩
  rw [eo]
  refine tl_y rfl (y_move (v := .tuple _) rfl) ?_
  refine tl_y rfl (y_extract rfl) ?_
  refine tl_y rfl (y_extract rfl) ?_
  refine tl_e rfl (e_alloc (fun b1 => ?_))
  refine tl_e rfl (e_store rfl rfl (by rfl) (by rfl) inferInstance inferInstance inferInstance ?_)
  refine tl_y rfl (y_assign (v := .int _ _) rfl) ?_
  refine tl_nil (.then_normal ?_)
  refine .sub (F' := [(1, _)]) (.cons rfl .nil) ?_
  refine x_seq (x_region ?_)
  refine tl_e rfl (e_make1 rfl rfl (by omega) (by omega) (by omega) (by omega) (fun bx => ?_))
  refine .pub bx inferInstance (fun M1 hM1 hbx => ?_)
  have hx : Bytes M1 (some ⟨bx, 0, none⟩) 24 24 (List.replicate 24 0) := Bytes.zeros hbx (by omega)
  refine tl_y rfl (y_assign (v := .slice _ _ _) rfl) ?_
  refine tl_nil (.then_normal ?_)
  refine x_seq (x_region ?_)
  refine tl_e rfl (e_make1 rfl rfl (by omega) (by omega) (by omega) (by omega) (fun bn => ?_))
  refine .pub bn inferInstance (fun M2 hM2 hbn => ?_)
  have hn : Bytes M2 (some ⟨bn, 0, none⟩) 16 16 (List.replicate 16 0) := Bytes.zeros hbn (by omega)
  replace hx := hx.mono hM2
  have hm := hM1.trans hM2
  have hR2 : okR o (List.replicate 16 (0 : UInt8)).length 2 (List.replicate 24 (0 : UInt8)).length := ⟨oe, ov, by simp, by omega, by omega, by rw [on]; simp⟩
  refine tl_y rfl (y_assign (v := .slice _ _ _) rfl) ?_
  refine tl_nil (.then_normal ?_)
  refine x_seq (x_region ?_)
  refine tl_e rfl (e_buildSlice rfl (by decide) (fun b4 => ?_))
  refine tl_e rfl (e_convMark rfl inferInstance (fun M3 fr3 hM3 hb3 => ?_))
  have ha : Bytes M3 (some ⟨b4, 0, none⟩) 1 1 [97] := Row.whole hb3 rfl (by omega)
  refine tl_e rfl (e_buildSlice rfl (by decide) (fun b5 => ?_))
  refine tl_e rfl (e_convMark rfl inferInstance (fun M4 fr4 hM4 hb4 => ?_))
  have hb : Bytes M4 (some ⟨b5, 0, none⟩) 2 2 [98, 99] := Row.whole hb4 rfl (by omega)
  refine tl_e rfl (e_buildSlice rfl (by decide) (fun b6 => ?_))
  refine .pub b6 inferInstance (fun M5 hM5 hb6 => ?_)
  replace hm := hm.trans (hM3.trans (hM4.trans hM5))
  have hm5 := hM3.trans (hM4.trans hM5)
  refine tl_e rfl (e_call' rfl (Sum_spec (hg.mono hm).sha (hg.mono hm).kec 0 32 (Row.whole hb6 rfl (by omega)) (.cons (ha.mono (hM4.trans hM5)) (.cons (hb.mono hM5) .nil)) (by decide)) ?_)
  rintro _ M6 L hM6 ⟨rfl, A6, m6, c6, rfl, hA6⟩
  replace hm := hm.trans hM6
  rw [cSum, if_pos (by decide), csum, if_pos rfl, show ([[97], [98, 99]] : List (List UInt8)).flatten = [97, 98, 99] from rfl, show (32 : Int).toNat = 32 from rfl, List.take_of_length_le (by rw [sha_length]; omega)] at hA6
  have hm6 := hA6.size
  rw [sha_length] at hm6
  obtain rfl : m6 = 32 := hm6.symm
  obtain ⟨g6, o6, rfl, hc6⟩ := hA6.byte (by omega)
  have hba : (sha [97, 98, 99]).getD 0 0 = 186 := by
    have := sha_abc
    have hl := sha_length [97, 98, 99]
    generalize sha [97, 98, 99] = s at this hl
    match s, this with
    | a :: s, this => simpa using this
  have hv6 := fun L => hc6 L 0 (by omega)
  rw [hba] at hv6
  have hx6 := hx.mono (hm5.trans hM6)
  have hn6 := hn.mono (hm5.trans hM6)
  refine tl_y rfl (y_assign (v := .slice _ _ _) rfl) ?_
  refine tl_nil (.then_normal ?_)
  refine .sub (F' := [(1, _), (3, _), (4, _), (5, _)]) (.cons rfl (.cons rfl (.cons rfl (.cons rfl .nil)))) ?_
  refine x_seq (x_region ?_)
  refine tl_y rfl (y_loadAgg rfl rfl (.own inferInstance inferInstance)) ?_
  refine tl_y rfl (y_move (v := .slice _ _ _) rfl) ?_
  refine tl_y rfl (y_move (v := .slice _ _ _) rfl) ?_
  refine tl_e rfl (e_call' rfl (Up_spec' (hg.mono hm).sha (hg.mono hm).kec (hg.mono hm).set o hn6 hx6 5 2 3 3) ?_)
  rintro _ M7 L hM7 ⟨rfl, A7, m7, c7, rfl, hA7⟩
  replace hm := hm.trans hM7
  rw [cUp, if_pos ⟨hR2, by omega, by omega, by rw [ow]; decide⟩, show ((3 : Int) - 3).toNat = 0 from rfl, upC] at hA7
  refine tl_y rfl (y_assign (v := .slice _ _ _) rfl) ?_
  refine tl_nil (.then_normal ?_)
  refine .sub (F' := [(1, _), (3, _), (4, _), (5, _), (6, _)]) (.cons rfl (.cons rfl (.cons rfl (.cons rfl (.cons rfl .nil))))) ?_
  refine x_seq (x_region ?_)
  refine tl_y rfl (y_loadAgg rfl rfl (.own inferInstance inferInstance)) ?_
  refine tl_y rfl (y_move (v := .slice _ _ _) rfl) ?_
  refine tl_y rfl (y_move (v := .slice _ _ _) rfl) ?_
  refine tl_e rfl (e_call' rfl (Step_spec (hg.mono hm).sha (hg.mono hm).kec (hg.mono hm).set o (hn6.mono hM7) (hx6.mono hM7) 5 2 3) ?_)
  rintro _ M8 L hM8 ⟨rfl, A8, m8, c8, rfl, hA8⟩
  replace hm := hm.trans hM8
  have hv8 : ∀ L, CellAt M8 L ⟨g6, o6 + 0, none⟩ (.int .u8 ((186 : UInt8).toNat : Int)) := fun L w hw => hv6 L w ⟨fun b o h => hw.ro b o (hM8 b o (hM7 b o h)), hw.own⟩
  refine tl_y rfl (y_assign (v := .slice _ _ _) rfl) ?_
  refine tl_nil (.then_normal ?_)
  refine .sub (F' := [(1, _), (3, _), (4, _), (5, _), (6, _), (7, _)]) (.cons rfl (.cons rfl (.cons rfl (.cons rfl (.cons rfl (.cons rfl .nil)))))) ?_
  refine x_seq (x_region ?_)
  refine tl_y rfl (y_move (v := .slice _ _ _) rfl) ?_
  refine tl_y rfl (y_len rfl) ?_
  refine tl_y rfl (y_eql rfl rfl) ?_
  refine tl_y rfl (y_move (v := .bool _) rfl) ?_
  refine tl_set (s := 31) (u := .bool true) rfl (rfl) ?_
  refine tl_y rfl (y_move (v := .slice _ _ _) rfl) ?_
  refine tl_y rfl (y_indexAddr rfl rfl (by omega)) ?_
  refine tl_y rfl (y_load rfl rfl (.at_ (hv8 _) (by omega))) ?_
  refine tl_y rfl (y_eql rfl rfl) ?_
  refine tl_y rfl (y_pickT rfl rfl) ?_
  refine tl_y rfl (y_move (v := .bool _) rfl) ?_
  refine tl_set (s := 37) (u := .bool true) rfl (rfl) ?_
  refine tl_y rfl (y_move (v := .slice _ _ _) rfl) ?_
  refine tl_y rfl (y_move (v := .slice _ _ _) rfl) ?_
  refine tl_e rfl (e_call' rfl (same_spec (hA7.mono hM8) (hx6.mono (hM7.trans hM8))) ?_)
  rintro _ _ _ _ ⟨rfl, rfl, rfl⟩
  refine tl_y rfl (y_pickT rfl rfl) ?_
  refine tl_y rfl (y_move (v := .bool _) rfl) ?_
  refine tl_set (s := 42) (u := .bool true) rfl (by simp) ?_
  refine tl_y rfl (y_move (v := .slice _ _ _) rfl) ?_
  refine tl_y rfl (y_loadAgg rfl rfl (.own inferInstance inferInstance)) ?_
  refine tl_y rfl (y_move (v := .slice _ _ _) rfl) ?_
  refine tl_y rfl (y_move (v := .slice _ _ _) rfl) ?_
  refine tl_e rfl (e_call' rfl (RStep_spec9 o (hn6.mono (hM7.trans hM8)) (hx6.mono (hM7.trans hM8)) 5 2 3) ?_)
  rintro _ M9 _ hM9 ⟨rfl, A9, m9, c9, rfl, hA9⟩
  replace hm := hm.trans hM9
  refine tl_e rfl (e_call' rfl (same_spec (hA8.mono hM9) hA9) ?_)
  rintro _ _ _ _ ⟨rfl, rfl, rfl⟩
  refine tl_y rfl (y_pickT rfl rfl) ?_
  refine tl_y rfl (y_move (v := .bool _) rfl) ?_
  refine tl_set (s := 50) (u := .bool true) rfl (by simp) ?_
  refine tl_y rfl (y_move (v := .slice _ _ _) rfl) ?_
  refine tl_e rfl (e_call' rfl (Part_spec (hg.mono hm).sha (hg.mono hm).kec 0 25 (hn6.mono (hM7.trans (hM8.trans hM9))) 1 2 (by omega) (Row.nil _ _) .nil (by decide)) ?_)
  rintro _ M10 L hM10 ⟨rfl, A10, m10, c10, rfl, hA10⟩
  replace hm := hm.trans hM10
  have h10 := hA10.size
  rw [cPart, if_pos (by simp), cSum, if_neg (by decide)] at h10
  obtain rfl : m10 = 0 := h10.symm
  refine tl_y rfl (y_len rfl) ?_
  refine tl_y rfl (y_eql rfl rfl) ?_
  refine tl_y rfl (y_pickT rfl rfl) ?_
  refine tl_y rfl (y_move (v := .bool _) rfl) ?_
  refine tl_set (s := 56) (u := .bool true) rfl (rfl) ?_
  refine tl_y rfl (y_move (v := .slice _ _ _) rfl) ?_
  refine tl_e rfl (e_call' rfl (Part_spec (hg.mono hm).sha (hg.mono hm).kec 0 24 (hn6.mono (hM7.trans (hM8.trans (hM9.trans hM10)))) 1 2 (by omega) (Row.nil _ _) .nil (by decide)) ?_)
  rintro _ M11 L hM11 ⟨rfl, A11, m11, c11, rfl, hA11⟩
  have h11 := hA11.size
  rw [cPart, if_pos (by simp), cSum, if_pos (by decide), csum_length (by decide) _ (sha_length _)] at h11
  obtain rfl : m11 = 24 := h11.symm
  refine tl_y rfl (y_len rfl) ?_
  refine tl_y rfl (y_eql rfl rfl) ?_
  refine tl_y rfl (y_pickT rfl rfl) ?_
  refine tl_y rfl (y_assign (v := .bool _) rfl) ?_
  refine tl_nil (.then_normal ?_)
  refine .sub (F' := [(0, _)]) (.cons rfl .nil) ?_
  refine x_ret (.dropTo L inferInstance (ret1 rfl rfl (hm.trans hM11) ⟨rfl, rfl⟩))
end
end Go.Proofs.YtgpjbjbdfkiklaaDoor
set_option linter.unusedVariables false
set_option linter.unusedSimpArgs false
set_option linter.constructorNameAsVariable false
namespace Go.Proofs.YtgpjbjbdfkiklaaDoor
open Go Go.Eng
section
variable {G : World} {M : Mem} {L : Own}
theorem upC_add (o : OtsV) (name : List UInt8) (q i f : Nat) (x : List UInt8) (a b : Nat) : upC o name q i f x (a + b) = upC o name q i (f + a) (upC o name q i f x a) b := by
  induction b with
  | zero => rfl
  | succ b ih => rw [← Nat.add_assoc, upC, ih, upC, Nat.add_assoc]
theorem otsV_ok (c : UInt8) : ∃ o : OtsV, otsV (UInt32.ofNat (1 + c.toNat % 16)) = o ∧ otsE (UInt32.ofNat (1 + c.toNat % 16)) = 0 ∧ otsE o.code = 0 ∧ otsV o.code = o ∧ okC o.kind o.n ∧ 26 ≤ o.p ∧ o.p ≤ 265 ∧ ∃ w, isW w ∧ o.w = ((w : Nat) : Int) := by
  have hlt : c.toNat % 16 < 16 := Nat.mod_lt _ (by omega)
  have h1 : ∀ k : Fin 16, otsE (UInt32.ofNat (1 + k.val)) = 0 ∧ otsV (UInt32.ofNat (1 + k.val)) = otsT k.val ∧ otsE (otsT k.val).code = 0 ∧ otsV (otsT k.val).code = otsT k.val := by decide +kernel
  obtain ⟨a1, a2, a3, a4⟩ := h1 ⟨_, hlt⟩
  obtain ⟨b1, b2, b3, b4⟩ := otsT_facts hlt
  exact ⟨_, a2, a1, a3, a4, b1, b2, b3, b4⟩
theorem ChainOn_spec (hg : ChG M) (code : UInt8) {NA : Option Addr} {nl nc : Nat} {name : List UInt8} (hname : Bytes M NA nl nc name) (q : UInt32) (pi pf pt : Int) {A : Option Addr} {m c : Nat} {x : List UInt8} (h : Bytes M A m c x) :
    Con Tryd.prog 5 #[.int .u8 (code.toNat : Int), .agg #[.slice NA nl nc, .int .u32 (q.toNat : Int), .int .i64 pi, .int .i64 pf, .int .i64 pt], .slice A m c] G M L (fun v M' L' => v = .bool true) noPanic := by
  have hnl := hname.size
  have hml := h.size
  have hmc := h.le
  have hnc := hname.le
  have hcd := code.toNat_lt
  have hq := q.toNat_lt
  obtain ⟨o, eo, ee, oe, ov, oc, op1, op2, w, hw, hww⟩ := otsV_ok code
  have hon : o.n = 24 ∨ o.n = 32 := oc.2
  have hpw := pw2_w hw
  refine enter (args := [_, _, _]) (fn := Tryd.f5) ⟨Tryd.func5, rfl, by kernel_rfl, by kernel_rfl⟩ 115 rfl ?_
  refine x_seq (x_region ?_)
  refine tl_e rfl (e_box rfl (fun b1 => ?_))
  refine tl_y rfl (y_assign rfl) ?_
  refine tl_nil (.then_normal ?_)
  refine x_seq (x_seq (x_region ?_))
  refine tl_e rfl (e_call' rfl (awake9_spec hg) ?_)
  rintro _ M1 _ hM1 ⟨rfl, rfl⟩
  have hm := hM1
  refine tl_y rfl (y_not rfl) ?_
  refine tl_nil (.then_normal ?_)
  refine x_false rfl (rfl) ?_
  refine x_skip (.then_normal ?_)
  refine .sub (F' := [(0, _), (2, _), (4, _)]) (.cons rfl (.cons rfl (.cons rfl .nil))) ?_
  refine x_seq (x_region ?_)
  refine tl_y rfl (y_fieldAddr rfl) ?_
  refine tl_y rfl (y_load rfl rfl (.own inferInstance inferInstance)) ?_
  refine tl_y rfl (y_u32u8 rfl) ?_
  refine tl_y rfl (y_assign (v := .int _ _) rfl) ?_
  refine tl_nil (.then_normal ?_)
  refine x_seq (x_region ?_)
  refine tl_y rfl (y_move (v := .int _ _) rfl) ?_
  refine tl_y rfl (y_convN32 rfl (by omega)) ?_
  refine tl_y rfl (y_remI rfl rfl (by omega)) ?_
  rw [show (code.toNat : Int) % 16 = ((code.toNat % 16 : Nat) : Int) by omega]
  refine tl_y rfl (y_addN32 rfl rfl (by omega)) ?_
  rw [show (1 : Int) + ((code.toNat % 16 : Nat) : Int) = ((UInt32.ofNat (1 + code.toNat % 16)).toNat : Int) by rw [UInt32.toNat_ofNat']; omega]
  refine tl_e rfl (e_call' rfl (ROts_spec _) ?_)
  rintro _ _ _ _ ⟨rfl, rfl, rfl⟩
  rw [eo, ee]
  refine tl_y rfl (y_move (v := .tuple _) rfl) ?_
  refine tl_y rfl (y_extract rfl) ?_
  refine tl_y rfl (y_extract rfl) ?_
  refine tl_e rfl (e_alloc (fun b2 => ?_))
  refine tl_e rfl (e_store rfl rfl (by rfl) (by rfl) inferInstance inferInstance inferInstance ?_)
  refine tl_y rfl (y_assign (v := .int _ _) rfl) ?_
  refine tl_nil (.then_normal ?_)
  refine .sub (F' := [(2, _), (4, _), (7, _), (8, _), (9, _)]) (.cons rfl (.cons rfl (.cons rfl (.cons rfl (.cons rfl .nil))))) ?_
  refine x_seq (x_seq (x_region ?_))
  refine tl_y rfl (y_move (v := .int _ _) rfl) ?_
  refine tl_y rfl (y_neq rfl rfl) ?_
  refine tl_y rfl (y_move (v := .bool _) rfl) ?_
  refine tl_set (s := 33) (u := .bool false) rfl (rfl) ?_
  refine tl_y rfl (y_move (v := .slice _ _ _) rfl) ?_
  refine tl_y rfl (y_len rfl) ?_
  refine tl_y rfl (y_fieldAddr rfl) ?_
  refine tl_y rfl (y_load rfl rfl (.own inferInstance inferInstance)) ?_
  refine tl_y rfl (y_lss rfl rfl) ?_
  refine tl_y rfl (y_pickF rfl rfl) ?_
  refine tl_y rfl (y_move (v := .bool _) rfl) ?_
  refine tl_cases (s := 40) rfl (fun hk2 => ?_) (fun hk2 => ?_)
  ·
    refine tl_skip rfl ?_
    refine tl_skip rfl ?_
    refine tl_skip rfl ?_
    refine tl_skip rfl ?_
    refine tl_y rfl (y_pickT rfl rfl) ?_
    refine tl_nil (.then_normal ?_)
    refine .sub (F' := [(2, _), (4, _), (7, _), (8, _), (9, _), (45, _)]) (.cons rfl (.cons rfl (.cons rfl (.cons rfl (.cons rfl (.cons rfl .nil)))))) ?_
    refine x_true rfl rfl ?_
    refine x_seq (x_region ?_)
    refine tl_y rfl (y_move (v := .int _ _) rfl) ?_
    refine tl_y rfl (y_eql rfl rfl) ?_
    refine tl_y rfl (y_assign (v := .bool _) rfl) ?_
    refine tl_nil (.then_normal ?_)
    refine .sub (F' := [(6, _)]) (.cons rfl .nil) ?_
    refine x_ret (.then_ret (ret1 rfl rfl hm rfl))
  ·
    refine tl_y rfl (y_fieldAddr rfl) ?_
    refine tl_y rfl (y_load rfl rfl (.own inferInstance inferInstance)) ?_
    refine tl_y rfl (y_len rfl) ?_
    refine tl_y rfl (y_lss rfl rfl) ?_
    refine tl_y rfl (y_pickF rfl rfl) ?_
    refine tl_nil (.then_normal ?_)
    refine .sub (F' := [(2, _), (4, _), (7, _), (8, _), (9, _), (45, _)]) (.cons rfl (.cons rfl (.cons rfl (.cons rfl (.cons rfl (.cons rfl .nil)))))) ?_
    refine x_cond rfl (fun hc2 => ?_) (fun hc2 => ?_)
    ·
      refine x_seq (x_region ?_)
      refine tl_y rfl (y_move (v := .int _ _) rfl) ?_
      refine tl_y rfl (y_eql rfl rfl) ?_
      refine tl_y rfl (y_assign (v := .bool _) rfl) ?_
      refine tl_nil (.then_normal ?_)
      refine .sub (F' := [(6, _)]) (.cons rfl .nil) ?_
      refine x_ret (.then_ret (ret1 rfl rfl hm rfl))
    ·
      have hshl : IntKind.i64.wrap (1 * 2 ^ (min o.w.toNat IntKind.i64.bits)) = ((pw2 w : Nat) : Int) := by rw [hww]; exact shl1_w hw
      have hmid := q.toUInt8.toNat_lt
      have hw8 : 1 ≤ w ∧ w ≤ 8 := by rcases hw with rfl | rfl | rfl | rfl <;> omega
      have hmw : q.toUInt8.toNat % pw2 w < pw2 w := Nat.mod_lt _ (by omega)
      refine x_skip (.then_normal ?_)
      refine x_seq (x_region ?_)
      refine tl_y rfl (y_fieldAddr rfl) ?_
      refine tl_y rfl (y_load rfl rfl (.own inferInstance inferInstance)) ?_
      refine tl_y rfl (y_sliceH rfl rfl (by omega) (by omega)) ?_
      refine tl_y rfl (y_assign (v := .slice _ _ _) rfl) ?_
      refine tl_nil (.then_normal ?_)
      refine .sub (F' := [(2, _), (4, _), (7, _), (8, _), (10, _)]) (.cons rfl (.cons rfl (.cons rfl (.cons rfl (.cons rfl .nil))))) ?_
      refine x_seq (x_region ?_)
      refine tl_y rfl (y_fieldAddr rfl) ?_
      refine tl_y rfl (y_load rfl rfl (.own inferInstance inferInstance)) ?_
      refine tl_y rfl (y_convN64 rfl (by omega)) ?_
      refine tl_y rfl (y_shl rfl rfl (by omega)) ?_
      rw [hshl]
      refine tl_y rfl (y_subI rfl rfl (by omega)) ?_
      refine tl_y rfl (y_assign (v := .int _ _) rfl) ?_
      refine tl_nil (.then_normal ?_)
      refine .sub (F' := [(2, _), (4, _), (7, _), (8, _), (10, _), (11, _)]) (.cons rfl (.cons rfl (.cons rfl (.cons rfl (.cons rfl (.cons rfl .nil)))))) ?_
      refine x_seq (x_region ?_)
      refine tl_y rfl (y_move (v := .int _ _) rfl) ?_
      refine tl_y rfl (y_convI rfl (by omega)) ?_
      refine tl_y rfl (y_move (v := .int _ _) rfl) ?_
      refine tl_y rfl (y_addI rfl rfl (by omega)) ?_
      refine tl_y rfl (y_remI rfl rfl (by omega)) ?_
      rw [show (q.toUInt8.toNat : Int) % (((pw2 w : Nat) : Int) - 1 + 1) = ((q.toUInt8.toNat % pw2 w : Nat) : Int) by rw [Int.sub_add_cancel]; simp]
      generalize hto : q.toUInt8.toNat % pw2 w = to_ at hmw
      refine tl_y rfl (y_assign (v := .int _ _) rfl) ?_
      refine tl_nil (.then_normal ?_)
      refine .sub (F' := [(2, _), (4, _), (7, _), (8, _), (10, _), (12, _)]) (.cons rfl (.cons rfl (.cons rfl (.cons rfl (.cons rfl (.cons rfl .nil)))))) ?_
      refine x_seq (x_region ?_)
      refine tl_y rfl (y_assign rfl) ?_
      refine tl_nil (.then_normal ?_)
      refine x_join (I := fun F D M2 L2 => ∃ fr : Nat, fr ≤ to_ ∧ D = [] ∧ M1 = M2 ∧ (b2, .cells (List.toArray o.cells) 36 (0, 0)) :: (b1, .cells (List.toArray [.slice NA nl nc, .int .u32 (q.toNat : Int), .int .i64 pi, .int .i64 pf, .int .i64 pt]) 26 (0, 0)) :: L = L2 ∧ F = [(2, .slice A m c), (4, .pointer (some ⟨b1, 0, none⟩)), (7, u8v q.toUInt8), (8, .pointer (some ⟨b2, 0, none⟩)), (10, .slice (sl NA 0 nc 1) 16 nc), (12, .int .i64 (to_ : Nat)), (13, .int .i64 (fr : Nat))]) ?_ (fun Jj1 => ?_)
      ·
        rintro _ _ _ _ ⟨fr, hfr, rfl, rfl, rfl, rfl⟩  -- slots [2, 4, 7, 8, 10, 12, 13]
        refine x_seq (x_region ?_)
        refine tl_y rfl (y_move (v := .int _ _) rfl) ?_
        refine tl_y rfl (y_convI rfl (by omega)) ?_
        refine tl_y rfl (y_fieldAddr rfl) ?_
        refine tl_y rfl (y_load rfl rfl (.own inferInstance inferInstance)) ?_
        refine tl_y rfl (y_remI rfl rfl (by omega)) ?_
        obtain ⟨i, hi⟩ : ∃ i : Nat, (q.toUInt8.toNat : Int) % o.p = (i : Int) := ⟨((q.toUInt8.toNat : Int) % o.p).toNat, by have := Int.emod_nonneg (q.toUInt8.toNat : Int) (show o.p ≠ 0 by omega); omega⟩
        have hip : (i : Int) < o.p := by rw [← hi]; exact Int.emod_lt_of_pos _ (by omega)
        rw [hi]
        have hn16 : Bytes M (sl NA 0 nc 1) 16 nc (name.take 16) := Bytes.take hname 16 (by omega)
        have hon' : ((o.n.toNat : Nat) : Int) = o.n := by omega
        have hx' : Bytes M (sl A 0 c 1) o.n.toNat c (x.take o.n.toNat) := Bytes.take h o.n.toNat (by omega)
        have hxl := hx'.size
        have hnl16 := hn16.size
        have hR : okR o (name.take 16).length (i : Int) (x.take o.n.toNat).length := ⟨oe, ov, hnl16, by omega, hip, by rw [hxl]; exact hon'⟩
        have hwt : o.w.toNat = w := by omega
        have hto' : ((to_ : Nat) : Int) ≤ ((pw2 w : Nat) : Int) - 1 := by omega
        refine tl_y rfl (y_assign (v := .int _ _) rfl) ?_
        refine tl_nil (.then_normal ?_)
        refine .sub (F' := [(2, _), (4, _), (8, _), (10, _), (12, _), (13, _), (14, _)]) (.cons rfl (.cons rfl (.cons rfl (.cons rfl (.cons rfl (.cons rfl (.cons rfl .nil))))))) ?_
        refine x_seq ?_
        refine x_draw 12 hmix rfl ?_
        refine to_y 0 rfl (by kernel_rfl) rfl (y_loadAgg rfl rfl (.own inferInstance inferInstance)) ?_
        refine to_p 1 rfl (by kernel_rfl) rfl (y_move (v := .slice _ _ _) rfl) ?_
        refine to_p 2 rfl (by kernel_rfl) rfl (y_fieldAddr rfl) ?_
        refine to_y 3 rfl (by kernel_rfl) rfl (y_load rfl rfl (.own inferInstance inferInstance)) ?_
        refine to_p 4 rfl (by kernel_rfl) rfl (y_move (v := .int _ _) rfl) ?_
        refine to_p 5 rfl (by kernel_rfl) rfl (y_move (v := .int _ _) rfl) ?_
        refine to_p 6 rfl (by kernel_rfl) rfl (y_move (v := .slice _ _ _) rfl) ?_
        refine to_p 7 rfl (by kernel_rfl) rfl (y_fieldAddr rfl) ?_
        refine to_y 8 rfl (by kernel_rfl) rfl (y_load rfl rfl (.own inferInstance inferInstance)) ?_
        refine to_p 9 rfl (by kernel_rfl) rfl (y_sliceH rfl rfl (by omega) (by omega)) ?_
        refine to_e 10 rfl (by kernel_rfl) rfl (e_call' rfl (Up_spec' (hg.mono hm).sha (hg.mono hm).kec (hg.mono hm).set o (hn16.mono hm) (hx'.mono hm) q (i : Int) 0 (fr : Int)) ?_)
        rintro _ M3 _ hM3 ⟨rfl, A3, m3, c3, rfl, hA3⟩
        rw [cUp, if_pos ⟨hR, by omega, by omega, by rw [hwt]; omega⟩, Int.toNat_natCast, show ((fr : Int) - 0).toNat = fr by omega, show (0 : Int).toNat = 0 from rfl] at hA3
        replace hm := hm.trans hM3
        have hlA := upC_length (okR_facts hR).1 sha_length (name.take 16) q.toNat i 0 hR.2.2.2.2.2 fr
        refine ⟨⟨(by first | exact Le.refl _ | assumption), Keeps.mem⟩, ?_⟩
        refine to_p 11 rfl (by kernel_rfl) rfl (y_assign (v := .slice _ _ _) rfl) ?_
        refine to_nil (by kernel_rfl) (.then_normal ?_)
        refine .sub (F' := [(2, _), (4, _), (8, _), (10, _), (12, _), (13, _), (14, _), (15, _)]) (.cons rfl (.cons rfl (.cons rfl (.cons rfl (.cons rfl (.cons rfl (.cons rfl (.cons rfl .nil)))))))) ?_
        refine x_seq (x_region ?_)
        refine tl_y rfl (y_loadAgg rfl rfl (.own inferInstance inferInstance)) ?_
        refine tl_y rfl (y_move (v := .slice _ _ _) rfl) ?_
        refine tl_y rfl (y_fieldAddr rfl) ?_
        refine tl_y rfl (y_load rfl rfl (.own inferInstance inferInstance)) ?_
        refine tl_y rfl (y_move (v := .int _ _) rfl) ?_
        refine tl_y rfl (y_move (v := .int _ _) rfl) ?_
        refine tl_y rfl (y_move (v := .int _ _) rfl) ?_
        refine tl_y rfl (y_move (v := .slice _ _ _) rfl) ?_
        refine tl_e rfl (e_call' rfl (Up_spec' (hg.mono hm).sha (hg.mono hm).kec (hg.mono hm).set o (hn16.mono hm) hA3 q (i : Int) (fr : Int) (to_ : Int)) ?_)
        rintro _ M4 _ hM4 ⟨rfl, A4, m4, c4, rfl, hA4⟩
        rw [cUp, if_pos ⟨okR_len hR hlA, by omega, by omega, by rw [hwt]; omega⟩, Int.toNat_natCast, Int.toNat_natCast, show ((to_ : Int) - (fr : Int)).toNat = to_ - fr by omega] at hA4
        replace hm := hm.trans hM4
        refine tl_y rfl (y_assign (v := .slice _ _ _) rfl) ?_
        refine tl_nil (.then_normal ?_)
        refine .sub (F' := [(2, _), (4, _), (8, _), (10, _), (12, _), (14, _), (16, _)]) (.cons rfl (.cons rfl (.cons rfl (.cons rfl (.cons rfl (.cons rfl (.cons rfl .nil))))))) ?_
        refine x_seq ?_
        refine x_draw 12 hmix rfl ?_
        refine to_y 0 rfl (by kernel_rfl) rfl (y_loadAgg rfl rfl (.own inferInstance inferInstance)) ?_
        refine to_p 1 rfl (by kernel_rfl) rfl (y_move (v := .slice _ _ _) rfl) ?_
        refine to_p 2 rfl (by kernel_rfl) rfl (y_fieldAddr rfl) ?_
        refine to_y 3 rfl (by kernel_rfl) rfl (y_load rfl rfl (.own inferInstance inferInstance)) ?_
        refine to_p 4 rfl (by kernel_rfl) rfl (y_move (v := .int _ _) rfl) ?_
        refine to_p 5 rfl (by kernel_rfl) rfl (y_move (v := .int _ _) rfl) ?_
        refine to_p 6 rfl (by kernel_rfl) rfl (y_move (v := .slice _ _ _) rfl) ?_
        refine to_p 7 rfl (by kernel_rfl) rfl (y_fieldAddr rfl) ?_
        refine to_y 8 rfl (by kernel_rfl) rfl (y_load rfl rfl (.own inferInstance inferInstance)) ?_
        refine to_p 9 rfl (by kernel_rfl) rfl (y_sliceH rfl rfl (by omega) (by omega)) ?_
        refine to_e 10 rfl (by kernel_rfl) rfl (e_call' rfl (Up_spec' (hg.mono hm).sha (hg.mono hm).kec (hg.mono hm).set o (hn16.mono hm) (hx'.mono hm) q (i : Int) 0 (to_ : Int)) ?_)
        rintro _ M5 _ hM5 ⟨rfl, A5, m5, c5, rfl, hA5⟩
        rw [cUp, if_pos ⟨hR, by omega, by omega, by rw [hwt]; omega⟩, Int.toNat_natCast, show ((to_ : Int) - 0).toNat = to_ by omega, show (0 : Int).toNat = 0 from rfl] at hA5
        replace hm := hm.trans hM5
        have hlC := upC_length (okR_facts hR).1 sha_length (name.take 16) q.toNat i 0 hR.2.2.2.2.2 to_
        have hsC := hA5.size
        have hadd := upC_add o (name.take 16) q.toNat i 0 (x.take o.n.toNat) fr (to_ - fr)
        rw [show fr + (to_ - fr) = to_ by omega, Nat.zero_add] at hadd
        refine ⟨⟨(by first | exact Le.refl _ | assumption), Keeps.mem⟩, ?_⟩
        refine to_p 11 rfl (by kernel_rfl) rfl (y_assign (v := .slice _ _ _) rfl) ?_
        refine to_nil (by kernel_rfl) (.then_normal ?_)
        refine .sub (F' := [(8, _), (16, _), (17, _)]) (.cons rfl (.cons rfl (.cons rfl .nil))) ?_
        refine x_seq (x_region ?_)
        refine tl_y rfl (y_move (v := .slice _ _ _) rfl) ?_
        refine tl_y rfl (y_len rfl) ?_
        refine tl_y rfl (y_fieldAddr rfl) ?_
        refine tl_y rfl (y_load rfl rfl (.own inferInstance inferInstance)) ?_
        refine tl_y rfl (y_eql rfl rfl) ?_
        refine tl_y rfl (y_move (v := .bool _) rfl) ?_
        refine tl_set (s := 110) (u := .bool true) rfl (by rw [decide_eq_true]; omega) ?_
        refine tl_y rfl (y_move (v := .slice _ _ _) rfl) ?_
        refine tl_y rfl (y_move (v := .slice _ _ _) rfl) ?_
        refine tl_e rfl (e_call' rfl (same_spec (hA4.mono hM5) hA5) ?_)
        rintro _ _ _ _ ⟨rfl, rfl, rfl⟩
        refine tl_y rfl (y_pickT rfl rfl) ?_
        refine tl_y rfl (y_assign (v := .bool _) rfl) ?_
        refine tl_nil (.then_normal ?_)
        refine .sub (F' := [(6, _)]) (.cons rfl .nil) ?_
        refine x_ret (ret1 rfl rfl hm (by rw [hadd]; simp))
      ·
        refine x_seq (x_region ?_)
        refine tl_y rfl (y_move (v := .int _ _) rfl) ?_
        refine tl_y rfl (y_gtr rfl rfl) ?_
        refine tl_nil (.then_normal ?_)
        refine x_cond rfl (fun hc3 => ?_) (fun hc3 => ?_)
        ·
          have hfl : (q.toNat : Int) % ((to_ : Int) + 1) = ((q.toNat % (to_ + 1) : Nat) : Int) := by simp
          have hfm : q.toNat % (to_ + 1) < to_ + 1 := Nat.mod_lt _ (by omega)
          refine x_region ?_
          refine tl_y rfl (y_fieldAddr rfl) ?_
          refine tl_y rfl (y_load rfl rfl (.own inferInstance inferInstance)) ?_
          refine tl_y rfl (y_convI rfl (by omega)) ?_
          refine tl_y rfl (y_move (v := .int _ _) rfl) ?_
          refine tl_y rfl (y_addI rfl rfl (by omega)) ?_
          refine tl_y rfl (y_remI rfl rfl (by omega)) ?_
          rw [hfl]
          refine tl_y rfl (y_assign (v := .int _ _) rfl) ?_
          refine tl_nil (.then_normal (.sub (F' := [(2, _), (4, _), (7, _), (8, _), (10, _), (12, _), (13, _)]) (.cons rfl (.cons rfl (.cons rfl (.cons rfl (.cons rfl (.cons rfl (.cons rfl .nil))))))) (Jj1 _ _ _ _ ?_)))
          exact ⟨q.toNat % (to_ + 1), by omega, rfl, rfl, rfl, rfl⟩
        ·
          refine x_skip (.then_normal (.sub (F' := [(2, _), (4, _), (7, _), (8, _), (10, _), (12, _), (13, _)]) (.cons rfl (.cons rfl (.cons rfl (.cons rfl (.cons rfl (.cons rfl (.cons rfl .nil))))))) (Jj1 _ _ _ _ ?_)))
          exact ⟨0, by omega, rfl, rfl, rfl, rfl⟩
end
end Go.Proofs.YtgpjbjbdfkiklaaDoor
set_option linter.unusedVariables false
set_option linter.unusedSimpArgs false
set_option linter.constructorNameAsVariable false
namespace Go.Proofs.YtgpjbjbdfkiklaaDoor
open Go Go.Eng
section
variable {G : World} {M : Mem} {L : Own}
theorem two_get (k : Nat) (h : k < 2) : [Value.int .i64 24, .int .i64 32][k]? = some (.int .i64 ((24 + 8 * k : Nat) : Int)) := by
  rcases (by omega : k = 0 ∨ k = 1) with rfl | rfl <;> rfl
theorem ChainKinds_spec (hg : ChG M) (nn : UInt8) {A : Option Addr} {m c : Nat} {text : List UInt8} (h : Bytes M A m c text) :
    Con Tryd.prog 6 #[.int .u8 (nn.toNat : Int), .slice A m c] G M L (fun v M' L' => v = .bool true) noPanic := by
  have hml := h.size
  have hmc := h.le
  have hnn := nn.toNat_lt
  have h2 : nn.toNat % 2 < 2 := Nat.mod_lt _ (by omega)
  obtain ⟨n, hn⟩ : ∃ n, n = 24 + 8 * (nn.toNat % 2) := ⟨_, rfl⟩
  have hnb : n = 24 ∨ n = 32 := by omega
  have hok : ∀ kind : Int, kind = 0 ∨ kind = 1 → okC kind (n : Int) := fun kind hk => ⟨hk, by omega⟩
  refine enter (args := [_, _]) (fn := Tryd.f6) ⟨Tryd.func6, rfl, by kernel_rfl, by kernel_rfl⟩ 59 rfl ?_
  refine x_seq (x_region ?_)
  refine tl_y rfl (y_assign rfl) ?_
  refine tl_nil (.then_normal ?_)
  refine x_seq (x_seq (x_region ?_))
  refine tl_e rfl (e_call' rfl (awake9_spec hg) ?_)
  rintro _ M1 _ hM1 ⟨rfl, rfl⟩
  have hm := hM1
  refine tl_y rfl (y_not rfl) ?_
  refine tl_nil (.then_normal ?_)
  refine x_false rfl (rfl) ?_
  refine x_skip (.then_normal ?_)
  refine x_seq (x_seq (x_region ?_))
  refine tl_y rfl (y_move (v := .slice _ _ _) rfl) ?_
  refine tl_y rfl (y_len rfl) ?_
  refine tl_y rfl (y_gtr rfl rfl) ?_
  refine tl_nil (.then_normal ?_)
  refine .sub (F' := [(0, _), (1, _), (11, _)]) (.cons rfl (.cons rfl (.cons rfl .nil))) ?_
  refine x_cond rfl (fun hc2 => ?_) (fun hc2 => ?_)
  ·
    refine x_seq (x_region ?_)
    refine tl_y rfl (y_assign rfl) ?_
    refine tl_nil (.then_normal ?_)
    refine x_ret (.then_ret (ret1 rfl rfl hm rfl))
  ·
    have hm1000 : m ≤ 1000 := by omega
    refine x_skip (.then_normal ?_)
    refine x_seq (x_region ?_)
    refine tl_e rfl (e_buildSlice rfl (by decide) (fun b1 => ?_))
    refine tl_y rfl (y_move (v := .int _ _) rfl) ?_
    refine tl_y rfl (y_convI rfl (by omega)) ?_
    refine tl_y rfl (y_remI rfl rfl (by omega)) ?_
    refine tl_y rfl (y_indexAddr rfl rfl (by omega)) ?_
    refine tl_y rfl (y_load rfl rfl (.at_ (.ownAt (i := nn.toNat % 2) (c := [Value.int .i64 24, .int .i64 32]) inferInstance (two_get _ h2)) (by omega))) ?_
    rw [← hn]
    refine tl_y rfl (y_assign (v := .int _ _) rfl) ?_
    refine tl_nil (.then_normal ?_)
    refine .sub (F' := [(0, _), (1, _), (5, _)]) (.cons rfl (.cons rfl (.cons rfl .nil))) ?_
    refine x_seq (x_region ?_)
    refine tl_y rfl (y_move (v := .slice _ _ _) rfl) ?_
    refine tl_e rfl (e_call' rfl (One_spec (hg.mono hm).sha (h.mono hm) (by omega)) ?_)
    rintro _ M2 _ hM2 ⟨rfl, A2, c2, rfl, hA2⟩
    replace hm := hm.trans hM2
    have hc2 := hA2.le
    refine tl_y rfl (y_assign (v := .slice _ _ _) rfl) ?_
    refine tl_nil (.then_normal ?_)
    refine x_seq (x_seq (x_region ?_))
    refine tl_y rfl (y_move (v := .slice _ _ _) rfl) ?_
    refine tl_y rfl (y_len rfl) ?_
    refine tl_y rfl (y_neq rfl rfl) ?_
    refine tl_nil (.then_normal ?_)
    refine .sub (F' := [(0, _), (1, _), (5, _), (6, _), (22, _)]) (.cons rfl (.cons rfl (.cons rfl (.cons rfl (.cons rfl .nil))))) ?_
    refine x_false rfl (rfl) ?_
    refine x_skip (.then_normal ?_)
    refine x_seq ?_
    have hd : Le M2 M2 := Le.refl _
    refine x_draw 37 hmix rfl ?_
    refine to_p 0 rfl (by kernel_rfl) rfl (y_move (v := .int _ _) rfl) ?_
    refine to_p 1 rfl (by kernel_rfl) rfl (y_move (v := .slice _ _ _) rfl) ?_
    refine to_p 4 rfl (by kernel_rfl) rfl (y_move (v := .slice _ _ _) rfl) ?_
    refine to_p 5 rfl (by kernel_rfl) rfl (y_move (v := .int _ _) rfl) ?_
    refine to_p 6 rfl (by kernel_rfl) rfl (y_sliceH rfl rfl (by omega) (by omega)) ?_
    refine to_e 2 rfl (by kernel_rfl) rfl (e_buildSlice rfl (by decide) (fun b3 => ?_))
    refine ⟨⟨hd, Keeps.mem⟩, ?_⟩
    refine .pub b3 inferInstance (fun M3 hM3 hb3 => ?_)
    replace hd := hd.trans hM3
    replace hm := hm.trans hM3
    have hfl1 : [text].flatten = text := by simp
    refine to_e 3 rfl (by kernel_rfl) rfl (e_call' rfl (Sum_spec (hg.mono hm).sha (hg.mono hm).kec 0 (n : Int) (Row.whole hb3 rfl (by omega)) (.cons (h.mono hm) .nil) (by rw [hfl1]; omega)) ?_)
    rintro _ M4 _ hM4 ⟨rfl, A4, m4, c4, rfl, hA4⟩
    rw [hfl1, cSum, if_pos (hok 0 (.inl rfl)), csum, if_pos rfl, Int.toNat_natCast] at hA4
    replace hd := hd.trans hM4
    replace hm := hm.trans hM4
    refine ⟨⟨(by first | exact Le.refl _ | assumption), Keeps.mem⟩, ?_⟩
    refine to_e 7 rfl (by kernel_rfl) rfl (e_call' rfl (same_spec hA4 (Bytes.take (hA2.mono hd) n (by omega))) ?_)
    rintro _ _ _ _ ⟨rfl, rfl, rfl⟩
    refine ⟨⟨(by first | exact Le.refl _ | assumption), Keeps.mem⟩, ?_⟩
    refine to_p 8 rfl (by kernel_rfl) rfl (y_move (v := .bool _) rfl) ?_
    refine to_set (s := 31) (u := .bool true) rfl (by simp) ?_
    refine to_p 9 rfl (by kernel_rfl) rfl (y_move (v := .int _ _) rfl) ?_
    refine to_p 10 rfl (by kernel_rfl) rfl (y_move (v := .slice _ _ _) rfl) ?_
    refine to_p 13 rfl (by kernel_rfl) rfl (y_move (v := .slice _ _ _) rfl) ?_
    refine to_p 14 rfl (by kernel_rfl) rfl (y_move (v := .int _ _) rfl) ?_
    refine to_e 11 rfl (by kernel_rfl) rfl (e_buildSlice rfl (by decide) (fun b4 => ?_))
    refine ⟨⟨hd, Keeps.mem⟩, ?_⟩
    refine .pub b4 inferInstance (fun M5 hM5 hb4 => ?_)
    replace hd := hd.trans hM5
    replace hm := hm.trans hM5
    refine to_e 12 rfl (by kernel_rfl) rfl (e_call' rfl (Sum_spec (hg.mono hm).sha (hg.mono hm).kec 1 (n : Int) (Row.whole hb4 rfl (by omega)) (.cons (h.mono hm) .nil) (by rw [hfl1]; omega)) ?_)
    rintro _ M6 _ hM6 ⟨rfl, A6, m6, c6, rfl, hA6⟩
    rw [hfl1, cSum, if_pos (hok 1 (.inr rfl)), csum, if_neg (by decide), Int.toNat_natCast] at hA6
    replace hd := hd.trans hM6
    replace hm := hm.trans hM6
    refine ⟨⟨(by first | exact Le.refl _ | assumption), Keeps.mem⟩, ?_⟩
    refine to_e 15 rfl (by kernel_rfl) rfl (e_call' rfl (ShSum_spec (hg.mono hm).kec (h.mono hm) (by omega) n (by omega)) ?_)
    rintro _ M7 _ hM7 ⟨A7, c7, rfl, hA7, rfl⟩
    replace hd := hd.trans hM7
    replace hm := hm.trans hM7
    refine ⟨⟨(by first | exact Le.refl _ | assumption), Keeps.mem⟩, ?_⟩
    refine to_e 16 rfl (by kernel_rfl) rfl (e_call' rfl (same_spec (hA6.mono hM7) hA7) ?_)
    rintro _ _ _ _ ⟨rfl, rfl, rfl⟩
    refine ⟨⟨(by first | exact Le.refl _ | assumption), Keeps.mem⟩, ?_⟩
    refine to_p 17 rfl (by kernel_rfl) rfl (y_pickT rfl rfl) ?_
    refine to_p 18 rfl (by kernel_rfl) rfl (y_move (v := .bool _) rfl) ?_
    refine to_set (s := 41) (u := .bool true) rfl (by simp) ?_
    refine to_p 19 rfl (by kernel_rfl) rfl (y_move (v := .int _ _) rfl) ?_
    refine to_p 22 rfl (by kernel_rfl) rfl (y_move (v := .int _ _) rfl) ?_
    refine to_e 20 rfl (by kernel_rfl) rfl (e_call' rfl (Sum_spec (hg.mono hm).sha (hg.mono hm).kec 0 (n : Int) (Row.nil _ _) .nil (by decide)) ?_)
    rintro _ M8 _ hM8 ⟨rfl, A8, m8, c8, rfl, hA8⟩
    replace hd := hd.trans hM8
    replace hm := hm.trans hM8
    have h8 := hA8.size
    rw [cSum, if_pos (hok 0 (.inl rfl)), csum_length (hok 0 (.inl rfl)) _ (sha_length _), Int.toNat_natCast] at h8
    refine ⟨⟨(by first | exact Le.refl _ | assumption), Keeps.mem⟩, ?_⟩
    refine to_p 21 rfl (by kernel_rfl) rfl (y_len rfl) ?_
    refine to_p 23 rfl (by kernel_rfl) rfl (y_eql rfl rfl) ?_
    refine to_p 24 rfl (by kernel_rfl) rfl (y_pickT rfl rfl) ?_
    refine to_p 25 rfl (by kernel_rfl) rfl (y_move (v := .bool _) rfl) ?_
    refine to_set (s := 48) (u := .bool true) rfl (by rw [decide_eq_true]; omega) ?_
    refine to_p 26 rfl (by kernel_rfl) rfl (y_move (v := .int _ _) rfl) ?_
    refine to_p 27 rfl (by kernel_rfl) rfl (y_convI rfl (by omega)) ?_
    refine to_p 28 rfl (by kernel_rfl) rfl (y_addI rfl rfl (by omega)) ?_
    refine to_p 29 rfl (by kernel_rfl) rfl (y_move (v := .int _ _) rfl) ?_
    refine to_p 30 rfl (by kernel_rfl) rfl (y_move (v := .slice _ _ _) rfl) ?_
    refine to_e 31 rfl (by kernel_rfl) rfl (e_buildSlice rfl (by decide) (fun b5 => ?_))
    refine ⟨⟨hd, Keeps.mem⟩, ?_⟩
    refine .pub b5 inferInstance (fun M9 hM9 hb5 => ?_)
    replace hd := hd.trans hM9
    replace hm := hm.trans hM9
    refine to_e 32 rfl (by kernel_rfl) rfl (e_call' rfl (Sum_spec (hg.mono hm).sha (hg.mono hm).kec ((nn.toNat : Int) + 2) (n : Int) (Row.whole hb5 rfl (by omega)) (.cons (h.mono hm) .nil) (by rw [hfl1]; omega)) ?_)
    rintro _ M10 _ hM10 ⟨rfl, A10, m10, c10, rfl, hA10⟩
    replace hd := hd.trans hM10
    replace hm := hm.trans hM10
    have h10 := hA10.size
    rw [cSum, if_neg (fun hh => by have := hh.1; omega)] at h10
    obtain rfl : m10 = 0 := h10.symm
    refine ⟨⟨(by first | exact Le.refl _ | assumption), Keeps.mem⟩, ?_⟩
    refine to_p 33 rfl (by kernel_rfl) rfl (y_len rfl) ?_
    refine to_p 34 rfl (by kernel_rfl) rfl (y_eql rfl rfl) ?_
    refine to_p 35 rfl (by kernel_rfl) rfl (y_pickT rfl rfl) ?_
    refine to_p 36 rfl (by kernel_rfl) rfl (y_assign (v := .bool _) rfl) ?_
    refine to_nil (by kernel_rfl) (.then_normal ?_)
    refine .sub (F' := [(4, _)]) (.cons rfl .nil) ?_
    refine x_ret (ret1 rfl rfl hm rfl)
theorem ChainOnes_spec (hg : ChG M) {NA : Option Addr} {nl nc : Nat} {name : List UInt8} (hname : Bytes M NA nl nc name) (q : UInt32) (pi pf pt : Int) {A : Option Addr} {m c : Nat} {x : List UInt8} (h : Bytes M A m c x) (nn : UInt8) :
    Con Tryd.prog 7 #[.agg #[.slice NA nl nc, .int .u32 (q.toNat : Int), .int .i64 pi, .int .i64 pf, .int .i64 pt], .slice A m c, .int .u8 (nn.toNat : Int)] G M L (fun v M' L' => v = .bool true) noPanic := by
  have hnl := hname.size
  have hml := h.size
  have hmc := h.le
  have hnc := hname.le
  have hnn := nn.toNat_lt
  obtain ⟨o, eo, ee, on, ok_, ow, op, oe, ov⟩ := f9
  have hon : o.n.toNat = 24 := by omega
  have hwt : o.w.toNat = 4 := by omega
  refine enter (args := [_, _, _]) (fn := Tryd.f7) ⟨Tryd.func7, rfl, by kernel_rfl, by kernel_rfl⟩ 76 rfl ?_
  refine x_seq (x_region ?_)
  refine tl_e rfl (e_box rfl (fun b1 => ?_))
  refine tl_y rfl (y_assign rfl) ?_
  refine tl_nil (.then_normal ?_)
  refine x_seq (x_seq (x_region ?_))
  refine tl_e rfl (e_call' rfl (awake9_spec hg) ?_)
  rintro _ M1 _ hM1 ⟨rfl, rfl⟩
  have hm := hM1
  refine tl_y rfl (y_not rfl) ?_
  refine tl_nil (.then_normal ?_)
  refine x_false rfl (rfl) ?_
  refine x_skip (.then_normal ?_)
  refine x_seq (x_region ?_)
  refine tl_e rfl (e_call' rfl (ROts_spec 7) ?_)
  rintro _ _ _ _ ⟨rfl, rfl, rfl⟩
  rw [eo, ee]
  refine tl_y rfl (y_move (v := .tuple _) rfl) ?_
  refine tl_y rfl (y_extract rfl) ?_
  refine tl_y rfl (y_extract rfl) ?_
  refine tl_e rfl (e_alloc (fun b2 => ?_))
  refine tl_e rfl (e_store rfl rfl (by rfl) (by rfl) inferInstance inferInstance inferInstance ?_)
  refine tl_y rfl (y_assign (v := .int _ _) rfl) ?_
  refine tl_nil (.then_normal ?_)
  refine .sub (F' := [(1, _), (2, _), (3, _), (6, _), (7, _)]) (.cons rfl (.cons rfl (.cons rfl (.cons rfl (.cons rfl .nil))))) ?_
  refine x_seq (x_seq (x_region ?_))
  refine tl_y rfl (y_move (v := .slice _ _ _) rfl) ?_
  refine tl_y rfl (y_len rfl) ?_
  refine tl_y rfl (y_lss rfl rfl) ?_
  refine tl_y rfl (y_move (v := .bool _) rfl) ?_
  refine tl_cases (s := 22) rfl (fun hk1 => ?_) (fun hk1 => ?_)
  ·
    refine tl_skip rfl ?_
    refine tl_skip rfl ?_
    refine tl_skip rfl ?_
    refine tl_skip rfl ?_
    refine tl_y rfl (y_pickT rfl rfl) ?_
    refine tl_nil (.then_normal ?_)
    refine .sub (F' := [(1, _), (2, _), (3, _), (6, _), (7, _), (27, _)]) (.cons rfl (.cons rfl (.cons rfl (.cons rfl (.cons rfl (.cons rfl .nil)))))) ?_
    refine x_true rfl rfl ?_
    refine x_seq (x_region ?_)
    refine tl_y rfl (y_assign rfl) ?_
    refine tl_nil (.then_normal ?_)
    refine .sub (F' := [(6, _)]) (.cons rfl .nil) ?_
    refine x_ret (.then_ret (ret1 rfl rfl hm rfl))
  ·
    refine tl_y rfl (y_fieldAddr rfl) ?_
    refine tl_y rfl (y_load rfl rfl (.own inferInstance inferInstance)) ?_
    refine tl_y rfl (y_len rfl) ?_
    refine tl_y rfl (y_lss rfl rfl) ?_
    refine tl_y rfl (y_pickF rfl rfl) ?_
    refine tl_nil (.then_normal ?_)
    refine .sub (F' := [(1, _), (2, _), (3, _), (6, _), (7, _), (27, _)]) (.cons rfl (.cons rfl (.cons rfl (.cons rfl (.cons rfl (.cons rfl .nil)))))) ?_
    refine x_cond rfl (fun hc2 => ?_) (fun hc2 => ?_)
    ·
      refine x_seq (x_region ?_)
      refine tl_y rfl (y_assign rfl) ?_
      refine tl_nil (.then_normal ?_)
      refine .sub (F' := [(6, _)]) (.cons rfl .nil) ?_
      refine x_ret (.then_ret (ret1 rfl rfl hm rfl))
    ·
      have hn16 : Bytes M (sl NA 0 nc 1) 16 nc (name.take 16) := Bytes.take hname 16 (by omega)
      have hx24 : Bytes M (sl A 0 c 1) 24 c (x.take 24) := Bytes.take h 24 (by omega)
      have hxl := hx24.size
      have hnl16 := hn16.size
      have hR : okR o (name.take 16).length ((3 : Nat) : Int) (x.take 24).length := ⟨oe, ov, hnl16, by omega, by omega, by rw [hxl, on]; rfl⟩
      have hpw4 : pw2 4 = 16 := rfl
      have hR3 : okR o (name.take 16).length 3 (x.take 24).length := hR
      refine x_skip (.then_normal ?_)
      refine x_seq (x_region ?_)
      refine tl_y rfl (y_move (v := .int _ _) rfl) ?_
      refine tl_y rfl (y_convI rfl (by omega)) ?_
      refine tl_y rfl (y_remI rfl rfl (by omega)) ?_
      rw [show (nn.toNat : Int) % 16 = ((nn.toNat % 16 : Nat) : Int) by omega]
      have hk16 : nn.toNat % 16 < 16 := Nat.mod_lt _ (by omega)
      generalize nn.toNat % 16 = k16 at hk16
      refine tl_y rfl (y_assign (v := .int _ _) rfl) ?_
      refine tl_nil (.then_normal ?_)
      refine .sub (F' := [(1, _), (3, _), (6, _), (7, _), (9, _)]) (.cons rfl (.cons rfl (.cons rfl (.cons rfl (.cons rfl .nil))))) ?_
      refine x_seq (x_region ?_)
      refine tl_e rfl (e_buildSlice0 (fun b3 => ?_))
      refine tl_y rfl (y_move (v := .slice _ _ _) rfl) ?_
      refine tl_y rfl (y_sliceH rfl rfl (by omega) (by omega)) ?_
      refine tl_e rfl (e_append1 (by decide) rfl rfl OwnRow.made00 (.row (hx24.mono hm)) (all_one_bv _) (by omega) (by omega) (fun A2 c2 E2 hE2 => ?_))
      rw [Nat.zero_add, List.nil_append] at hE2
      rw [Nat.zero_add]
      refine .pubRow hE2 (fun M2 hM2 hown => ?_)
      replace hm := hm.trans hM2
      refine tl_y rfl (y_assign (v := .slice _ _ _) rfl) ?_
      refine tl_nil (.then_normal ?_)
      refine .sub (F' := [(1, _), (3, _), (6, _), (7, _), (9, _), (10, _)]) (.cons rfl (.cons rfl (.cons rfl (.cons rfl (.cons rfl (.cons rfl .nil)))))) ?_
      refine x_seq (x_seq (x_region ?_))
      refine tl_y rfl (y_assign rfl) ?_
      refine tl_nil (.then_normal ?_)
      refine x_block ?_
      refine x_loop (I := fun m' F D M4 L4 => ∃ (j : Nat) (A4 : Option Addr) (c4 : Nat), m' = k16 - j ∧ j ≤ k16 ∧ Le M M4 ∧ Bytes M4 A4 24 c4 (upC o (name.take 16) q.toNat 3 0 (x.take 24) j) ∧ D = [] ∧ (b2, .cells (List.toArray o.cells) 36 (0, 0)) :: (b1, .cells (List.toArray [.slice NA nl nc, .int .u32 (q.toNat : Int), .int .i64 pi, .int .i64 pf, .int .i64 pt]) 26 (0, 0)) :: L = L4 ∧ F = [(1, .slice A m c), (3, .pointer (some ⟨b1, 0, none⟩)), (6, .bool false), (7, .pointer (some ⟨b2, 0, none⟩)), (9, .int .i64 (k16 : Nat)), (10, .slice A4 24 c4), (11, .int .i64 (j : Nat))]) (k16) (F0 := [(1, _), (3, _), (6, _), (7, _), (9, _), (10, _), (11, _)]) ?_ (.cons rfl (.cons rfl (.cons rfl (.cons rfl (.cons rfl (.cons rfl (.cons rfl .nil))))))) ?_  -- slots [1, 3, 6, 7, 9, 10, 11], written [6, 10, 11]
      · exact ⟨0, A2, c2, rfl, by omega, hm, hown, rfl, rfl, rfl⟩
      rintro m _ _ M4 _ ⟨j, A4, c4, rfl, hj, hM4, hA4, rfl, rfl, rfl⟩
      refine x_seq (x_seq (x_region ?_))
      refine tl_y rfl (y_move (v := .int _ _) rfl) ?_
      refine tl_y rfl (y_move (v := .int _ _) rfl) ?_
      refine tl_y rfl (y_lss rfl rfl) ?_
      refine tl_nil (.then_normal ?_)
      refine x_cond rfl (fun hc3 => ?_) (fun hc3 => ?_)
      ·
        have hjk : j < k16 := by omega
        have hlj := upC_length (okR_facts hR).1 sha_length (name.take 16) q.toNat 3 0 hR.2.2.2.2.2 j
        have hRj : okR o (name.take 16).length 3 (upC o (name.take 16) q.toNat 3 0 (x.take 24) j).length := okR_len hR hlj
        refine x_skip (.then_normal ?_)
        refine x_seq ?_
        refine x_block ?_
        refine x_seq ?_
        refine x_draw 10 hmix rfl ?_
        refine to_y 0 rfl (by kernel_rfl) rfl (y_loadAgg rfl rfl (.own inferInstance inferInstance)) ?_
        refine to_p 1 rfl (by kernel_rfl) rfl (y_fieldAddr rfl) ?_
        refine to_y 2 rfl (by kernel_rfl) rfl (y_load rfl rfl (.own inferInstance inferInstance)) ?_
        refine to_p 3 rfl (by kernel_rfl) rfl (y_sliceH rfl rfl (by omega) (by omega)) ?_
        refine to_p 4 rfl (by kernel_rfl) rfl (y_fieldAddr rfl) ?_
        refine to_y 5 rfl (by kernel_rfl) rfl (y_load rfl rfl (.own inferInstance inferInstance)) ?_
        refine to_p 6 rfl (by kernel_rfl) rfl (y_move (v := .int _ _) rfl) ?_
        refine to_p 7 rfl (by kernel_rfl) rfl (y_move (v := .slice _ _ _) rfl) ?_
        refine to_e 8 rfl (by kernel_rfl) rfl (e_call' rfl (Step_spec (hg.mono hM4).sha (hg.mono hM4).kec (hg.mono hM4).set o (hn16.mono hM4) hA4 q 3 (j : Int)) ?_)
        rintro _ M5 _ hM5 ⟨rfl, A5, m5, c5, rfl, hA5⟩
        have hst := upC_step (q := q.toNat) (f := 0) sha_length hR (k := j) (by omega)
        rw [Nat.zero_add] at hst
        replace hst : cStep o (name.take 16) q.toNat 3 (j : Int) (upC o (name.take 16) q.toNat 3 0 (x.take 24) j) = upC o (name.take 16) q.toNat 3 0 (x.take 24) (j + 1) := hst
        rw [hst] at hA5
        have h5 := hA5.size
        have hl5 := upC_length (okR_facts hR).1 sha_length (name.take 16) q.toNat 3 0 hR.2.2.2.2.2 (j + 1)
        obtain rfl : m5 = 24 := by omega
        replace hM4 := hM4.trans hM5
        refine ⟨⟨(by first | exact Le.refl _ | assumption), Keeps.mem⟩, ?_⟩
        refine to_p 9 rfl (by kernel_rfl) rfl (y_assign (v := .slice _ _ _) rfl) ?_
        refine to_nil (by kernel_rfl) (.then_normal ?_)
        refine .sub (F' := [(1, _), (3, _), (6, _), (7, _), (9, _), (10, _), (11, _), (12, _)]) (.cons rfl (.cons rfl (.cons rfl (.cons rfl (.cons rfl (.cons rfl (.cons rfl (.cons rfl .nil)))))))) ?_
        refine x_seq (x_seq ?_)
        have hd : Le M5 M5 := Le.refl _
        refine x_draw 14 hmix rfl ?_
        refine to_p 0 rfl (by kernel_rfl) rfl (y_move (v := .slice _ _ _) rfl) ?_
        refine to_y 1 rfl (by kernel_rfl) rfl (y_loadAgg rfl rfl (.own inferInstance inferInstance)) ?_
        refine to_p 2 rfl (by kernel_rfl) rfl (y_fieldAddr rfl) ?_
        refine to_y 3 rfl (by kernel_rfl) rfl (y_load rfl rfl (.own inferInstance inferInstance)) ?_
        refine to_p 4 rfl (by kernel_rfl) rfl (y_sliceH rfl rfl (by omega) (by omega)) ?_
        refine to_p 5 rfl (by kernel_rfl) rfl (y_fieldAddr rfl) ?_
        refine to_y 6 rfl (by kernel_rfl) rfl (y_load rfl rfl (.own inferInstance inferInstance)) ?_
        refine to_p 7 rfl (by kernel_rfl) rfl (y_move (v := .int _ _) rfl) ?_
        refine to_p 8 rfl (by kernel_rfl) rfl (y_move (v := .int _ _) rfl) ?_
        refine to_p 9 rfl (by kernel_rfl) rfl (y_addI rfl rfl (by omega)) ?_
        refine to_p 10 rfl (by kernel_rfl) rfl (y_move (v := .slice _ _ _) rfl) ?_
        refine to_e 11 rfl (by kernel_rfl) rfl (e_call' rfl (Up_spec' (hg.mono hM4).sha (hg.mono hM4).kec (hg.mono hM4).set o (hn16.mono hM4) (hA4.mono hM5) q 3 (j : Int) ((j : Int) + 1)) ?_)
        rintro _ M6 _ hM6 ⟨rfl, A6, m6, c6, rfl, hA6⟩
        rw [cUp, if_pos ⟨hRj, by omega, by omega, by rw [hwt, hpw4]; omega⟩, show (((j : Int) + 1) - (j : Int)).toNat = 1 by omega, Int.toNat_natCast, show (3 : Int).toNat = 3 from rfl] at hA6
        have hone := upC_add o (name.take 16) q.toNat 3 0 (x.take 24) j 1
        rw [Nat.zero_add] at hone
        rw [← hone] at hA6
        replace hd := hd.trans hM6
        replace hM4 := hM4.trans hM6
        refine ⟨⟨(by first | exact Le.refl _ | assumption), Keeps.mem⟩, ?_⟩
        refine to_e 12 rfl (by kernel_rfl) rfl (e_call' rfl (same_spec (hA5.mono hM6) hA6) ?_)
        rintro _ _ _ _ ⟨rfl, rfl, rfl⟩
        refine ⟨⟨(by first | exact Le.refl _ | assumption), Keeps.mem⟩, ?_⟩
        refine to_p 13 rfl (by kernel_rfl) rfl (y_not rfl) ?_
        refine to_nil (by kernel_rfl) (.then_normal ?_)
        refine .sub (F' := [(1, _), (3, _), (6, _), (7, _), (9, _), (10, _), (11, _), (12, _), (62, _)]) (.cons rfl (.cons rfl (.cons rfl (.cons rfl (.cons rfl (.cons rfl (.cons rfl (.cons rfl (.cons rfl .nil))))))))) ?_
        refine x_false rfl (by simp) ?_
        refine x_skip (.then_normal ?_)
        refine x_region ?_
        refine tl_y rfl (y_move (v := .slice _ _ _) rfl) ?_
        refine tl_y rfl (y_assign (v := .slice _ _ _) rfl) ?_
        refine tl_nil (.block_normal (.then_normal ?_))
        refine x_region ?_
        refine tl_y rfl (y_move (v := .int _ _) rfl) ?_
        refine tl_y rfl (y_addI rfl rfl (by omega)) ?_
        refine tl_y rfl (y_assign (v := .int _ _) rfl) ?_
        refine tl_nil (.loop_next (m' := k16 - (j + 1)) (by omega) (F' := [(1, _), (3, _), (6, _), (7, _), (9, _), (10, _), (11, _)]) (.cons rfl (.cons rfl (.cons rfl (.cons rfl (.cons rfl (.cons rfl (.cons rfl .nil))))))) ?_)
        exact ⟨j + 1, A5, c5, rfl, by omega, hM4, hA5.mono hM6, rfl, rfl, rfl⟩
      ·
        obtain rfl : j = k16 := by omega
        refine x_exit (.then_exit (.loop_exit (.block_exit (.then_normal ?_))))
        refine .sub (F' := [(1, _), (3, _), (7, _), (9, _), (10, _)]) (.cons rfl (.cons rfl (.cons rfl (.cons rfl (.cons rfl .nil))))) ?_
        refine x_seq ?_
        refine x_draw 13 hmix rfl ?_
        refine to_p 0 rfl (by kernel_rfl) rfl (y_move (v := .slice _ _ _) rfl) ?_
        refine to_y 1 rfl (by kernel_rfl) rfl (y_loadAgg rfl rfl (.own inferInstance inferInstance)) ?_
        refine to_p 2 rfl (by kernel_rfl) rfl (y_fieldAddr rfl) ?_
        refine to_y 3 rfl (by kernel_rfl) rfl (y_load rfl rfl (.own inferInstance inferInstance)) ?_
        refine to_p 4 rfl (by kernel_rfl) rfl (y_sliceH rfl rfl (by omega) (by omega)) ?_
        refine to_p 5 rfl (by kernel_rfl) rfl (y_fieldAddr rfl) ?_
        refine to_y 6 rfl (by kernel_rfl) rfl (y_load rfl rfl (.own inferInstance inferInstance)) ?_
        refine to_p 7 rfl (by kernel_rfl) rfl (y_move (v := .int _ _) rfl) ?_
        refine to_p 8 rfl (by kernel_rfl) rfl (y_move (v := .slice _ _ _) rfl) ?_
        refine to_p 9 rfl (by kernel_rfl) rfl (y_sliceH rfl rfl (by omega) (by omega)) ?_
        refine to_e 10 rfl (by kernel_rfl) rfl (e_call' rfl (Up_spec' (hg.mono hM4).sha (hg.mono hM4).kec (hg.mono hM4).set o (hn16.mono hM4) (hx24.mono hM4) q 3 0 (j : Int)) ?_)
        rintro _ M5 _ hM5 ⟨rfl, A5, m5, c5, rfl, hA5⟩
        rw [cUp, if_pos ⟨hR3, by omega, by omega, by rw [hwt, hpw4]; omega⟩, show ((j : Int) - 0).toNat = j by omega, show (0 : Int).toNat = 0 from rfl, show (3 : Int).toNat = 3 from rfl] at hA5
        refine ⟨⟨(by first | exact Le.refl _ | assumption), Keeps.mem⟩, ?_⟩
        refine to_e 11 rfl (by kernel_rfl) rfl (e_call' rfl (same_spec (hA4.mono hM5) hA5) ?_)
        rintro _ _ _ _ ⟨rfl, rfl, rfl⟩
        refine ⟨⟨(by first | exact Le.refl _ | assumption), Keeps.mem⟩, ?_⟩
        refine to_p 12 rfl (by kernel_rfl) rfl (y_assign (v := .bool _) rfl) ?_
        refine to_nil (by kernel_rfl) (.then_normal ?_)
        refine .sub (F' := [(6, _)]) (.cons rfl .nil) ?_
        refine x_ret (ret1 rfl rfl (hM4.trans hM5) (by simp))
end
end Go.Proofs.YtgpjbjbdfkiklaaDoor
set_option linter.unusedVariables false
set_option linter.unusedSimpArgs false
namespace Go.Eng
open Go.ChangeShapes Go.WideShapes Go.ChangeAt Go.RowKit
/-! ### From a contract to a statement's call -/
def memOf (W : World) : Mem := fun b => W.heap[b]?
theorem st_start (W : World) : St W (memOf W) [] W := ⟨rfl, rfl, rfl, fun b o h => h, fun p hp => (by cases hp), by simp⟩
theorem below_of {W W' : World} {M' : Mem} {L' : Own} (hle : Le (memOf W) M') (h : St W M' L' W') : Below W.heap.size W W' := by
  have hb : ∀ k, k < W.heap.size → W'.heap[k]? = W.heap[k]? := fun k hk => by
    have h1 : W.heap[k]? = some W.heap[k] := Array.getElem?_eq_getElem hk
    rw [h1]
    exact h.ro k _ (hle k _ h1)
  refine ⟨h.os, h.tape, h.output, ?_, hb⟩
  rcases Nat.eq_zero_or_pos W.heap.size with h0 | h0
  · omega
  · have h2 := hb (W.heap.size - 1) (by omega)
    have hlt : W.heap.size - 1 < W.heap.size := by omega
    rw [Array.getElem?_eq_getElem hlt] at h2
    have h3 := (Array.getElem?_eq_some_iff.1 h2).1
    omega
theorem calls_of_con {P : Program} {f : FuncId} {args : Array Value} {W : World} (h : Con P f args W (memOf W) [] (fun v _ _ => v = .bool true) noPanic) : Calls P f args W fun e W' => e = .returned (.bool true) ∧ Below W.heap.size W W' :=
  (h.calls W (st_start W)).mono fun e W' he => by
    cases e with
    | returned v => obtain ⟨M', L', a, b, rfl⟩ := he; exact ⟨rfl, below_of a b⟩
    | panicked c => obtain ⟨M', L', a, b, c⟩ := he; exact c.elim
    | outgrown => exact he.elim
/-! ### What came in -/
section
variable {H : Type} {enc : TypeId × Value → H} {P : Program} {W : World} {t : TypeId} {cs : List Value}
def Rd (enc : TypeId × Value → H) (P : Program) (W : World) (t : TypeId) (cs : List Value) : Prop := ∃ fuel x, DataW.trod enc P W 0 (fun _ => true) true fuel t cs = some x
theorem rd_of {v : Value} {d : DataW H} {ps : List MemPlace} (h : DataW.Trod enc P W 0 (fun _ => true) true t v d ps) : Rd enc P W t v.cells.toList := let ⟨n, h⟩ := h; ⟨n, _, h⟩
theorem TI.cellsOf {d : TypeDesc} {z : Value} {s b : Nat} (h : TI P t d z s b) : P.cellsOf t = s := by
  obtain ⟨i, hi, _, hs, _⟩ := h.parts
  simp [Program.cellsOf, hi, hs]
theorem Rd.int {k : IntKind} {z : Value} {s b : Nat} [ti : TI P t (.int k) z s b] (h : Rd enc P W t cs) : ∃ n, cs = [.int k n] ∧ (Lit.int k n).wf = true := by
  obtain ⟨fuel, x, h⟩ := h
  cases fuel with
  | zero => cases h
  | succ fuel =>
    unfold DataW.trod at h
    simp only [ti.und] at h
    split at h <;> simp_all
theorem Rd.bool {z : Value} {s b : Nat} [ti : TI P t .bool z s b] (h : Rd enc P W t cs) : ∃ n, cs = [.bool n] := by
  obtain ⟨fuel, x, h⟩ := h
  cases fuel with
  | zero => cases h
  | succ fuel =>
    unfold DataW.trod at h
    simp only [ti.und] at h
    split at h <;> simp_all
theorem Rd.string {z : Value} {s b : Nat} [ti : TI P t .string z s b] (h : Rd enc P W t cs) : ∃ n : ByteArray, cs = [.string n] ∧ n.size ≤ maxLen := by
  obtain ⟨fuel, x, h⟩ := h
  cases fuel with
  | zero => cases h
  | succ fuel =>
    unfold DataW.trod at h
    simp only [ti.und] at h
    split at h <;> simp_all
theorem mapM_some {α β : Type} {f : α → Option β} : ∀ {l : List α} {r : List β}, l.mapM f = some r → ∀ a ∈ l, ∃ b, f a = some b
  | [], _, _, a, ha => by cases ha
  | x :: l, r, h, a, ha => by
    rw [List.mapM_cons] at h
    simp only [Option.bind_eq_bind, Option.bind_eq_some_iff] at h
    obtain ⟨b, hb, rs, hrs, _⟩ := h
    rcases List.mem_cons.1 ha with rfl | ha
    · exact ⟨b, hb⟩
    · exact mapM_some hrs a ha
theorem Rd.array {m : Nat} {e : TypeId} {z z' : Value} {s b s' b' : Nat} {d' : TypeDesc} [ti : TI P t (.array m e) z s b] [te : TI P e d' z' s' b'] (h : Rd enc P W t cs) : cs.length = s ∧ ∀ i, i < m → Rd enc P W e ((cs.drop (i * s')).take s') := by
  obtain ⟨fuel, x, h⟩ := h
  cases fuel with
  | zero => cases h
  | succ fuel =>
    unfold DataW.trod at h
    simp only [ti.und, ti.cellsOf, te.cellsOf] at h
    split at h
    · rename_i hl
      obtain ⟨y, hy, _⟩ := Option.map_eq_some_iff.1 h
      refine ⟨hl, fun i hi => ?_⟩
      obtain ⟨b, hb⟩ := mapM_some hy i (List.mem_range.2 hi)
      exact ⟨fuel, b, hb⟩
    · cases h
theorem Rd.struct {fs : Array Field} {z : Value} {s b : Nat} [ti : TI P t (.struct fs) z s b] (h : Rd enc P W t cs) : cs.length = s ∧ ∀ f ∈ fs.toList, Rd enc P W f.type ((cs.drop f.offset).take (P.cellsOf f.type)) := by
  obtain ⟨fuel, x, h⟩ := h
  cases fuel with
  | zero => cases h
  | succ fuel =>
    unfold DataW.trod at h
    simp only [ti.und, ti.cellsOf] at h
    split at h
    · rename_i hl
      obtain ⟨y, hy, _⟩ := Option.map_eq_some_iff.1 h
      refine ⟨hl, fun f hf => ?_⟩
      obtain ⟨b, hb⟩ := mapM_some hy f hf
      exact ⟨fuel, b, hb⟩
    · cases h
theorem Rd.slice {e : TypeId} {z z' : Value} {s b s' b' : Nat} {d' : TypeDesc} [ti : TI P t (.slice e) z s b] [te : TI P e d' z' s' b'] (hs : 0 < s') (h : Rd enc P W t cs) :
    ∃ A len cap vs, cs = [.slice A len cap] ∧ Row (memOf W) s' A len cap vs ∧ ∀ i, i < len → Rd enc P W e ((vs.drop (i * s')).take s') := by
  obtain ⟨fuel, x, h⟩ := h
  rcases Deep.open_slice ti.und h with ⟨rfl, _⟩ | ⟨a, len, cap, m, n, D, Pl, rfl, hb, hl, hm, hmm, _, hx⟩
  · exact ⟨none, 0, 0, [], rfl, Row.nil _ _, fun i hi => by omega⟩
  · rw [te.cellsOf] at hx
    have hcap : cap ≤ 9223372036854775807 := by unfold maxLen at hm; omega
    have hlm : len ≤ m := by rw [hmm]; split <;> omega
    have hx : ∀ i, i < len → ∃ cs', W.cells? 0 (a.add (i * s')) s' = some cs' ∧ DataW.trod enc P W 0 (fun _ => true) true n e cs' = some (D i, Pl i) := fun i hi => hx i (by omega)
    rcases Nat.eq_zero_or_pos len with h0 | h0
    · subst h0
      exact ⟨some a, 0, cap, [], rfl, Row.empty _ _ _ hcap, fun i hi => by omega⟩
    · have hspot : a.spot = none := by
        obtain ⟨cs', h1, _⟩ := hx 0 h0
        obtain ⟨_, hlen, hc⟩ := World.cells?_some h1
        have := hc 0 hs
        have hg : cs'[0]? = some (cs'[0]'(by omega)) := List.getElem?_eq_getElem (by omega)
        rw [hg] at this
        have := World.cell?_spot this
        revert this
        unfold Addr.add
        simp
      obtain ⟨bl, off, sp⟩ := a
      simp only at hspot
      subst hspot
      simp only [add_plain] at hx
      -- the cells
      have hcell : ∀ i, i < len * s' → ∃ v, W.cell? ⟨bl, off + i, none⟩ = some v := fun i hi => by
        obtain ⟨cs', h1, _⟩ := hx (i / s') (Nat.div_lt_of_lt_mul (by rwa [Nat.mul_comm]))
        obtain ⟨_, hlen, hc⟩ := World.cells?_some h1
        have hmod := Nat.mod_lt i hs
        have := hc (i % s') hmod
        rw [add_plain, Nat.add_assoc, Nat.add_comm (i / s' * s'), Nat.mod_add_div' i s', List.getElem?_eq_getElem (by omega)] at this
        exact ⟨_, this⟩
      have hblock : ∃ c T fr, W.heap[bl]? = some (.cells c T fr) := by
        obtain ⟨v, hv⟩ := hcell 0 (Nat.mul_pos h0 hs)
        unfold World.cell? at hv
        split at hv
        · rename_i c T fr hh; exact ⟨c, T, fr, hh⟩
        · cases hv
      obtain ⟨c, T, fr, hh⟩ := hblock
      have hc : ∀ i, i < len * s' → c[off + i]? = some (c.getD (off + i) default) ∧ W.cell? ⟨bl, off + i, none⟩ = some (c.getD (off + i) default) := fun i hi => by
        obtain ⟨v, hv⟩ := hcell i hi
        have hv' := hv
        unfold World.cell? at hv
        simp only [hh, Option.isSome_none, Bool.false_eq_true, if_false] at hv
        have : c.getD (off + i) default = v := by simp [Array.getD_eq_getD_getElem?, hv]
        rw [this]
        exact ⟨hv, hv'⟩
      refine ⟨some ⟨bl, off, none⟩, len, cap, (List.range (len * s')).map fun i => c.getD (off + i) default, rfl, ⟨by simp, hl, hcap, fun _ => ⟨bl, off, c, T, fr, rfl, hh, fun j v hj => ?_⟩⟩, fun i hi => ?_⟩
      · rw [List.getElem?_map] at hj
        obtain ⟨k, hk, rfl⟩ := Option.map_eq_some_iff.1 hj
        have hlt := (List.getElem?_eq_some_iff.1 hk).1
        rw [List.getElem?_range (by simpa using hlt)] at hk
        cases hk
        exact (hc _ (by simpa using hlt)).1
      · obtain ⟨cs', h1, h2⟩ := hx i hi
        have : ((((List.range (len * s')).map fun i => c.getD (off + i) default).drop (i * s')).take s') = cs' := by
          obtain ⟨_, hlen, hcc⟩ := World.cells?_some h1
          have hle : (i + 1) * s' ≤ len * s' := Nat.mul_le_mul_right _ hi
          rw [Nat.add_mul, Nat.one_mul] at hle
          apply List.ext_getElem?
          intro j
          rw [List.getElem?_take]
          split
          · rename_i hj
            rw [List.getElem?_drop, List.getElem?_map, List.getElem?_range (by omega)]
            have h3 := hcc j hj
            rw [add_plain, Nat.add_assoc] at h3
            rw [← h3, (hc (i * s' + j) (by omega)).2]
            rfl
          · rw [List.getElem?_eq_none (by omega)]
        rw [this]
        exact ⟨n, _, h2⟩
/-- A value of a kind that is one cell. -/
theorem one_of {v : Value} {base : Nat} {r : Reach} {d : TypeDesc} {z : Value} {s b : Nat} [ti : TI P t d z s b] (hd : aggD d = false) (h : Value.okWide P W r base t v) {x : Value} (hc : v.cells.toList = [x]) : v = x := by
  cases v with
  | agg c =>
    exfalso
    simp only [Value.okWide, ti.und] at h
    cases d <;> simp_all [aggD, Cell.okWide, Cell.ok]
  | _ => simpa [Value.cells] using hc
theorem agg_of {v : Value} {base : Nat} {r : Reach} {d : TypeDesc} {z : Value} {s b : Nat} [ti : TI P t d z s b] (hd : aggD d = true) (h : Value.okWide P W r base t v) : v = .agg v.cells.toList.toArray := by
  simp only [Value.okWide, ti.und] at h
  cases d <;> simp_all [aggD]
  all_goals (obtain ⟨cs, rfl, _⟩ := h; simp [Value.cells])
theorem u8_of {n : Int} (h : (Lit.int .u8 n).wf = true) : ∃ c : UInt8, n = (c.toNat : Int) := by
  simp [Lit.wf, IntKind.min, IntKind.max, IntKind.signed, IntKind.bits] at h
  exact ⟨UInt8.ofNat n.toNat, by simp [UInt8.toNat_ofNat']; omega⟩
/-- A row of numbers that came in. -/
theorem ints_of {k : IntKind} : ∀ (vs : List Value), (∀ i, i < vs.length → ∃ n, (vs.drop i).take 1 = [.int k n] ∧ (Lit.int k n).wf = true) → ∃ ts : List Int, vs = ts.map (.int k) ∧ ∀ t ∈ ts, (Lit.int k t).wf = true
  | [], _ => ⟨[], rfl, fun t h => by cases h⟩
  | v :: vs, h => by
    obtain ⟨n, h1, h2⟩ := h 0 (by simp)
    obtain ⟨ts, rfl, ht⟩ := ints_of vs (fun i hi => by simpa using h (i + 1) (by simpa using hi))
    refine ⟨n :: ts, by simpa using h1, fun t hm => ?_⟩
    rcases List.mem_cons.1 hm with rfl | hm
    · exact h2
    · exact ht t hm
theorem Rd.ints {k : IntKind} {e : TypeId} {z z' : Value} {s b b' : Nat} [ti : TI P t (.slice e) z s b] [te : TI P e (.int k) z' 1 b'] (h : Rd enc P W t cs) :
    ∃ (A : Option Addr) (len cap : Nat) (ts : List Int), cs = [.slice A len cap] ∧ Row (memOf W) 1 A len cap (ts.map (.int k)) ∧ ∀ n ∈ ts, (Lit.int k n).wf = true := by
  obtain ⟨A, len, cap, vs, rfl, hr, hx⟩ := h.slice (by omega)
  have hl := hr.len
  obtain ⟨ts, rfl, ht⟩ := ints_of (k := k) vs (fun i hi => by
    have := (hx i (by omega)).int
    simpa using this)
  exact ⟨A, len, cap, ts, rfl, hr, ht⟩
theorem u8s_of : ∀ (ts : List Int), (∀ t ∈ ts, (Lit.int .u8 t).wf = true) → ∃ bs : List UInt8, ts.map (Value.int .u8) = bs.map bv
  | [], _ => ⟨[], rfl⟩
  | t :: ts, h => by
    obtain ⟨c, rfl⟩ := u8_of (h t List.mem_cons_self)
    obtain ⟨bs, hb⟩ := u8s_of ts (fun x hx => h x (List.mem_cons_of_mem _ hx))
    exact ⟨c :: bs, by rw [List.map_cons, List.map_cons, hb]; rfl⟩
/-- A row of bytes that came in. -/
theorem Rd.bytes {e : TypeId} {z z' : Value} {s b b' : Nat} [ti : TI P t (.slice e) z s b] [te : TI P e (.int .u8) z' 1 b'] (h : Rd enc P W t cs) :
    ∃ (A : Option Addr) (len cap : Nat) (bs : List UInt8), cs = [.slice A len cap] ∧ Bytes (memOf W) A len cap bs := by
  obtain ⟨A, len, cap, ts, rfl, hr, ht⟩ := h.ints (k := .u8)
  obtain ⟨bs, hb⟩ := u8s_of ts ht
  exact ⟨A, len, cap, bs, rfl, by rw [Bytes, ← hb]; exact hr⟩
end
end Go.Eng
set_option linter.unusedVariables false
set_option linter.unusedSimpArgs false
namespace Go.Eng
open Go.ChangeShapes Go.WideShapes Go.ChangeAt Go.RowKit
/-! ### What is listed of package-level variables -/
section
variable {P : Program} {W : World}
theorem laidVars_mem : ∀ {laid : List (String × DataW Unit)} {ps : List MemPlace}, DataW.LaidVars P W laid ps → ∀ {n d}, (n, d) ∈ laid → ∃ g t cs fuel p, P.globalNamed n = some g ∧ (P.globals[g]?).map (·.type) = some t ∧ W.var? P n = some cs ∧ DataW.trod (fun _ => ()) P W 0 (fun _ => true) false fuel t cs.toList = some (d, p)
  | [], _, _, n, d, hm => by cases hm
  | (n0, d0) :: r, ps, h, n, d, hm => by
    obtain ⟨g, t, cs, fuel, p, q, h1, h2, h3, h4, h5, _⟩ := h
    rcases List.mem_cons.1 hm with he | hm
    · cases he; exact ⟨g, t, cs, fuel, p, h1, h2, h3, h4⟩
    · exact laidVars_mem h5 hm
theorem var_heap {n : String} {g : Nat} {cs : Array Value} (hg : P.globalNamed n = some g) (h : W.var? P n = some cs) : ∃ T fr, memOf W g = some (.cells cs T fr) := by
  simp only [World.var?, hg, Option.bind_some] at h
  unfold memOf
  split at h
  · rename_i c t fr hb
    cases h
    exact ⟨t, fr, hb⟩
  · cases h
theorem map_lits {k : IntKind} : ∀ {ns : List Int} {cs : List Value}, cs.length = ns.length → (∀ i, i < ns.length → ∃ x, (cs.drop i).take 1 = [Value.int k x] ∧ ns[i]? = some x) → cs = ns.map (.int k)
  | [], [], _, _ => rfl
  | [], _ :: _, h, _ => by simp at h
  | _ :: _, [], h, _ => by simp at h
  | n :: ns, c :: cs, h, hx => by
    obtain ⟨x, h1, h2⟩ := hx 0 (by simp)
    simp at h1 h2
    have h3 := map_lits (k := k) (ns := ns) (cs := cs) (by simpa using h) (fun i hi => by simpa using hx (i + 1) (by simpa using hi))
    rw [h1, h2, h3]
    rfl
theorem trod_ints {t e : TypeId} {m : Nat} {k : IntKind} {z z' : Value} {s b b' fuel : Nat} [ti : TI P t (.array m e) z s b] [te : TI P e (.int k) z' 1 b'] {ns : List Int} {cs : List Value} {p : List MemPlace} {sp : Nat → Bool} {held : Bool} {enc : TypeId × Value → Unit}
    (h : DataW.trod enc P W 0 sp held fuel t cs = some (.agg (ns.map fun x => .lit (.int k x)), p)) (hs : s = m) : cs = ns.map (.int k) := by
  obtain ⟨xs, m', rfl, hx, hl, hn, hel⟩ := DataW.trod_array ti.und h
  rw [ti.cellsOf, hs] at hl
  simp only [Prod.mk.injEq, DataW.agg.injEq] at hx
  have hln : ns.length = m := by rw [← hn]; simpa using congrArg List.length hx.1
  refine map_lits (by omega) (fun i hi => ?_)
  have h1 := hel i (by omega)
  rw [te.cellsOf, Nat.mul_one] at h1
  rw [List.getElem?_eq_getElem (show i < xs.length by omega)] at h1
  obtain ⟨x, e1, e2, _⟩ := DataW.trod_int te.und h1
  refine ⟨x, e1, ?_⟩
  have h2 := congrArg (fun l => l[i]?) hx.1
  simp only [List.getElem?_map] at h2
  rw [List.getElem?_eq_getElem (show i < xs.length by omega), List.getElem?_eq_getElem hi] at h2
  simp only [Option.map_some, Option.some.injEq, e2, DataW.lit.injEq, Lit.int.injEq, true_and] at h2
  rw [List.getElem?_eq_getElem hi, h2]
theorem laid_ints {laid : List (String × DataW Unit)} (h : laidMet P laid W) {n : String} {g : Nat} {t e : TypeId} {m : Nat} {k : IntKind} {z z' : Value} {s b b' : Nat} (ns : List Int) (hm : (n, DataW.agg (ns.map fun x => .lit (.int k x))) ∈ laid) (hg : P.globalNamed n = some g)
    (ht : (P.globals[g]?).map (·.type) = some t) (ti : TI P t (.array m e) z s b) (te : TI P e (.int k) z' 1 b') (hs : s = m) : ∃ T fr, memOf W g = some (.cells (ns.map (.int k)).toArray T fr) := by
  obtain ⟨ps, hv, _⟩ := h
  obtain ⟨g', t', cs, fuel, p, h1, h2, h3, h4⟩ := laidVars_mem hv hm
  obtain rfl := Option.some.inj (hg.symm.trans h1)
  obtain rfl := Option.some.inj (ht.symm.trans h2)
  obtain ⟨T, fr, hh⟩ := var_heap hg h3
  have := trod_ints h4 hs
  refine ⟨T, fr, ?_⟩
  rw [hh, ← this]
theorem brows_of {H : Type} {enc : TypeId × Value → H} {t e : TypeId} {z z' : Value} {s b b' : Nat} [ti : TI P t (.slice e) z s b] [te : TI P e (.int .u8) z' 1 b'] : ∀ (vs : List Value), (∀ i, i < vs.length → Rd enc P W t ((vs.drop i).take 1)) → ∃ bss, BRows (memOf W) vs bss
  | [], _ => ⟨[], .nil⟩
  | v :: vs, h => by
    obtain ⟨A, n, c, bs, e1, hb⟩ := (h 0 (by simp)).bytes
    obtain ⟨bss, ht⟩ := brows_of vs (fun i hi => by simpa using h (i + 1) (by simpa using hi))
    have e2 : v = .slice A n c := by simpa using e1
    exact ⟨bs :: bss, by rw [e2]; exact .cons hb ht⟩
/-- A row of rows of bytes that came in. -/
theorem Rd.brows {H : Type} {enc : TypeId × Value → H} {t0 t e : TypeId} {z0 z z' : Value} {s0 b0 b b' : Nat} {cs : List Value} [t0i : TI P t0 (.slice t) z0 s0 b0] [ti : TI P t (.slice e) z 1 b] [te : TI P e (.int .u8) z' 1 b'] (h : Rd enc P W t0 cs) :
    ∃ A len cap vs bss, cs = [.slice A len cap] ∧ Row (memOf W) 1 A len cap vs ∧ BRows (memOf W) vs bss := by
  obtain ⟨A, len, cap, vs, rfl, hr, hx⟩ := h.slice (by omega)
  obtain ⟨bss, hb⟩ := brows_of vs (fun i hi => by
    have := hx i (by have := hr.len; omega)
    simpa using this)
  exact ⟨A, len, cap, vs, bss, rfl, hr, hb⟩
end
end Go.Eng
