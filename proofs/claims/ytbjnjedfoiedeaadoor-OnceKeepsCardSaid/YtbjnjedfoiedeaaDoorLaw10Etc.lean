/-
From a contract to a statement; what came in. What is listed of package-level variables.
-/
import Derived.Test.YtbjnjedfoiedeaaDoorOnce4Etc
import Derived.Test.YtbjnjedfoiedeaaDoorEngIEtc
import Derived.WalkKit
import Derived.ProofKit
import Derived.OpenShut
import Derived.ShutString
import Derived.ChangeOld
import Derived.Below
import Derived.Deep.Slices
import Derived.LaidMore
import Derived.LaidLaws
import Derived.MakeChecks
import Derived.Stop.Joined
import Derived.SevenTiedAt
import Derived.Test.YtbjnjedfoiedeaaDoorTypes1Etc
import Derived.Test.YtbjnjedfoiedeaaDoorShaEtc
import Derived.Test.YtbjnjedfoiedeaaDoorChecked
import Derived.Test.YtbjnjedfoiedeaaDoorRows
set_option linter.unusedVariables false
set_option linter.unusedSimpArgs false
set_option linter.constructorNameAsVariable false
namespace Go.Proofs.YtbjnjedfoiedeaaDoor
open Go Go.Eng
theorem f10 : ∃ o : OtsV, otsV 7 = o ∧ OF o 24 4 51 := by
  obtain ⟨o, eo, ee, on, ok_, ow, op, oe, ov⟩ := f9
  obtain ⟨n, w, p, ho⟩ := okO_facts (o := o) ⟨oe, ov⟩
  have h1 := ho.hn
  have h2 := ho.hw
  have h3 := ho.hp
  obtain rfl : n = 24 := by omega
  obtain rfl : w = 4 := by omega
  obtain rfl : p = 51 := by omega
  exact ⟨o, eo, ho⟩
theorem sta99 (nl tl : Nat) (h16 : nl = 16) (htl : tl ≤ 65536) : staE nl tl [0, 0, 0, 99] = 4 := by
  rw [staE, if_neg (by omega)]
  have h : (ofV [0, 0, 0, 99]).2 = 4 := by decide +kernel
  exact h
section
variable {G : World} {M : Mem} {L : Own}
theorem awake10_spec (hg : ChG M) : Con Tryd.prog 28 #[] G M L (fun v M' L' => L = L' ∧ v = .bool true) noPanic := by
  obtain ⟨o, eo, ho⟩ := f10
  have hz := ho.size.1
  have hy : okY o 16 24 := ⟨ho.ok, rfl, by rw [ho.hn]⟩
  have hl16 : (List.replicate 16 (0 : UInt8)).length = 16 := by simp
  refine enter (args := []) (fn := Tryd.f28) ⟨Tryd.func28, rfl, by kernel_rfl, by kernel_rfl⟩ 74 rfl ?_
  refine x_seq (x_region ?_)
  refine tl_y rfl (y_assign rfl) ?_
  refine tl_nil (.then_normal ?_)
  refine x_seq (x_region ?_)
  refine tl_e rfl (e_call' rfl (ROts_spec 7) ?_)
  rintro _ _ _ _ ⟨rfl, rfl, rfl⟩
  rw [eo]
  refine tl_y rfl (y_move (v := .tuple _) rfl) ?_
  refine tl_y rfl (y_extract rfl) ?_
  refine tl_y rfl (y_extract rfl) ?_
  refine tl_e rfl (e_alloc (fun b1 => ?_))
  refine tl_e rfl (e_store rfl rfl (by rfl) (by rfl) inferInstance inferInstance inferInstance ?_)
  refine tl_y rfl (y_assign (v := .int _ _) rfl) ?_
  refine tl_nil (.then_normal ?_)
  refine .sub (F' := [(1, _)]) (.cons rfl .nil) ?_
  refine x_seq ?_
  refine x_meet (I := fun F D M2 L2 => ∃ (bn bs b : Nat), F = [(1, .pointer (some ⟨b1, 0, none⟩)), (3, .pointer (some ⟨b, 0, none⟩))] ∧ D = [] ∧ Le M M2 ∧ Bytes M2 (some ⟨bn, 0, none⟩) 16 16 (List.replicate 16 0) ∧ Bytes M2 (some ⟨bs, 0, none⟩) 24 24 (List.replicate 24 0) ∧ DropTo L2 ((b, .cells (List.toArray (seedC (some ⟨bn, 0, none⟩) 16 16 (some ⟨bs, 0, none⟩) 24 24)) 58 (0, 0)) :: (b1, .cells (List.toArray o.cells) 62 (0, 0)) :: L)) ?_ (fun Jd2 => ?_)
  ·
    rintro _ _ M2 L2 ⟨bn, bs, b, rfl, rfl, hM2, hn2, hs2, hdr⟩  -- slots [1, 3]
    refine .dropTo _ hdr ?_
    refine x_seq (x_region ?_)
    refine tl_y rfl (y_loadAgg rfl rfl (.own inferInstance inferInstance)) ?_
    refine tl_y rfl (y_loadAgg rfl rfl (.own inferInstance inferInstance)) ?_
    refine tl_e rfl (e_buildSlice rfl (by decide) (fun b7 => ?_))
    refine tl_e rfl (e_convMark rfl inferInstance (fun M3 fr3 hM3 hb3 => ?_))
    have ht3 : Bytes M3 (some ⟨b7, 0, none⟩) 1 1 [97] := Row.whole hb3 rfl (by omega)
    have hd := hM2.trans hM3
    have hd2 := hM3
    refine tl_e rfl (e_call' rfl (oSign_spec (hg.mono hd) o (hn2.mono hd2) (hs2.mono hd2) 3 ht3) ?_)
    rintro _ M4 _ hM4 ⟨rfl, A4, m4, c4, rfl, hA4⟩
    rw [if_pos ⟨hy, by omega⟩] at hA4
    obtain ⟨hp1, hp2, hp3, hp4⟩ := sig_parts ho hl16 (List.replicate 24 0) (3 : UInt32).toNat [97]
    have hm4 := hA4.size
    rw [hp1] at hm4
    replace hd := hd.trans hM4
    replace hd2 := hd2.trans hM4
    refine tl_y rfl (y_assign (v := .slice _ _ _) rfl) ?_
    refine tl_nil (.then_normal ?_)
    refine .sub (F' := [(1, _), (3, _), (4, _)]) (.cons rfl (.cons rfl (.cons rfl .nil))) ?_
    refine x_seq (x_region ?_)
    refine tl_y rfl (y_fieldAddr rfl) ?_
    refine tl_y rfl (y_load rfl rfl (.own inferInstance inferInstance)) ?_
    refine tl_e rfl (e_buildSlice rfl (by decide) (fun b8 => ?_))
    refine tl_e rfl (e_convMark rfl inferInstance (fun M5 fr5 hM5 hb5 => ?_))
    have ht5 : Bytes M5 (some ⟨b8, 0, none⟩) 1 1 [97] := Row.whole hb5 rfl (by omega)
    replace hd := hd.trans hM5
    replace hd2 := hd2.trans hM5
    refine tl_y rfl (y_move (v := .slice _ _ _) rfl) ?_
    refine tl_e rfl (e_call' rfl (oStands_spec (hg.mono hd) (hn2.mono hd2) 3 ht5 (hA4.mono hM5)) ?_)
    rintro _ M6 _ hM6 ⟨rfl, A6, m6, c6, rfl, hA6⟩
    obtain ⟨hst1, hst2⟩ := sta_sig ho hl16 (List.replicate 24 0) (3 : UInt32).toNat [97] (nl := 16) (tl := 1) rfl (by omega)
    rw [hst2] at hA6
    rw [hst1]
    replace hd := hd.trans hM6
    replace hd2 := hd2.trans hM6
    refine tl_y rfl (y_move (v := .tuple _) rfl) ?_
    refine tl_y rfl (y_extract rfl) ?_
    refine tl_y rfl (y_extract rfl) ?_
    refine tl_y rfl (y_assign (v := .slice _ _ _) rfl) ?_
    refine tl_y rfl (y_assign (v := .int _ _) rfl) ?_
    refine tl_nil (.then_normal ?_)
    refine .sub (F' := [(1, _), (3, _), (4, _), (5, _), (6, _)]) (.cons rfl (.cons rfl (.cons rfl (.cons rfl (.cons rfl .nil))))) ?_
    refine x_seq (x_region ?_)
    refine tl_y rfl (y_fieldAddr rfl) ?_
    refine tl_y rfl (y_load rfl rfl (.own inferInstance inferInstance)) ?_
    refine tl_e rfl (e_buildSlice rfl (by decide) (fun b9 => ?_))
    refine tl_e rfl (e_convMark rfl inferInstance (fun M7 fr7 hM7 hb7 => ?_))
    have ht7 : Bytes M7 (some ⟨b9, 0, none⟩) 1 1 [97] := Row.whole hb7 rfl (by omega)
    refine tl_e rfl (e_buildSlice rfl (by decide) (fun b10 => ?_))
    refine .pub b10 inferInstance (fun M8 hM8 hb8 => ?_)
    have ht8 : Bytes M8 (some ⟨b10, 0, none⟩) 4 4 [0, 0, 0, 99] := Row.whole hb8 rfl (by omega)
    replace hd := hd.trans (hM7.trans hM8)
    replace hd2 := hd2.trans (hM7.trans hM8)
    refine tl_e rfl (e_call' rfl (oStands_spec (hg.mono hd) (hn2.mono hd2) 3 (ht7.mono hM8) ht8) ?_)
    rintro _ M9 _ hM9 ⟨rfl, A9, m9, c9, rfl, hA9⟩
    rw [sta99 16 1 rfl (by omega)]
    replace hd := hd.trans hM9
    replace hd2 := hd2.trans hM9
    have hk6 := hM7.trans (hM8.trans hM9)
    refine tl_y rfl (y_move (v := .tuple _) rfl) ?_
    refine tl_y rfl (y_extract rfl) ?_
    refine tl_y rfl (y_extract rfl) ?_
    refine tl_y rfl (y_assign (v := .slice _ _ _) rfl) ?_
    refine tl_y rfl (y_assign (v := .int _ _) rfl) ?_
    refine tl_nil (.then_normal ?_)
    refine .sub (F' := [(1, _), (3, _), (4, _), (5, _), (6, _), (8, _)]) (.cons rfl (.cons rfl (.cons rfl (.cons rfl (.cons rfl (.cons rfl .nil)))))) ?_
    refine x_seq (x_region ?_)
    refine tl_y rfl (y_loadAgg rfl rfl (.own inferInstance inferInstance)) ?_
    refine tl_y rfl (y_loadAgg rfl rfl (.own inferInstance inferInstance)) ?_
    refine tl_e rfl (e_call' rfl (oMay_spec (hg.mono hd).set o) ?_)
    rintro _ M10 _ hM10 ⟨rfl, rfl⟩
    replace hd := hd.trans hM10
    replace hd2 := hd2.trans hM10
    replace hk6 := hk6.trans hM10
    refine tl_y rfl (y_move (v := .bool _) rfl) ?_
    refine tl_set (s := 42) (u := .bool true) rfl (congrArg Value.bool (decide_eq_true hy)) ?_
    refine tl_y rfl (y_loadAgg rfl rfl (.own inferInstance inferInstance)) ?_
    refine tl_e rfl (e_call' rfl (oSize_spec o ho) ?_)
    rintro _ _ _ _ ⟨rfl, rfl, rfl⟩
    refine tl_y rfl (y_eql rfl rfl) ?_
    refine tl_y rfl (y_pickT rfl rfl) ?_
    refine tl_y rfl (y_move (v := .bool _) rfl) ?_
    refine tl_set (s := 47) (u := .bool true) rfl (congrArg Value.bool (decide_eq_true (by rw [hz]; rfl))) ?_
    refine tl_y rfl (y_move (v := .slice _ _ _) rfl) ?_
    refine tl_y rfl (y_len rfl) ?_
    refine tl_y rfl (y_eql rfl rfl) ?_
    refine tl_y rfl (y_pickT rfl rfl) ?_
    refine tl_y rfl (y_move (v := .bool _) rfl) ?_
    refine tl_set (s := 52) (u := .bool true) rfl (congrArg Value.bool (decide_eq_true (by rw [← hm4, hz]; rfl))) ?_
    refine tl_y rfl (y_move (v := .int _ _) rfl) ?_
    refine tl_y rfl (y_eql rfl rfl) ?_
    refine tl_y rfl (y_pickT rfl rfl) ?_
    refine tl_y rfl (y_move (v := .bool _) rfl) ?_
    refine tl_set (s := 56) (u := .bool true) rfl (rfl) ?_
    refine tl_y rfl (y_move (v := .slice _ _ _) rfl) ?_
    refine tl_y rfl (y_loadAgg rfl rfl (.own inferInstance inferInstance)) ?_
    refine tl_y rfl (y_loadAgg rfl rfl (.own inferInstance inferInstance)) ?_
    refine tl_e rfl (e_call' rfl (oKey_spec (hg.mono hd) o (hn2.mono hd2) (hs2.mono hd2) 3) ?_)
    rintro _ M11 _ hM11 ⟨rfl, A11, m11, c11, rfl, hA11⟩
    rw [if_pos hy] at hA11
    replace hd := hd.trans hM11
    replace hd2 := hd2.trans hM11
    replace hk6 := hk6.trans hM11
    refine tl_e rfl (e_call' rfl (same_spec (hA6.mono hk6) hA11) ?_)
    rintro _ _ _ _ ⟨rfl, rfl, rfl⟩
    refine tl_y rfl (y_pickT rfl rfl) ?_
    refine tl_y rfl (y_move (v := .bool _) rfl) ?_
    refine tl_set (s := 63) (u := .bool true) rfl (congrArg Value.bool (decide_eq_true rfl)) ?_
    refine tl_y rfl (y_move (v := .slice _ _ _) rfl) ?_
    refine tl_y rfl (y_loadAgg rfl rfl (.own inferInstance inferInstance)) ?_
    refine tl_y rfl (y_loadAgg rfl rfl (.own inferInstance inferInstance)) ?_
    refine tl_e rfl (e_call' rfl (RoKey_spec o (hn2.mono hd2) (hs2.mono hd2) 3) ?_)
    rintro _ M12 _ hM12 ⟨rfl, A12, m12, c12, rfl, hA12⟩
    rw [if_pos hy] at hA12
    replace hd := hd.trans hM12
    refine tl_e rfl (e_call' rfl (same_spec (hA6.mono (hk6.trans hM12)) hA12) ?_)
    rintro _ _ _ _ ⟨rfl, rfl, rfl⟩
    refine tl_y rfl (y_pickT rfl rfl) ?_
    refine tl_y rfl (y_move (v := .bool _) rfl) ?_
    refine tl_set (s := 70) (u := .bool true) rfl (congrArg Value.bool (decide_eq_true rfl)) ?_
    refine tl_y rfl (y_move (v := .int _ _) rfl) ?_
    refine tl_y rfl (y_eql rfl rfl) ?_
    refine tl_y rfl (y_pickT rfl rfl) ?_
    refine tl_y rfl (y_assign (v := .bool _) rfl) ?_
    refine tl_nil (.then_normal ?_)
    refine .sub (F' := [(0, _)]) (.cons rfl .nil) ?_
    refine x_ret (.dropTo L inferInstance (ret1 rfl rfl hd ⟨rfl, rfl⟩))
  ·
    have he : Le M M := Le.refl _
    refine x_draw 4 hmix rfl ?_
    refine to_three 0 1 3 (by kernel_rfl) ?_ ?_ ?_
    ·
      refine two_e 0 rfl rfl (e_make1 rfl rfl (by omega) (by omega) (by omega) (by omega) (fun bn => ?_))
      refine ⟨⟨he, Keeps.mem⟩, ?_⟩
      refine .pub bn inferInstance (fun M3 hM3 hbn => ?_)
      rw [show Int.toNat 16 = 16 from rfl]
      have hn : Bytes M3 (some ⟨bn, 0, none⟩) 16 16 (List.replicate 16 0) := Bytes.zeros hbn (by omega)
      replace he := he.trans hM3
      refine to_two 1 3 (by kernel_rfl) ?_ ?_
      ·
        refine two_e 1 rfl rfl (e_make1 rfl rfl (by omega) (by omega) (by omega) (by omega) (fun bs => ?_))
        refine ⟨⟨he, Keeps.mem⟩, ?_⟩
        refine .pub bs inferInstance (fun M4 hM4 hbs => ?_)
        rw [show Int.toNat 24 = 24 from rfl]
        have hs : Bytes M4 (some ⟨bs, 0, none⟩) 24 24 (List.replicate 24 0) := Bytes.zeros hbs (by omega)
        replace he := he.trans hM4
        refine to_p 2 rfl (by kernel_rfl) rfl (y_build rfl) ?_
        refine to_e 3 rfl (by kernel_rfl) rfl (e_alloc (fun b2 => ?_))
        refine ⟨⟨(by first | exact Le.refl _ | assumption), Keeps.mem⟩, ?_⟩
        refine to_t 4 rfl (by kernel_rfl) (by kernel_rfl) rfl (e_store rfl rfl (by rfl) (by rfl) inferInstance inferInstance inferInstance ?_)
        refine to_nil (by kernel_rfl) (.then_normal (.sub (F' := [(1, _), (3, _)]) (.cons rfl (.cons rfl .nil)) (Jd2 _ _ _ _ ?_)))
        exact ⟨bn, bs, _, rfl, rfl, he, hn.mono (by first | exact Le.refl _ | exact hM4), hs.mono (by first | exact Le.refl _ | exact hM3), inferInstance⟩
      ·
        refine two_e 3 rfl rfl (e_alloc (fun b3 => ?_))
        refine ⟨⟨(by first | exact Le.refl _ | assumption), Keeps.mem⟩, ?_⟩
        refine to_e 1 rfl (by kernel_rfl) rfl (e_make1 rfl rfl (by omega) (by omega) (by omega) (by omega) (fun bs => ?_))
        refine ⟨⟨he, Keeps.mem⟩, ?_⟩
        refine .pub bs inferInstance (fun M4 hM4 hbs => ?_)
        rw [show Int.toNat 24 = 24 from rfl]
        have hs : Bytes M4 (some ⟨bs, 0, none⟩) 24 24 (List.replicate 24 0) := Bytes.zeros hbs (by omega)
        replace he := he.trans hM4
        refine to_p 2 rfl (by kernel_rfl) rfl (y_build rfl) ?_
        refine to_t 4 rfl (by kernel_rfl) (by kernel_rfl) rfl (e_store rfl rfl (by rfl) (by rfl) inferInstance inferInstance inferInstance ?_)
        refine to_nil (by kernel_rfl) (.then_normal (.sub (F' := [(1, _), (3, _)]) (.cons rfl (.cons rfl .nil)) (Jd2 _ _ _ _ ?_)))
        exact ⟨bn, bs, _, rfl, rfl, he, hn.mono (by first | exact Le.refl _ | exact hM4), hs.mono (by first | exact Le.refl _ | exact hM3), inferInstance⟩
    ·
      refine two_e 1 rfl rfl (e_make1 rfl rfl (by omega) (by omega) (by omega) (by omega) (fun bs => ?_))
      refine ⟨⟨he, Keeps.mem⟩, ?_⟩
      refine .pub bs inferInstance (fun M4 hM4 hbs => ?_)
      rw [show Int.toNat 24 = 24 from rfl]
      have hs : Bytes M4 (some ⟨bs, 0, none⟩) 24 24 (List.replicate 24 0) := Bytes.zeros hbs (by omega)
      replace he := he.trans hM4
      refine to_two 0 3 (by kernel_rfl) ?_ ?_
      ·
        refine two_e 0 rfl rfl (e_make1 rfl rfl (by omega) (by omega) (by omega) (by omega) (fun bn => ?_))
        refine ⟨⟨he, Keeps.mem⟩, ?_⟩
        refine .pub bn inferInstance (fun M3 hM3 hbn => ?_)
        rw [show Int.toNat 16 = 16 from rfl]
        have hn : Bytes M3 (some ⟨bn, 0, none⟩) 16 16 (List.replicate 16 0) := Bytes.zeros hbn (by omega)
        replace he := he.trans hM3
        refine to_p 2 rfl (by kernel_rfl) rfl (y_build rfl) ?_
        refine to_e 3 rfl (by kernel_rfl) rfl (e_alloc (fun b4 => ?_))
        refine ⟨⟨(by first | exact Le.refl _ | assumption), Keeps.mem⟩, ?_⟩
        refine to_t 4 rfl (by kernel_rfl) (by kernel_rfl) rfl (e_store rfl rfl (by rfl) (by rfl) inferInstance inferInstance inferInstance ?_)
        refine to_nil (by kernel_rfl) (.then_normal (.sub (F' := [(1, _), (3, _)]) (.cons rfl (.cons rfl .nil)) (Jd2 _ _ _ _ ?_)))
        exact ⟨bn, bs, _, rfl, rfl, he, hn.mono (by first | exact Le.refl _ | exact hM4), hs.mono (by first | exact Le.refl _ | exact hM3), inferInstance⟩
      ·
        refine two_e 3 rfl rfl (e_alloc (fun b5 => ?_))
        refine ⟨⟨(by first | exact Le.refl _ | assumption), Keeps.mem⟩, ?_⟩
        refine to_e 0 rfl (by kernel_rfl) rfl (e_make1 rfl rfl (by omega) (by omega) (by omega) (by omega) (fun bn => ?_))
        refine ⟨⟨he, Keeps.mem⟩, ?_⟩
        refine .pub bn inferInstance (fun M3 hM3 hbn => ?_)
        rw [show Int.toNat 16 = 16 from rfl]
        have hn : Bytes M3 (some ⟨bn, 0, none⟩) 16 16 (List.replicate 16 0) := Bytes.zeros hbn (by omega)
        replace he := he.trans hM3
        refine to_p 2 rfl (by kernel_rfl) rfl (y_build rfl) ?_
        refine to_t 4 rfl (by kernel_rfl) (by kernel_rfl) rfl (e_store rfl rfl (by rfl) (by rfl) inferInstance inferInstance inferInstance ?_)
        refine to_nil (by kernel_rfl) (.then_normal (.sub (F' := [(1, _), (3, _)]) (.cons rfl (.cons rfl .nil)) (Jd2 _ _ _ _ ?_)))
        exact ⟨bn, bs, _, rfl, rfl, he, hn.mono (by first | exact Le.refl _ | exact hM4), hs.mono (by first | exact Le.refl _ | exact hM3), inferInstance⟩
    ·
      refine two_e 3 rfl rfl (e_alloc (fun b6 => ?_))
      refine ⟨⟨(by first | exact Le.refl _ | assumption), Keeps.mem⟩, ?_⟩
      refine to_two 0 1 (by kernel_rfl) ?_ ?_
      ·
        refine two_e 0 rfl rfl (e_make1 rfl rfl (by omega) (by omega) (by omega) (by omega) (fun bn => ?_))
        refine ⟨⟨he, Keeps.mem⟩, ?_⟩
        refine .pub bn inferInstance (fun M3 hM3 hbn => ?_)
        rw [show Int.toNat 16 = 16 from rfl]
        have hn : Bytes M3 (some ⟨bn, 0, none⟩) 16 16 (List.replicate 16 0) := Bytes.zeros hbn (by omega)
        replace he := he.trans hM3
        refine to_e 1 rfl (by kernel_rfl) rfl (e_make1 rfl rfl (by omega) (by omega) (by omega) (by omega) (fun bs => ?_))
        refine ⟨⟨he, Keeps.mem⟩, ?_⟩
        refine .pub bs inferInstance (fun M4 hM4 hbs => ?_)
        rw [show Int.toNat 24 = 24 from rfl]
        have hs : Bytes M4 (some ⟨bs, 0, none⟩) 24 24 (List.replicate 24 0) := Bytes.zeros hbs (by omega)
        replace he := he.trans hM4
        refine to_p 2 rfl (by kernel_rfl) rfl (y_build rfl) ?_
        refine to_t 4 rfl (by kernel_rfl) (by kernel_rfl) rfl (e_store rfl rfl (by rfl) (by rfl) inferInstance inferInstance inferInstance ?_)
        refine to_nil (by kernel_rfl) (.then_normal (.sub (F' := [(1, _), (3, _)]) (.cons rfl (.cons rfl .nil)) (Jd2 _ _ _ _ ?_)))
        exact ⟨bn, bs, _, rfl, rfl, he, hn.mono (by first | exact Le.refl _ | exact hM4), hs.mono (by first | exact Le.refl _ | exact hM3), inferInstance⟩
      ·
        refine two_e 1 rfl rfl (e_make1 rfl rfl (by omega) (by omega) (by omega) (by omega) (fun bs => ?_))
        refine ⟨⟨he, Keeps.mem⟩, ?_⟩
        refine .pub bs inferInstance (fun M4 hM4 hbs => ?_)
        rw [show Int.toNat 24 = 24 from rfl]
        have hs : Bytes M4 (some ⟨bs, 0, none⟩) 24 24 (List.replicate 24 0) := Bytes.zeros hbs (by omega)
        replace he := he.trans hM4
        refine to_e 0 rfl (by kernel_rfl) rfl (e_make1 rfl rfl (by omega) (by omega) (by omega) (by omega) (fun bn => ?_))
        refine ⟨⟨he, Keeps.mem⟩, ?_⟩
        refine .pub bn inferInstance (fun M3 hM3 hbn => ?_)
        rw [show Int.toNat 16 = 16 from rfl]
        have hn : Bytes M3 (some ⟨bn, 0, none⟩) 16 16 (List.replicate 16 0) := Bytes.zeros hbn (by omega)
        replace he := he.trans hM3
        refine to_p 2 rfl (by kernel_rfl) rfl (y_build rfl) ?_
        refine to_t 4 rfl (by kernel_rfl) (by kernel_rfl) rfl (e_store rfl rfl (by rfl) (by rfl) inferInstance inferInstance inferInstance ?_)
        refine to_nil (by kernel_rfl) (.then_normal (.sub (F' := [(1, _), (3, _)]) (.cons rfl (.cons rfl .nil)) (Jd2 _ _ _ _ ?_)))
        exact ⟨bn, bs, _, rfl, rfl, he, hn.mono (by first | exact Le.refl _ | exact hM4), hs.mono (by first | exact Le.refl _ | exact hM3), inferInstance⟩
end
end Go.Proofs.YtbjnjedfoiedeaaDoor
set_option linter.unusedVariables false
set_option linter.unusedSimpArgs false
set_option linter.constructorNameAsVariable false
namespace Go.Proofs.YtbjnjedfoiedeaaDoor
open Go Go.Eng
section
variable {G : World} {M : Mem} {L : Own}
theorem OnceKeeps_spec (hg : ChG M) (code : UInt8) {NA SA TA : Option Addr} {nl nc sl sc tl tc : Nat} {name sec text : List UInt8} (hname : Bytes M NA nl nc name) (hsec : Bytes M SA sl sc sec) (q : UInt32) (htext : Bytes M TA tl tc text) :
    Con Tryd.prog 8 #[.int .u8 (code.toNat : Int), .agg (List.toArray (seedC NA nl nc SA sl sc)), .agg (List.toArray [.int .u32 (q.toNat : Int), .slice TA tl tc])] G M L (fun v M' L' => v = .bool true) noPanic := by
  have hcl := code.toNat_lt
  obtain ⟨o, eo, ee, oe, ov, _⟩ := otsV_ok code
  obtain ⟨n, w, p, ho⟩ := okO_facts (o := o) ⟨oe, ov⟩
  have hns := hname.size
  have hss := hsec.size
  have hts := htext.size
  refine enter (args := [_, _, _]) (fn := Tryd.f8) ⟨Tryd.func8, rfl, by kernel_rfl, by kernel_rfl⟩ 82 rfl ?_
  refine x_seq (x_region ?_)
  refine tl_e rfl (e_box rfl (fun b1 => ?_))
  refine tl_e rfl (e_box rfl (fun b2 => ?_))
  refine tl_y rfl (y_assign rfl) ?_
  refine tl_nil (.then_normal ?_)
  refine x_seq (x_seq (x_region ?_))
  refine tl_e rfl (e_call' rfl (awake10_spec hg) ?_)
  rintro _ M1 _ hM1 ⟨rfl, rfl⟩
  have hd := hM1
  refine tl_y rfl (y_not rfl) ?_
  refine tl_nil (.then_normal ?_)
  refine .sub (F' := [(0, _), (4, _), (5, _), (15, _)]) (.cons rfl (.cons rfl (.cons rfl (.cons rfl .nil)))) ?_
  refine x_false rfl (rfl) ?_
  refine x_skip (.then_normal ?_)
  refine x_seq (x_region ?_)
  refine tl_y rfl (y_fieldAddr rfl) ?_
  refine tl_y rfl (y_load rfl rfl (.own inferInstance inferInstance)) ?_
  refine tl_y rfl (y_assign (v := .int _ _) rfl) ?_
  refine tl_nil (.then_normal ?_)
  refine x_seq (x_region ?_)
  refine tl_y rfl (y_fieldAddr rfl) ?_
  refine tl_y rfl (y_load rfl rfl (.own inferInstance inferInstance)) ?_
  refine tl_y rfl (y_assign (v := .slice _ _ _) rfl) ?_
  refine tl_nil (.then_normal ?_)
  refine .sub (F' := [(0, _), (4, _), (7, _), (8, _)]) (.cons rfl (.cons rfl (.cons rfl (.cons rfl .nil)))) ?_
  refine x_seq (x_region ?_)
  refine tl_y rfl (y_move (v := .int _ _) rfl) ?_
  refine tl_y rfl (y_convN32 rfl (by omega)) ?_
  refine tl_y rfl (y_remI rfl rfl (by omega)) ?_
  refine tl_y rfl (y_addN32 rfl rfl (by omega)) ?_
  rw [show (1 : Int) + (code.toNat : Int) % 16 = (((UInt32.ofNat (1 + code.toNat % 16)).toNat : Nat) : Int) by rw [UInt32.toNat_ofNat', Nat.mod_eq_of_lt (by omega)]; omega]
  refine tl_e rfl (e_call' rfl (ROts_spec _) ?_)
  rintro _ _ _ _ ⟨rfl, rfl, rfl⟩
  rw [eo, ee]
  refine tl_y rfl (y_move (v := .tuple _) rfl) ?_
  refine tl_y rfl (y_extract rfl) ?_
  refine tl_y rfl (y_extract rfl) ?_
  refine tl_e rfl (e_alloc (fun b3 => ?_))
  refine tl_e rfl (e_store rfl rfl (by rfl) (by rfl) inferInstance inferInstance inferInstance ?_)
  refine tl_y rfl (y_assign (v := .int _ _) rfl) ?_
  refine tl_nil (.then_normal ?_)
  refine .sub (F' := [(4, _), (7, _), (8, _), (9, _), (10, _)]) (.cons rfl (.cons rfl (.cons rfl (.cons rfl (.cons rfl .nil))))) ?_
  refine x_seq (x_seq (x_region ?_))
  refine tl_y rfl (y_move (v := .int _ _) rfl) ?_
  refine tl_y rfl (y_neq rfl rfl) ?_
  refine tl_nil (.then_normal ?_)
  refine x_false rfl (rfl) ?_
  refine x_skip (.then_normal ?_)
  refine x_seq (x_seq (x_region ?_))
  refine tl_y rfl (y_loadAgg rfl rfl (.own inferInstance inferInstance)) ?_
  refine tl_e rfl (e_call' rfl (RoLight_spec o) ?_)
  rintro _ _ _ _ ⟨rfl, rfl, rfl⟩
  refine tl_y rfl (y_notd rfl) ?_
  refine tl_y rfl (y_move (v := .bool _) rfl) ?_
  refine tl_cases (s := 33) rfl (fun hk1 => ?_) (fun hk1 => ?_)
  ·
    refine tl_skip rfl ?_
    refine tl_skip rfl ?_
    refine tl_skip rfl ?_
    refine tl_y rfl (y_pickT rfl rfl) ?_
    refine tl_y rfl (y_move (v := .bool _) rfl) ?_
    refine tl_skip rfl ?_
    refine tl_skip rfl ?_
    refine tl_skip rfl ?_
    refine tl_skip rfl ?_
    refine tl_y rfl (y_pickT rfl rfl) ?_
    refine tl_nil (.then_normal ?_)
    refine .sub (F' := [(4, _), (7, _), (8, _), (9, _), (43, _)]) (.cons rfl (.cons rfl (.cons rfl (.cons rfl (.cons rfl .nil))))) ?_
    refine x_true rfl rfl ?_
    refine x_seq (x_region ?_)
    refine tl_y rfl (y_assign rfl) ?_
    refine tl_nil (.then_normal ?_)
    refine .sub (F' := [(6, _)]) (.cons rfl .nil) ?_
    refine x_ret (.then_ret (ret1 rfl rfl hd rfl))
  ·
    refine tl_y rfl (y_move (v := .slice _ _ _) rfl) ?_
    refine tl_y rfl (y_len rfl) ?_
    refine tl_y rfl (y_gtr rfl rfl) ?_
    refine tl_y rfl (y_pickF rfl rfl) ?_
    refine tl_y rfl (y_move (v := .bool _) rfl) ?_
    refine tl_cases (s := 38) rfl (fun hk2 => ?_) (fun hk2 => ?_)
    ·
      refine tl_skip rfl ?_
      refine tl_skip rfl ?_
      refine tl_skip rfl ?_
      refine tl_skip rfl ?_
      refine tl_y rfl (y_pickT rfl rfl) ?_
      refine tl_nil (.then_normal ?_)
      refine .sub (F' := [(4, _), (7, _), (8, _), (9, _), (43, _)]) (.cons rfl (.cons rfl (.cons rfl (.cons rfl (.cons rfl .nil))))) ?_
      refine x_true rfl rfl ?_
      refine x_seq (x_region ?_)
      refine tl_y rfl (y_assign rfl) ?_
      refine tl_nil (.then_normal ?_)
      refine .sub (F' := [(6, _)]) (.cons rfl .nil) ?_
      refine x_ret (.then_ret (ret1 rfl rfl hd rfl))
    ·
      refine tl_y rfl (y_loadAgg rfl rfl (.own inferInstance inferInstance)) ?_
      refine tl_y rfl (y_loadAgg rfl rfl (.own inferInstance inferInstance)) ?_
      refine tl_e rfl (e_call' rfl (RoMay_spec o) ?_)
      rintro _ _ _ _ ⟨rfl, rfl, rfl⟩
      refine tl_y rfl (y_notd rfl) ?_
      refine tl_y rfl (y_pickF rfl rfl) ?_
      refine tl_nil (.then_normal ?_)
      refine .sub (F' := [(4, _), (7, _), (8, _), (9, _), (43, _)]) (.cons rfl (.cons rfl (.cons rfl (.cons rfl (.cons rfl .nil))))) ?_
      refine x_cond rfl (fun hc3 => ?_) (fun hc3 => ?_)
      ·
        refine x_seq (x_region ?_)
        refine tl_y rfl (y_assign rfl) ?_
        refine tl_nil (.then_normal ?_)
        refine .sub (F' := [(6, _)]) (.cons rfl .nil) ?_
        refine x_ret (.then_ret (ret1 rfl rfl hd rfl))
      ·
        have hy : okY o nl sl := Classical.not_not.1 hc3
        have h16 : name.length = 16 := by have := hy.2.1; omega
        have htl : tl ≤ 2000 := by omega
        obtain ⟨hp1, hp2, hp3, hp4⟩ := sig_parts ho h16 sec q.toNat text
        obtain ⟨hst1, hst2⟩ := sta_sig ho h16 sec q.toNat text (nl := nl) (tl := tl) hy.2.1 (by omega)
        have hkl := keyB_len ho h16 sec q.toNat
        refine x_skip (.then_normal ?_)
        refine x_seq (x_region ?_)
        refine tl_y rfl (y_loadAgg rfl rfl (.own inferInstance inferInstance)) ?_
        refine tl_y rfl (y_loadAgg rfl rfl (.own inferInstance inferInstance)) ?_
        refine tl_y rfl (y_move (v := .int _ _) rfl) ?_
        refine tl_y rfl (y_move (v := .slice _ _ _) rfl) ?_
        refine tl_e rfl (e_call' rfl (oSign_spec (hg.mono hd) o (hname.mono hd) (hsec.mono hd) q (htext.mono hd)) ?_)
        rintro _ M4 _ hM4 ⟨rfl, A4, m4, c4, rfl, hA4⟩
        rw [if_pos ⟨hy, by omega⟩] at hA4
        have hm4 := hA4.size
        rw [hp1] at hm4
        replace hd := hd.trans hM4
        refine tl_y rfl (y_assign (v := .slice _ _ _) rfl) ?_
        refine tl_nil (.then_normal ?_)
        refine .sub (F' := [(4, _), (7, _), (8, _), (9, _), (11, _)]) (.cons rfl (.cons rfl (.cons rfl (.cons rfl (.cons rfl .nil))))) ?_
        refine x_seq (x_region ?_)
        refine tl_y rfl (y_fieldAddr rfl) ?_
        refine tl_y rfl (y_load rfl rfl (.own inferInstance inferInstance)) ?_
        refine tl_y rfl (y_move (v := .int _ _) rfl) ?_
        refine tl_y rfl (y_move (v := .slice _ _ _) rfl) ?_
        refine tl_y rfl (y_move (v := .slice _ _ _) rfl) ?_
        refine tl_e rfl (e_call' rfl (oStands_spec (hg.mono hd) (hname.mono hd) q (htext.mono hd) hA4) ?_)
        rintro _ M6 _ hM6 ⟨rfl, A6, m6, c6, rfl, hA6⟩
        rw [hst2] at hA6
        rw [hst1]
        have hm6 := hA6.size
        rw [hkl] at hm6
        replace hd := hd.trans hM6
        refine tl_y rfl (y_move (v := .tuple _) rfl) ?_
        refine tl_y rfl (y_extract rfl) ?_
        refine tl_y rfl (y_extract rfl) ?_
        refine tl_y rfl (y_assign (v := .slice _ _ _) rfl) ?_
        refine tl_y rfl (y_assign (v := .int _ _) rfl) ?_
        refine tl_nil (.then_normal ?_)
        refine .sub (F' := [(4, _), (7, _), (9, _), (11, _), (12, _), (13, _)]) (.cons rfl (.cons rfl (.cons rfl (.cons rfl (.cons rfl (.cons rfl .nil)))))) ?_
        refine x_seq (x_region ?_)
        refine tl_y rfl (y_move (v := .slice _ _ _) rfl) ?_
        refine tl_y rfl (y_len rfl) ?_
        refine tl_y rfl (y_loadAgg rfl rfl (.own inferInstance inferInstance)) ?_
        refine tl_e rfl (e_call' rfl (oSize_spec o ho) ?_)
        rintro _ _ _ _ ⟨rfl, rfl, rfl⟩
        refine tl_y rfl (y_eql rfl rfl) ?_
        refine tl_y rfl (y_move (v := .bool _) rfl) ?_
        refine tl_set (s := 63) (u := .bool true) rfl (congrArg Value.bool (decide_eq_true (by rw [← hm4]))) ?_
        refine tl_y rfl (y_move (v := .int _ _) rfl) ?_
        refine tl_y rfl (y_eql rfl rfl) ?_
        refine tl_y rfl (y_pickT rfl rfl) ?_
        refine tl_y rfl (y_move (v := .bool _) rfl) ?_
        refine tl_set (s := 67) (u := .bool true) rfl (rfl) ?_
        refine tl_y rfl (y_move (v := .slice _ _ _) rfl) ?_
        refine tl_y rfl (y_len rfl) ?_
        refine tl_y rfl (y_fieldAddr rfl) ?_
        refine tl_y rfl (y_load rfl rfl (.own inferInstance inferInstance)) ?_
        refine tl_y rfl (y_eql rfl rfl) ?_
        refine tl_y rfl (y_pickT rfl rfl) ?_
        refine tl_y rfl (y_move (v := .bool _) rfl) ?_
        refine tl_set (s := 74) (u := .bool true) rfl (congrArg Value.bool (decide_eq_true (by rw [ho.hn, ← hm6]))) ?_
        refine tl_y rfl (y_move (v := .slice _ _ _) rfl) ?_
        refine tl_y rfl (y_loadAgg rfl rfl (.own inferInstance inferInstance)) ?_
        refine tl_y rfl (y_loadAgg rfl rfl (.own inferInstance inferInstance)) ?_
        refine tl_y rfl (y_move (v := .int _ _) rfl) ?_
        refine tl_e rfl (e_call' rfl (oKey_spec (hg.mono hd) o (hname.mono hd) (hsec.mono hd) q) ?_)
        rintro _ M11 _ hM11 ⟨rfl, A11, m11, c11, rfl, hA11⟩
        rw [if_pos hy] at hA11
        replace hd := hd.trans hM11
        refine tl_e rfl (e_call' rfl (same_spec (hA6.mono hM11) hA11) ?_)
        rintro _ _ _ _ ⟨rfl, rfl, rfl⟩
        refine tl_y rfl (y_pickT rfl rfl) ?_
        refine tl_y rfl (y_assign (v := .bool _) rfl) ?_
        refine tl_nil (.then_normal ?_)
        refine .sub (F' := [(6, _)]) (.cons rfl .nil) ?_
        refine x_ret (ret1 rfl rfl hd (congrArg Value.bool (decide_eq_true rfl)))
theorem OnceRows_spec (hg : ChG M) {NA SA TA : Option Addr} {nl nc sl sc tl tc : Nat} {name sec text : List UInt8} (hname : Bytes M NA nl nc name) (hsec : Bytes M SA sl sc sec) (q : UInt32) (htext : Bytes M TA tl tc text) :
    Con Tryd.prog 10 #[.agg (List.toArray (seedC NA nl nc SA sl sc)), .int .u32 (q.toNat : Int), .slice TA tl tc] G M L (fun v M' L' => v = .bool true) noPanic := by
  obtain ⟨o, eo, ho⟩ := f10
  have hns := hname.size
  have hss := hsec.size
  have hts := htext.size
  have hn24 := ho.hn
  refine enter (args := [_, _, _]) (fn := Tryd.f10) ⟨Tryd.func10, rfl, by kernel_rfl, by kernel_rfl⟩ 96 rfl ?_
  refine x_seq (x_region ?_)
  refine tl_e rfl (e_box rfl (fun b1 => ?_))
  refine tl_y rfl (y_assign rfl) ?_
  refine tl_nil (.then_normal ?_)
  refine x_seq (x_seq (x_region ?_))
  refine tl_e rfl (e_call' rfl (awake10_spec hg) ?_)
  rintro _ M1 _ hM1 ⟨rfl, rfl⟩
  have hd := hM1
  refine tl_y rfl (y_not rfl) ?_
  refine tl_nil (.then_normal ?_)
  refine x_false rfl (rfl) ?_
  refine x_skip (.then_normal ?_)
  refine x_seq (x_region ?_)
  refine tl_e rfl (e_call' rfl (ROts_spec 7) ?_)
  rintro _ _ _ _ ⟨rfl, rfl, rfl⟩
  rw [eo]
  refine tl_y rfl (y_move (v := .tuple _) rfl) ?_
  refine tl_y rfl (y_extract rfl) ?_
  refine tl_y rfl (y_extract rfl) ?_
  refine tl_e rfl (e_alloc (fun b2 => ?_))
  refine tl_e rfl (e_store rfl rfl (by rfl) (by rfl) inferInstance inferInstance inferInstance ?_)
  refine tl_y rfl (y_assign (v := .int _ _) rfl) ?_
  refine tl_nil (.then_normal ?_)
  refine .sub (F' := [(1, _), (2, _), (3, _), (6, _), (7, _)]) (.cons rfl (.cons rfl (.cons rfl (.cons rfl (.cons rfl .nil))))) ?_
  refine x_seq (x_seq (x_region ?_))
  refine tl_y rfl (y_loadAgg rfl rfl (.own inferInstance inferInstance)) ?_
  refine tl_y rfl (y_loadAgg rfl rfl (.own inferInstance inferInstance)) ?_
  refine tl_e rfl (e_call' rfl (oMay_spec (hg.mono hd).set o) ?_)
  rintro _ M2 _ hM2 ⟨rfl, rfl⟩
  replace hd := hd.trans hM2
  refine tl_y rfl (y_notd rfl) ?_
  refine tl_y rfl (y_move (v := .bool _) rfl) ?_
  refine tl_cases (s := 23) rfl (fun hk1 => ?_) (fun hk1 => ?_)
  ·
    refine tl_skip rfl ?_
    refine tl_skip rfl ?_
    refine tl_skip rfl ?_
    refine tl_y rfl (y_pickT rfl rfl) ?_
    refine tl_nil (.then_normal ?_)
    refine .sub (F' := [(1, _), (2, _), (3, _), (6, _), (7, _), (27, _)]) (.cons rfl (.cons rfl (.cons rfl (.cons rfl (.cons rfl (.cons rfl .nil)))))) ?_
    refine x_true rfl rfl ?_
    refine x_seq (x_region ?_)
    refine tl_y rfl (y_assign rfl) ?_
    refine tl_nil (.then_normal ?_)
    refine .sub (F' := [(6, _)]) (.cons rfl .nil) ?_
    refine x_ret (.then_ret (ret1 rfl rfl hd rfl))
  ·
    refine tl_y rfl (y_move (v := .slice _ _ _) rfl) ?_
    refine tl_y rfl (y_len rfl) ?_
    refine tl_y rfl (y_gtr rfl rfl) ?_
    refine tl_y rfl (y_pickF rfl rfl) ?_
    refine tl_nil (.then_normal ?_)
    refine .sub (F' := [(1, _), (2, _), (3, _), (6, _), (7, _), (27, _)]) (.cons rfl (.cons rfl (.cons rfl (.cons rfl (.cons rfl (.cons rfl .nil)))))) ?_
    refine x_cond rfl (fun hc2 => ?_) (fun hc2 => ?_)
    ·
      refine x_seq (x_region ?_)
      refine tl_y rfl (y_assign rfl) ?_
      refine tl_nil (.then_normal ?_)
      refine .sub (F' := [(6, _)]) (.cons rfl .nil) ?_
      refine x_ret (.then_ret (ret1 rfl rfl hd rfl))
    ·
      have hy : okY o nl sl := Classical.not_not.1 hk1
      have h16 : name.length = 16 := by have := hy.2.1; omega
      obtain ⟨hp1, hp2, hp3, hp4⟩ := sig_parts ho h16 sec q.toNat text
      obtain ⟨hz1, hz2, hz3⟩ := ho.size
      obtain ⟨hdl, hdd⟩ := digO_get ho name q.toNat (saltB o name sec q.toNat) text
      refine x_skip (.then_normal ?_)
      refine x_seq (x_region ?_)
      refine tl_y rfl (y_loadAgg rfl rfl (.own inferInstance inferInstance)) ?_
      refine tl_y rfl (y_loadAgg rfl rfl (.own inferInstance inferInstance)) ?_
      refine tl_y rfl (y_move (v := .int _ _) rfl) ?_
      refine tl_y rfl (y_move (v := .slice _ _ _) rfl) ?_
      refine tl_e rfl (e_call' rfl (oSign_spec (hg.mono hd) o (hname.mono hd) (hsec.mono hd) q (htext.mono hd)) ?_)
      rintro _ M4 _ hM4 ⟨rfl, A4, m4, c4, rfl, hA4⟩
      rw [if_pos ⟨hy, by omega⟩] at hA4
      have hm4 := hA4.size
      have hc4 := hA4.le
      rw [hp1] at hm4
      replace hd := hd.trans hM4
      refine tl_y rfl (y_assign (v := .slice _ _ _) rfl) ?_
      refine tl_nil (.then_normal ?_)
      refine .sub (F' := [(1, _), (2, _), (3, _), (6, _), (7, _), (9, _)]) (.cons rfl (.cons rfl (.cons rfl (.cons rfl (.cons rfl (.cons rfl .nil)))))) ?_
      refine x_seq (x_seq (x_region ?_))
      refine tl_y rfl (y_move (v := .slice _ _ _) rfl) ?_
      refine tl_y rfl (y_len rfl) ?_
      refine tl_y rfl (y_loadAgg rfl rfl (.own inferInstance inferInstance)) ?_
      refine tl_e rfl (e_call' rfl (oSize_spec o ho) ?_)
      rintro _ _ _ _ ⟨rfl, rfl, rfl⟩
      refine tl_y rfl (y_neq rfl rfl) ?_
      refine tl_nil (.then_normal ?_)
      refine .sub (F' := [(1, _), (2, _), (3, _), (6, _), (7, _), (9, _), (37, _)]) (.cons rfl (.cons rfl (.cons rfl (.cons rfl (.cons rfl (.cons rfl (.cons rfl .nil))))))) ?_
      refine x_false rfl (decide_eq_false (by rw [← hm4]; exact fun h => h rfl)) ?_
      refine x_skip (.then_normal ?_)
      refine x_seq ?_
      have hsalt := Bytes.sub hA4 4 28 (by omega) (by omega)
      rw [show 28 - 4 = 24 from rfl, hp3] at hsalt
      have hsll : (saltB o name sec q.toNat).length = 24 := hsalt.size
      have he : Le M4 M4 := Le.refl _
      refine x_draw 14 hmix rfl ?_
      refine to_p 0 rfl (by kernel_rfl) rfl (y_fieldAddr rfl) ?_
      refine to_y 1 rfl (by kernel_rfl) rfl (y_load rfl rfl (.own inferInstance inferInstance)) ?_
      refine to_p 2 rfl (by kernel_rfl) rfl (y_fieldAddr rfl) ?_
      refine to_y 3 rfl (by kernel_rfl) rfl (y_load rfl rfl (.own inferInstance inferInstance)) ?_
      refine to_p 4 rfl (by kernel_rfl) rfl (y_fieldAddr rfl) ?_
      refine to_y 5 rfl (by kernel_rfl) rfl (y_load rfl rfl (.own inferInstance inferInstance)) ?_
      refine to_p 6 rfl (by kernel_rfl) rfl (y_move (v := .int _ _) rfl) ?_
      refine to_p 7 rfl (by kernel_rfl) rfl (y_move (v := .slice _ _ _) rfl) ?_
      refine to_p 8 rfl (by kernel_rfl) rfl (y_sliceLH rfl rfl rfl (by omega) (by omega)) ?_
      refine to_p 9 rfl (by kernel_rfl) rfl (y_move (v := .slice _ _ _) rfl) ?_
      refine to_e 10 rfl (by kernel_rfl) rfl (e_buildSlice rfl (by decide) (fun b7 => ?_))
      refine ⟨⟨he, Keeps.mem⟩, ?_⟩
      refine .pub b7 inferInstance (fun M5 hM5 hb7 => ?_)
      replace he := he.trans hM5
      replace hd := hd.trans hM5
      refine to_e 11 rfl (by kernel_rfl) rfl (e_call' rfl (Part_spec (hg.mono hd).sha (hg.mono hd).kec o.kind o.n (hname.mono hd) q 33153 (by omega) (Row.whole hb7 rfl (by omega)) (.cons (hsalt.mono he) (.cons (htext.mono hd) .nil)) (by simp only [List.flatten_cons, List.flatten_nil, List.length_append, List.length_nil]; omega)) ?_)
      rintro _ M6 _ hM6 ⟨rfl, A6, m6, c6, rfl, hA6⟩
      rw [show [saltB o name sec q.toNat, text].flatten = saltB o name sec q.toNat ++ text by simp] at hA6
      replace he := he.trans hM6
      replace hd := hd.trans hM6
      have hm6 := hA6.size
      rw [cPartO_len ho h16] at hm6
      subst hm6
      refine ⟨⟨(by first | exact Le.refl _ | assumption), Keeps.mem⟩, ?_⟩
      refine to_e 12 rfl (by kernel_rfl) rfl (e_call' rfl (All7_spec (w := 4) ho.isn ho.isw hA6) ?_)
      rintro _ M7 _ hM7 ⟨rfl, A7, c7, rfl, hr7⟩
      replace he := he.trans hM7
      replace hd := hd.trans hM7
      have hr7' : Row M7 1 A7 51 c7 (intsL (digO o name q.toNat (saltB o name sec q.toNat) text)) := by
        rw [digO, ho.hn, ho.hw, Int.toNat_natCast, Int.toNat_natCast]
        rw [ho.hn] at hr7
        exact hr7
      rw [show shU 24 4 + shV 24 4 = 51 from ho.up.symm]
      obtain ⟨gd, od, rfl, hcd⟩ := hr7'.addr (by omega)
      refine ⟨⟨(by first | exact Le.refl _ | assumption), Keeps.mem⟩, ?_⟩
      refine to_p 13 rfl (by kernel_rfl) rfl (y_assign (v := .slice _ _ _) rfl) ?_
      refine to_nil (by kernel_rfl) (.then_normal ?_)
      refine .sub (F' := [(1, _), (3, _), (6, _), (7, _), (9, _), (10, _)]) (.cons rfl (.cons rfl (.cons rfl (.cons rfl (.cons rfl (.cons rfl .nil)))))) ?_
      refine x_seq (x_seq (x_region ?_))
      refine tl_y rfl (y_assign rfl) ?_
      refine tl_nil (.then_normal ?_)
      refine x_block ?_
      refine x_loop (I := fun m' F D M8 L8 => ∃ i : Nat, m' = 51 - i ∧ i ≤ 51 ∧ Le M7 M8 ∧ D = [] ∧ DropTo L8 ((b2, .cells (List.toArray o.cells) 62 (0, 0)) :: (b1, .cells (List.toArray (seedC NA nl nc SA sl sc)) 58 (0, 0)) :: L) ∧ F = [(1, .int .u32 (q.toNat : Int)), (3, .pointer (some ⟨b1, 0, none⟩)), (6, .bool false), (7, .pointer (some ⟨b2, 0, none⟩)), (9, .slice A4 m4 c4), (10, .slice (some ⟨gd, od, none⟩) 51 c7), (11, .int .i64 (i : Int))]) (51) (F0 := [(1, _), (3, _), (6, _), (7, _), (9, _), (10, _), (11, _)]) ?_ (.cons rfl (.cons rfl (.cons rfl (.cons rfl (.cons rfl (.cons rfl (.cons rfl .nil))))))) ?_  -- slots [1, 3, 6, 7, 9, 10, 11], written [6, 11]
      · exact ⟨0, rfl, by omega, Le.refl _, rfl, inferInstance, rfl⟩
      rintro m _ _ M8 L8 ⟨i, rfl, hi, he8, rfl, hdr, rfl⟩
      refine .dropTo _ hdr ?_
      have hd8 := hd.trans he8
      have h48 := he.trans he8
      refine x_seq (x_seq (x_region ?_))
      refine tl_y rfl (y_move (v := .int _ _) rfl) ?_
      refine tl_y rfl (y_fieldAddr rfl) ?_
      refine tl_y rfl (y_load (v := .int .i64 ((51 : Nat) : Int)) rfl rfl (by rw [← ho.hp]; exact .own inferInstance inferInstance)) ?_
      refine tl_y rfl (y_lss rfl rfl) ?_
      refine tl_nil (.then_normal ?_)
      refine x_cond rfl (fun hc4 => ?_) (fun hc4 => ?_)
      ·
        have hil : i < 51 := by omega
        obtain ⟨gd', od', hgd, hcd8⟩ := (hr7'.mono he8).addr (by omega)
        obtain ⟨rfl, rfl⟩ : gd = gd' ∧ od = od' := by simpa using hgd
        refine x_skip (.then_normal ?_)
        refine .sub (F' := [(1, _), (3, _), (6, _), (7, _), (9, _), (10, _), (11, _)]) (.cons rfl (.cons rfl (.cons rfl (.cons rfl (.cons rfl (.cons rfl (.cons rfl .nil))))))) ?_
        refine x_seq ?_
        refine x_block ?_
        refine x_seq ?_
        have he9 : Le M8 M8 := Le.refl _
        refine x_draw 17 hmix rfl ?_
        refine to_y 0 rfl (by kernel_rfl) rfl (y_loadAgg rfl rfl (.own inferInstance inferInstance)) ?_
        refine to_p 1 rfl (by kernel_rfl) rfl (y_fieldAddr rfl) ?_
        refine to_y 2 rfl (by kernel_rfl) rfl (y_load rfl rfl (.own inferInstance inferInstance)) ?_
        refine to_p 3 rfl (by kernel_rfl) rfl (y_move (v := .int _ _) rfl) ?_
        refine to_p 4 rfl (by kernel_rfl) rfl (y_move (v := .int _ _) rfl) ?_
        refine to_p 5 rfl (by kernel_rfl) rfl (y_move (v := .slice _ _ _) rfl) ?_
        refine to_p 6 rfl (by kernel_rfl) rfl (y_move (v := .int _ _) rfl) ?_
        refine to_p 7 rfl (by kernel_rfl) rfl (y_indexAddrK i rfl rfl (by omega)) ?_
        refine to_y 8 rfl (by kernel_rfl) rfl (y_load rfl rfl (.at_ (hcd8 _ i _ (intsL_at (by omega))) (by omega))) ?_
        refine to_y 9 rfl (by kernel_rfl) rfl (y_loadAgg rfl rfl (.own inferInstance inferInstance)) ?_
        refine to_y 10 rfl (by kernel_rfl) rfl (y_loadAgg rfl rfl (.own inferInstance inferInstance)) ?_
        refine to_p 11 rfl (by kernel_rfl) rfl (y_move (v := .int _ _) rfl) ?_
        refine to_p 12 rfl (by kernel_rfl) rfl (y_move (v := .int _ _) rfl) ?_
        refine to_p 13 rfl (by kernel_rfl) rfl (y_convE (b := (i : Int)) rfl (by rw [wrapU16]; omega)) ?_
        refine to_e 14 rfl (by kernel_rfl) rfl (e_call' rfl (oSecret_spec (hg.mono hd8) o (hname.mono hd8) (hsec.mono hd8) q i (by omega)) ?_)
        rintro _ M9 _ hM9 ⟨rfl, A9, m9, c9, rfl, hA9⟩
        rw [if_pos hy] at hA9
        replace he9 := he9.trans hM9
        have hd9 := hd8.trans hM9
        refine ⟨⟨(by first | exact Le.refl _ | assumption), Keeps.mem⟩, ?_⟩
        refine to_e 15 rfl (by kernel_rfl) rfl (e_call' rfl (Up_spec' (hg.mono hd9).sha (hg.mono hd9).kec (hg.mono hd9).set o (hname.mono hd9) hA9 q i 0 (((digO o name q.toNat (saltB o name sec q.toNat) text).getD i 0 : Nat) : Int)) ?_)
        rintro _ M10 _ hM10 ⟨rfl, A10, m10, c10, rfl, hA10⟩
        replace he9 := he9.trans hM10
        have hd10 := hd9.trans hM10
        have hsub := Bytes.sub (hA4.mono (h48.trans he9)) (28 + 24 * i) (52 + 24 * i) (by omega) (by omega)
        have hrow : (((sigB o name sec q.toNat text).drop (28 + 24 * i)).take (52 + 24 * i - (28 + 24 * i))) = sigR o name sec q.toNat (digO o name q.toNat (saltB o name sec q.toNat) text) i := by
          rw [show 28 + 24 * i = (4 + 24) + i * 24 by omega, ← List.drop_drop, hp4, show 52 + 24 * i - (4 + 24 + i * 24) = 24 by omega]
          exact catR_row (fun j hj => sigR_len ho h16 sec q.toNat hdd hdl hj) hil
        rw [hrow] at hsub
        refine ⟨⟨(by first | exact Le.refl _ | assumption), Keeps.mem⟩, ?_⟩
        refine to_p 16 rfl (by kernel_rfl) rfl (y_assign (v := .slice _ _ _) rfl) ?_
        refine to_nil (by kernel_rfl) (.then_normal ?_)
        refine .sub (F' := [(1, _), (3, _), (6, _), (7, _), (9, _), (10, _), (11, _), (12, _)]) (.cons rfl (.cons rfl (.cons rfl (.cons rfl (.cons rfl (.cons rfl (.cons rfl (.cons rfl .nil)))))))) ?_
        refine x_seq (x_region ?_)
        refine tl_y rfl (y_move (v := .slice _ _ _) rfl) ?_
        refine tl_y rfl (y_move (v := .slice _ _ _) rfl) ?_
        refine tl_y rfl (y_move (v := .int _ _) rfl) ?_
        refine tl_y rfl (y_mulI rfl rfl (by omega)) ?_
        refine tl_y rfl (y_addI rfl rfl (by omega)) ?_
        refine tl_y rfl (y_move (v := .int _ _) rfl) ?_
        refine tl_y rfl (y_mulI rfl rfl (by omega)) ?_
        refine tl_y rfl (y_addI rfl rfl (by omega)) ?_
        refine tl_y rfl (y_sliceLH rfl rfl rfl (by omega) (by omega)) ?_
        rw [show ((28 : Int) + 24 * (i : Int)).toNat = 28 + 24 * i by omega, show ((52 : Int) + 24 * (i : Int)).toNat = 52 + 24 * i by omega]
        refine tl_e rfl (e_call' rfl (same_spec hA10 hsub) ?_)
        rintro _ _ _ _ ⟨rfl, rfl, rfl⟩
        refine tl_y rfl (y_not rfl) ?_
        refine tl_nil (.then_normal ?_)
        refine .sub (F' := [(1, _), (3, _), (6, _), (7, _), (9, _), (10, _), (11, _), (83, _)]) (.cons rfl (.cons rfl (.cons rfl (.cons rfl (.cons rfl (.cons rfl (.cons rfl (.cons rfl .nil)))))))) ?_
        refine x_false rfl (by rw [decide_eq_true]; rfl; rfl) ?_
        refine x_skip (.block_normal (.then_normal ?_))
        refine x_region ?_
        refine tl_y rfl (y_move (v := .int _ _) rfl) ?_
        refine tl_y rfl (y_addI rfl rfl (by omega)) ?_
        refine tl_y rfl (y_assign (v := .int _ _) rfl) ?_
        refine tl_nil (.loop_next (m' := 51 - (i + 1)) (by omega) (F' := [(1, _), (3, _), (6, _), (7, _), (9, _), (10, _), (11, _)]) (.cons rfl (.cons rfl (.cons rfl (.cons rfl (.cons rfl (.cons rfl (.cons rfl .nil))))))) ?_)
        exact ⟨i + 1, rfl, by omega, he8.trans he9, rfl, inferInstance, rfl⟩
      ·
        obtain rfl : i = 51 := by omega
        have hsalt8 := hsalt.mono h48
        refine x_exit (.then_exit (.loop_exit (.block_exit (.then_normal ?_))))
        refine .sub (F' := [(1, _), (3, _), (7, _), (9, _), (10, _)]) (.cons rfl (.cons rfl (.cons rfl (.cons rfl (.cons rfl .nil))))) ?_
        refine x_seq ?_
        refine x_draw0 13 ([(b2, .cells (List.toArray o.cells) 62 (0, 0)), (b1, .cells (List.toArray (seedC NA nl nc SA sl sc)) 58 (0, 0))]) Keeps.mem hmix rfl ?_
        refine to_p 0 rfl (by kernel_rfl) rfl (y_move (v := .slice _ _ _) rfl) ?_
        refine to_p 1 rfl (by kernel_rfl) rfl (y_len rfl) ?_
        refine to_p 2 rfl (by kernel_rfl) rfl (y_eql rfl rfl) ?_
        refine to_p 3 rfl (by kernel_rfl) rfl (y_move (v := .bool _) rfl) ?_
        refine to_set (s := 87) (u := .bool true) rfl (rfl) ?_
        refine to_p 4 rfl (by kernel_rfl) rfl (y_move (v := .slice _ _ _) rfl) ?_
        refine to_p 5 rfl (by kernel_rfl) rfl (y_sliceLH rfl rfl rfl (by omega) (by omega)) ?_
        refine to_y 6 rfl (by kernel_rfl) rfl (y_loadAgg rfl rfl (.own inferInstance inferInstance)) ?_
        refine to_y 7 rfl (by kernel_rfl) rfl (y_loadAgg rfl rfl (.own inferInstance inferInstance)) ?_
        refine to_p 8 rfl (by kernel_rfl) rfl (y_move (v := .int _ _) rfl) ?_
        refine to_e 9 rfl (by kernel_rfl) rfl (e_call' rfl (oSecret_spec (hg.mono hd8) o (hname.mono hd8) (hsec.mono hd8) q 65533 (by omega)) ?_)
        rintro _ M9 _ hM9 ⟨rfl, A9, m9, c9, rfl, hA9⟩
        rw [if_pos hy] at hA9
        have hd9 := hd8.trans hM9
        refine ⟨⟨(by first | exact Le.refl _ | assumption), Keeps.mem⟩, ?_⟩
        refine to_e 10 rfl (by kernel_rfl) rfl (e_call' rfl (same_spec (hsalt8.mono hM9) hA9) ?_)
        rintro _ _ _ _ ⟨rfl, rfl, rfl⟩
        refine ⟨⟨(by first | exact Le.refl _ | assumption), Keeps.mem⟩, ?_⟩
        refine to_p 11 rfl (by kernel_rfl) rfl (y_pickT rfl rfl) ?_
        refine to_p 12 rfl (by kernel_rfl) rfl (y_assign (v := .bool _) rfl) ?_
        refine to_nil (by kernel_rfl) (.then_normal ?_)
        refine .sub (F' := [(6, _)]) (.cons rfl .nil) ?_
        refine x_ret (ret1 rfl rfl hd9 (congrArg Value.bool (decide_eq_true rfl)))
end
end Go.Proofs.YtbjnjedfoiedeaaDoor
set_option linter.unusedVariables false
set_option linter.unusedSimpArgs false
namespace Go.Eng
open Go.ChangeShapes Go.WideShapes Go.ChangeAt Go.RowKit
/-! ### From a contract to a statement's call -/
def memOf (W : World) : Mem := fun b => W.heap[b]?
theorem st_start (W : World) : St W (memOf W) [] W := ⟨rfl, rfl, rfl, fun b o h => h, fun p hp => (by cases hp), by simp⟩
theorem below_of {W W' : World} {M' : Mem} {L' : Own} (hle : Le (memOf W) M') (h : St W M' L' W') : Below W.heap.size W W' := by
  have hb : ∀ k, k < W.heap.size → W'.heap[k]? = W.heap[k]? := fun k hk => by
    have h1 : W.heap[k]? = some W.heap[k] := Array.getElem?_eq_getElem hk
    rw [h1]
    exact h.ro k _ (hle k _ h1)
  refine ⟨h.os, h.tape, h.output, ?_, hb⟩
  rcases Nat.eq_zero_or_pos W.heap.size with h0 | h0
  · omega
  · have h2 := hb (W.heap.size - 1) (by omega)
    have hlt : W.heap.size - 1 < W.heap.size := by omega
    rw [Array.getElem?_eq_getElem hlt] at h2
    have h3 := (Array.getElem?_eq_some_iff.1 h2).1
    omega
theorem calls_of_con {P : Program} {f : FuncId} {args : Array Value} {W : World} (h : Con P f args W (memOf W) [] (fun v _ _ => v = .bool true) noPanic) : Calls P f args W fun e W' => e = .returned (.bool true) ∧ Below W.heap.size W W' :=
  (h.calls W (st_start W)).mono fun e W' he => by
    cases e with
    | returned v => obtain ⟨M', L', a, b, rfl⟩ := he; exact ⟨rfl, below_of a b⟩
    | panicked c => obtain ⟨M', L', a, b, c⟩ := he; exact c.elim
    | outgrown => exact he.elim
/-! ### What came in -/
section
variable {H : Type} {enc : TypeId × Value → H} {P : Program} {W : World} {t : TypeId} {cs : List Value}
def Rd (enc : TypeId × Value → H) (P : Program) (W : World) (t : TypeId) (cs : List Value) : Prop := ∃ fuel x, DataW.trod enc P W 0 (fun _ => true) true fuel t cs = some x
theorem rd_of {v : Value} {d : DataW H} {ps : List MemPlace} (h : DataW.Trod enc P W 0 (fun _ => true) true t v d ps) : Rd enc P W t v.cells.toList := let ⟨n, h⟩ := h; ⟨n, _, h⟩
theorem TI.cellsOf {d : TypeDesc} {z : Value} {s b : Nat} (h : TI P t d z s b) : P.cellsOf t = s := by
  obtain ⟨i, hi, _, hs, _⟩ := h.parts
  simp [Program.cellsOf, hi, hs]
theorem Rd.int {k : IntKind} {z : Value} {s b : Nat} [ti : TI P t (.int k) z s b] (h : Rd enc P W t cs) : ∃ n, cs = [.int k n] ∧ (Lit.int k n).wf = true := by
  obtain ⟨fuel, x, h⟩ := h
  cases fuel with
  | zero => cases h
  | succ fuel =>
    unfold DataW.trod at h
    simp only [ti.und] at h
    split at h <;> simp_all
theorem Rd.bool {z : Value} {s b : Nat} [ti : TI P t .bool z s b] (h : Rd enc P W t cs) : ∃ n, cs = [.bool n] := by
  obtain ⟨fuel, x, h⟩ := h
  cases fuel with
  | zero => cases h
  | succ fuel =>
    unfold DataW.trod at h
    simp only [ti.und] at h
    split at h <;> simp_all
theorem Rd.string {z : Value} {s b : Nat} [ti : TI P t .string z s b] (h : Rd enc P W t cs) : ∃ n : ByteArray, cs = [.string n] ∧ n.size ≤ maxLen := by
  obtain ⟨fuel, x, h⟩ := h
  cases fuel with
  | zero => cases h
  | succ fuel =>
    unfold DataW.trod at h
    simp only [ti.und] at h
    split at h <;> simp_all
theorem mapM_some {α β : Type} {f : α → Option β} : ∀ {l : List α} {r : List β}, l.mapM f = some r → ∀ a ∈ l, ∃ b, f a = some b
  | [], _, _, a, ha => by cases ha
  | x :: l, r, h, a, ha => by
    rw [List.mapM_cons] at h
    simp only [Option.bind_eq_bind, Option.bind_eq_some_iff] at h
    obtain ⟨b, hb, rs, hrs, _⟩ := h
    rcases List.mem_cons.1 ha with rfl | ha
    · exact ⟨b, hb⟩
    · exact mapM_some hrs a ha
theorem Rd.array {m : Nat} {e : TypeId} {z z' : Value} {s b s' b' : Nat} {d' : TypeDesc} [ti : TI P t (.array m e) z s b] [te : TI P e d' z' s' b'] (h : Rd enc P W t cs) : cs.length = s ∧ ∀ i, i < m → Rd enc P W e ((cs.drop (i * s')).take s') := by
  obtain ⟨fuel, x, h⟩ := h
  cases fuel with
  | zero => cases h
  | succ fuel =>
    unfold DataW.trod at h
    simp only [ti.und, ti.cellsOf, te.cellsOf] at h
    split at h
    · rename_i hl
      obtain ⟨y, hy, _⟩ := Option.map_eq_some_iff.1 h
      refine ⟨hl, fun i hi => ?_⟩
      obtain ⟨b, hb⟩ := mapM_some hy i (List.mem_range.2 hi)
      exact ⟨fuel, b, hb⟩
    · cases h
theorem Rd.struct {fs : Array Field} {z : Value} {s b : Nat} [ti : TI P t (.struct fs) z s b] (h : Rd enc P W t cs) : cs.length = s ∧ ∀ f ∈ fs.toList, Rd enc P W f.type ((cs.drop f.offset).take (P.cellsOf f.type)) := by
  obtain ⟨fuel, x, h⟩ := h
  cases fuel with
  | zero => cases h
  | succ fuel =>
    unfold DataW.trod at h
    simp only [ti.und, ti.cellsOf] at h
    split at h
    · rename_i hl
      obtain ⟨y, hy, _⟩ := Option.map_eq_some_iff.1 h
      refine ⟨hl, fun f hf => ?_⟩
      obtain ⟨b, hb⟩ := mapM_some hy f hf
      exact ⟨fuel, b, hb⟩
    · cases h
theorem Rd.slice {e : TypeId} {z z' : Value} {s b s' b' : Nat} {d' : TypeDesc} [ti : TI P t (.slice e) z s b] [te : TI P e d' z' s' b'] (hs : 0 < s') (h : Rd enc P W t cs) :
    ∃ A len cap vs, cs = [.slice A len cap] ∧ Row (memOf W) s' A len cap vs ∧ ∀ i, i < len → Rd enc P W e ((vs.drop (i * s')).take s') := by
  obtain ⟨fuel, x, h⟩ := h
  rcases Deep.open_slice ti.und h with ⟨rfl, _⟩ | ⟨a, len, cap, m, n, D, Pl, rfl, hb, hl, hm, hmm, _, hx⟩
  · exact ⟨none, 0, 0, [], rfl, Row.nil _ _, fun i hi => by omega⟩
  · rw [te.cellsOf] at hx
    have hcap : cap ≤ 9223372036854775807 := by unfold maxLen at hm; omega
    have hlm : len ≤ m := by rw [hmm]; split <;> omega
    have hx : ∀ i, i < len → ∃ cs', W.cells? 0 (a.add (i * s')) s' = some cs' ∧ DataW.trod enc P W 0 (fun _ => true) true n e cs' = some (D i, Pl i) := fun i hi => hx i (by omega)
    rcases Nat.eq_zero_or_pos len with h0 | h0
    · subst h0
      exact ⟨some a, 0, cap, [], rfl, Row.empty _ _ _ hcap, fun i hi => by omega⟩
    · have hspot : a.spot = none := by
        obtain ⟨cs', h1, _⟩ := hx 0 h0
        obtain ⟨_, hlen, hc⟩ := World.cells?_some h1
        have := hc 0 hs
        have hg : cs'[0]? = some (cs'[0]'(by omega)) := List.getElem?_eq_getElem (by omega)
        rw [hg] at this
        have := World.cell?_spot this
        revert this
        unfold Addr.add
        simp
      obtain ⟨bl, off, sp⟩ := a
      simp only at hspot
      subst hspot
      simp only [add_plain] at hx
      -- the cells
      have hcell : ∀ i, i < len * s' → ∃ v, W.cell? ⟨bl, off + i, none⟩ = some v := fun i hi => by
        obtain ⟨cs', h1, _⟩ := hx (i / s') (Nat.div_lt_of_lt_mul (by rwa [Nat.mul_comm]))
        obtain ⟨_, hlen, hc⟩ := World.cells?_some h1
        have hmod := Nat.mod_lt i hs
        have := hc (i % s') hmod
        rw [add_plain, Nat.add_assoc, Nat.add_comm (i / s' * s'), Nat.mod_add_div' i s', List.getElem?_eq_getElem (by omega)] at this
        exact ⟨_, this⟩
      have hblock : ∃ c T fr, W.heap[bl]? = some (.cells c T fr) := by
        obtain ⟨v, hv⟩ := hcell 0 (Nat.mul_pos h0 hs)
        unfold World.cell? at hv
        split at hv
        · rename_i c T fr hh; exact ⟨c, T, fr, hh⟩
        · cases hv
      obtain ⟨c, T, fr, hh⟩ := hblock
      have hc : ∀ i, i < len * s' → c[off + i]? = some (c.getD (off + i) default) ∧ W.cell? ⟨bl, off + i, none⟩ = some (c.getD (off + i) default) := fun i hi => by
        obtain ⟨v, hv⟩ := hcell i hi
        have hv' := hv
        unfold World.cell? at hv
        simp only [hh, Option.isSome_none, Bool.false_eq_true, if_false] at hv
        have : c.getD (off + i) default = v := by simp [Array.getD_eq_getD_getElem?, hv]
        rw [this]
        exact ⟨hv, hv'⟩
      refine ⟨some ⟨bl, off, none⟩, len, cap, (List.range (len * s')).map fun i => c.getD (off + i) default, rfl, ⟨by simp, hl, hcap, fun _ => ⟨bl, off, c, T, fr, rfl, hh, fun j v hj => ?_⟩⟩, fun i hi => ?_⟩
      · rw [List.getElem?_map] at hj
        obtain ⟨k, hk, rfl⟩ := Option.map_eq_some_iff.1 hj
        have hlt := (List.getElem?_eq_some_iff.1 hk).1
        rw [List.getElem?_range (by simpa using hlt)] at hk
        cases hk
        exact (hc _ (by simpa using hlt)).1
      · obtain ⟨cs', h1, h2⟩ := hx i hi
        have : ((((List.range (len * s')).map fun i => c.getD (off + i) default).drop (i * s')).take s') = cs' := by
          obtain ⟨_, hlen, hcc⟩ := World.cells?_some h1
          have hle : (i + 1) * s' ≤ len * s' := Nat.mul_le_mul_right _ hi
          rw [Nat.add_mul, Nat.one_mul] at hle
          apply List.ext_getElem?
          intro j
          rw [List.getElem?_take]
          split
          · rename_i hj
            rw [List.getElem?_drop, List.getElem?_map, List.getElem?_range (by omega)]
            have h3 := hcc j hj
            rw [add_plain, Nat.add_assoc] at h3
            rw [← h3, (hc (i * s' + j) (by omega)).2]
            rfl
          · rw [List.getElem?_eq_none (by omega)]
        rw [this]
        exact ⟨n, _, h2⟩
/-- A value of a kind that is one cell. -/
theorem one_of {v : Value} {base : Nat} {r : Reach} {d : TypeDesc} {z : Value} {s b : Nat} [ti : TI P t d z s b] (hd : aggD d = false) (h : Value.okWide P W r base t v) {x : Value} (hc : v.cells.toList = [x]) : v = x := by
  cases v with
  | agg c =>
    exfalso
    simp only [Value.okWide, ti.und] at h
    cases d <;> simp_all [aggD, Cell.okWide, Cell.ok]
  | _ => simpa [Value.cells] using hc
theorem agg_of {v : Value} {base : Nat} {r : Reach} {d : TypeDesc} {z : Value} {s b : Nat} [ti : TI P t d z s b] (hd : aggD d = true) (h : Value.okWide P W r base t v) : v = .agg v.cells.toList.toArray := by
  simp only [Value.okWide, ti.und] at h
  cases d <;> simp_all [aggD]
  all_goals (obtain ⟨cs, rfl, _⟩ := h; simp [Value.cells])
theorem u8_of {n : Int} (h : (Lit.int .u8 n).wf = true) : ∃ c : UInt8, n = (c.toNat : Int) := by
  simp [Lit.wf, IntKind.min, IntKind.max, IntKind.signed, IntKind.bits] at h
  exact ⟨UInt8.ofNat n.toNat, by simp [UInt8.toNat_ofNat']; omega⟩
/-- A row of numbers that came in. -/
theorem ints_of {k : IntKind} : ∀ (vs : List Value), (∀ i, i < vs.length → ∃ n, (vs.drop i).take 1 = [.int k n] ∧ (Lit.int k n).wf = true) → ∃ ts : List Int, vs = ts.map (.int k) ∧ ∀ t ∈ ts, (Lit.int k t).wf = true
  | [], _ => ⟨[], rfl, fun t h => by cases h⟩
  | v :: vs, h => by
    obtain ⟨n, h1, h2⟩ := h 0 (by simp)
    obtain ⟨ts, rfl, ht⟩ := ints_of vs (fun i hi => by simpa using h (i + 1) (by simpa using hi))
    refine ⟨n :: ts, by simpa using h1, fun t hm => ?_⟩
    rcases List.mem_cons.1 hm with rfl | hm
    · exact h2
    · exact ht t hm
theorem Rd.ints {k : IntKind} {e : TypeId} {z z' : Value} {s b b' : Nat} [ti : TI P t (.slice e) z s b] [te : TI P e (.int k) z' 1 b'] (h : Rd enc P W t cs) :
    ∃ (A : Option Addr) (len cap : Nat) (ts : List Int), cs = [.slice A len cap] ∧ Row (memOf W) 1 A len cap (ts.map (.int k)) ∧ ∀ n ∈ ts, (Lit.int k n).wf = true := by
  obtain ⟨A, len, cap, vs, rfl, hr, hx⟩ := h.slice (by omega)
  have hl := hr.len
  obtain ⟨ts, rfl, ht⟩ := ints_of (k := k) vs (fun i hi => by
    have := (hx i (by omega)).int
    simpa using this)
  exact ⟨A, len, cap, ts, rfl, hr, ht⟩
theorem u8s_of : ∀ (ts : List Int), (∀ t ∈ ts, (Lit.int .u8 t).wf = true) → ∃ bs : List UInt8, ts.map (Value.int .u8) = bs.map bv
  | [], _ => ⟨[], rfl⟩
  | t :: ts, h => by
    obtain ⟨c, rfl⟩ := u8_of (h t List.mem_cons_self)
    obtain ⟨bs, hb⟩ := u8s_of ts (fun x hx => h x (List.mem_cons_of_mem _ hx))
    exact ⟨c :: bs, by rw [List.map_cons, List.map_cons, hb]; rfl⟩
/-- A row of bytes that came in. -/
theorem Rd.bytes {e : TypeId} {z z' : Value} {s b b' : Nat} [ti : TI P t (.slice e) z s b] [te : TI P e (.int .u8) z' 1 b'] (h : Rd enc P W t cs) :
    ∃ (A : Option Addr) (len cap : Nat) (bs : List UInt8), cs = [.slice A len cap] ∧ Bytes (memOf W) A len cap bs := by
  obtain ⟨A, len, cap, ts, rfl, hr, ht⟩ := h.ints (k := .u8)
  obtain ⟨bs, hb⟩ := u8s_of ts ht
  exact ⟨A, len, cap, bs, rfl, by rw [Bytes, ← hb]; exact hr⟩
end
end Go.Eng
set_option linter.unusedVariables false
set_option linter.unusedSimpArgs false
namespace Go.Eng
open Go.ChangeShapes Go.WideShapes Go.ChangeAt Go.RowKit
/-! ### What is listed of package-level variables -/
section
variable {P : Program} {W : World}
theorem laidVars_mem : ∀ {laid : List (String × DataW Unit)} {ps : List MemPlace}, DataW.LaidVars P W laid ps → ∀ {n d}, (n, d) ∈ laid → ∃ g t cs fuel p, P.globalNamed n = some g ∧ (P.globals[g]?).map (·.type) = some t ∧ W.var? P n = some cs ∧ DataW.trod (fun _ => ()) P W 0 (fun _ => true) false fuel t cs.toList = some (d, p)
  | [], _, _, n, d, hm => by cases hm
  | (n0, d0) :: r, ps, h, n, d, hm => by
    obtain ⟨g, t, cs, fuel, p, q, h1, h2, h3, h4, h5, _⟩ := h
    rcases List.mem_cons.1 hm with he | hm
    · cases he; exact ⟨g, t, cs, fuel, p, h1, h2, h3, h4⟩
    · exact laidVars_mem h5 hm
theorem var_heap {n : String} {g : Nat} {cs : Array Value} (hg : P.globalNamed n = some g) (h : W.var? P n = some cs) : ∃ T fr, memOf W g = some (.cells cs T fr) := by
  simp only [World.var?, hg, Option.bind_some] at h
  unfold memOf
  split at h
  · rename_i c t fr hb
    cases h
    exact ⟨t, fr, hb⟩
  · cases h
theorem map_lits {k : IntKind} : ∀ {ns : List Int} {cs : List Value}, cs.length = ns.length → (∀ i, i < ns.length → ∃ x, (cs.drop i).take 1 = [Value.int k x] ∧ ns[i]? = some x) → cs = ns.map (.int k)
  | [], [], _, _ => rfl
  | [], _ :: _, h, _ => by simp at h
  | _ :: _, [], h, _ => by simp at h
  | n :: ns, c :: cs, h, hx => by
    obtain ⟨x, h1, h2⟩ := hx 0 (by simp)
    simp at h1 h2
    have h3 := map_lits (k := k) (ns := ns) (cs := cs) (by simpa using h) (fun i hi => by simpa using hx (i + 1) (by simpa using hi))
    rw [h1, h2, h3]
    rfl
theorem trod_ints {t e : TypeId} {m : Nat} {k : IntKind} {z z' : Value} {s b b' fuel : Nat} [ti : TI P t (.array m e) z s b] [te : TI P e (.int k) z' 1 b'] {ns : List Int} {cs : List Value} {p : List MemPlace} {sp : Nat → Bool} {held : Bool} {enc : TypeId × Value → Unit}
    (h : DataW.trod enc P W 0 sp held fuel t cs = some (.agg (ns.map fun x => .lit (.int k x)), p)) (hs : s = m) : cs = ns.map (.int k) := by
  obtain ⟨xs, m', rfl, hx, hl, hn, hel⟩ := DataW.trod_array ti.und h
  rw [ti.cellsOf, hs] at hl
  simp only [Prod.mk.injEq, DataW.agg.injEq] at hx
  have hln : ns.length = m := by rw [← hn]; simpa using congrArg List.length hx.1
  refine map_lits (by omega) (fun i hi => ?_)
  have h1 := hel i (by omega)
  rw [te.cellsOf, Nat.mul_one] at h1
  rw [List.getElem?_eq_getElem (show i < xs.length by omega)] at h1
  obtain ⟨x, e1, e2, _⟩ := DataW.trod_int te.und h1
  refine ⟨x, e1, ?_⟩
  have h2 := congrArg (fun l => l[i]?) hx.1
  simp only [List.getElem?_map] at h2
  rw [List.getElem?_eq_getElem (show i < xs.length by omega), List.getElem?_eq_getElem hi] at h2
  simp only [Option.map_some, Option.some.injEq, e2, DataW.lit.injEq, Lit.int.injEq, true_and] at h2
  rw [List.getElem?_eq_getElem hi, h2]
theorem laid_ints {laid : List (String × DataW Unit)} (h : laidMet P laid W) {n : String} {g : Nat} {t e : TypeId} {m : Nat} {k : IntKind} {z z' : Value} {s b b' : Nat} (ns : List Int) (hm : (n, DataW.agg (ns.map fun x => .lit (.int k x))) ∈ laid) (hg : P.globalNamed n = some g)
    (ht : (P.globals[g]?).map (·.type) = some t) (ti : TI P t (.array m e) z s b) (te : TI P e (.int k) z' 1 b') (hs : s = m) : ∃ T fr, memOf W g = some (.cells (ns.map (.int k)).toArray T fr) := by
  obtain ⟨ps, hv, _⟩ := h
  obtain ⟨g', t', cs, fuel, p, h1, h2, h3, h4⟩ := laidVars_mem hv hm
  obtain rfl := Option.some.inj (hg.symm.trans h1)
  obtain rfl := Option.some.inj (ht.symm.trans h2)
  obtain ⟨T, fr, hh⟩ := var_heap hg h3
  have := trod_ints h4 hs
  refine ⟨T, fr, ?_⟩
  rw [hh, ← this]
theorem brows_of {H : Type} {enc : TypeId × Value → H} {t e : TypeId} {z z' : Value} {s b b' : Nat} [ti : TI P t (.slice e) z s b] [te : TI P e (.int .u8) z' 1 b'] : ∀ (vs : List Value), (∀ i, i < vs.length → Rd enc P W t ((vs.drop i).take 1)) → ∃ bss, BRows (memOf W) vs bss
  | [], _ => ⟨[], .nil⟩
  | v :: vs, h => by
    obtain ⟨A, n, c, bs, e1, hb⟩ := (h 0 (by simp)).bytes
    obtain ⟨bss, ht⟩ := brows_of vs (fun i hi => by simpa using h (i + 1) (by simpa using hi))
    have e2 : v = .slice A n c := by simpa using e1
    exact ⟨bs :: bss, by rw [e2]; exact .cons hb ht⟩
/-- A row of rows of bytes that came in. -/
theorem Rd.brows {H : Type} {enc : TypeId × Value → H} {t0 t e : TypeId} {z0 z z' : Value} {s0 b0 b b' : Nat} {cs : List Value} [t0i : TI P t0 (.slice t) z0 s0 b0] [ti : TI P t (.slice e) z 1 b] [te : TI P e (.int .u8) z' 1 b'] (h : Rd enc P W t0 cs) :
    ∃ A len cap vs bss, cs = [.slice A len cap] ∧ Row (memOf W) 1 A len cap vs ∧ BRows (memOf W) vs bss := by
  obtain ⟨A, len, cap, vs, rfl, hr, hx⟩ := h.slice (by omega)
  obtain ⟨bss, hb⟩ := brows_of vs (fun i hi => by
    have := hx i (by have := hr.len; omega)
    simpa using this)
  exact ⟨A, len, cap, vs, bss, rfl, hr, hb⟩
end
end Go.Eng
set_option linter.unusedVariables false
namespace Go.Proofs.YtbjnjedfoiedeaaDoor
open Go Go.Eng Go.ChangeShapes Go.WideShapes Go.ChangeAt Go.RowKit
theorem own : ownKnob Tryd.prog.godebug = none := by kernel_rfl
theorem laidOut : laidOutB Tryd.prog = true := by kernel_rfl
set_option maxRecDepth 100000 in
theorem shutBool {H : Type} {enc : TypeId × Value → H} {W : World} {base : Nat} {sp : Nat → Bool} {held : Bool} (b : Bool) : DataW.Trod enc Tryd.prog W base sp held 4 (.bool b) (.lit (.bool b)) [] := ⟨1, by simp [DataW.trod, Value.cells, Tryd.underlying4]⟩
set_option maxRecDepth 100000 in
theorem byte_arg {H : Type} {enc : TypeId × Value → H} {W : World} {v : Value} {r : Reach} {b : Nat} (k : Value.okWide Tryd.prog W r b 5 v) (h : Rd enc Tryd.prog W 5 v.cells.toList) : ∃ c : UInt8, v = .int .u8 c.toNat := by
  obtain ⟨n, e, w⟩ := h.int
  obtain rfl := one_of rfl k e
  obtain ⟨c, rfl⟩ := u8_of w
  exact ⟨c, rfl⟩
set_option maxRecDepth 100000 in
theorem int_arg {H : Type} {enc : TypeId × Value → H} {W : World} {v : Value} {r : Reach} {b : Nat} (k : Value.okWide Tryd.prog W r b 3 v) (h : Rd enc Tryd.prog W 3 v.cells.toList) : ∃ n : Int, v = .int .i64 n ∧ -9223372036854775808 ≤ n ∧ n ≤ 9223372036854775807 := by
  obtain ⟨n, e, w⟩ := h.int
  obtain rfl := one_of rfl k e
  simp [Lit.wf, IntKind.min, IntKind.max, IntKind.signed, IntKind.bits] at w
  exact ⟨n, rfl, by omega, by omega⟩
end Go.Proofs.YtbjnjedfoiedeaaDoor
set_option linter.unusedVariables false
namespace Go.Proofs.YtbjnjedfoiedeaaDoor
open Go Go.Eng Go.ChangeShapes Go.WideShapes Go.ChangeAt Go.RowKit
section
variable {W : World}
/-- From the listed variables: the constants of SHA-256. -/
theorem shaG_of {laid : List (String × DataW Unit)} (h : laidMet Tryd.prog laid W) (h1 : ("tearoff/sha2.k", Rows.laid_tearoff_sha2_k) ∈ laid) (h2 : ("tearoff/sha2.first", Rows.laid_tearoff_sha2_first) ∈ laid) : ShaG (memOf W) := by
  refine ⟨?_, ?_⟩
  · obtain ⟨T, fr, hc⟩ := laid_ints h (kT.map fun x => (x.toNat : Int)) h1 (show Tryd.prog.globalNamed "tearoff/sha2.k" = some 7 by kernel_rfl) (show (Tryd.prog.globals[7]?).map (·.type) = some 169 by kernel_rfl) ti169 ti28 rfl
    refine ⟨_, T, fr, hc, fun j hj => ?_⟩
    rw [List.getElem?_toArray, List.map_map]
    exact get_u32' kT j hj
  · obtain ⟨T, fr, hc⟩ := laid_ints h (H8.init.list.map fun x => (x.toNat : Int)) h2 (show Tryd.prog.globalNamed "tearoff/sha2.first" = some 6 by kernel_rfl) (show (Tryd.prog.globals[6]?).map (·.type) = some 155 by kernel_rfl) ti155 ti28 rfl
    exact ⟨T, fr, hc⟩
end
end Go.Proofs.YtbjnjedfoiedeaaDoor
