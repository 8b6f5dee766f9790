/-
Contracts of functions, each proved by a walk through its code.
-/
import Derived.Test.YtbjnjedfoiedeaaDoorOnce4Etc
import Derived.Test.YtbjnjedfoiedeaaDoorEngWEtc
set_option linter.unusedVariables false
set_option linter.unusedSimpArgs false
set_option linter.constructorNameAsVariable false
namespace Go.Proofs.YtbjnjedfoiedeaaDoor
open Go Go.Eng
theorem f10 : ∃ o : OtsV, otsV 7 = o ∧ OF o 24 4 51 := by
  obtain ⟨o, eo, ee, on, ok_, ow, op, oe, ov⟩ := f9
  obtain ⟨n, w, p, ho⟩ := okO_facts (o := o) ⟨oe, ov⟩
  have h1 := ho.hn
  have h2 := ho.hw
  have h3 := ho.hp
  obtain rfl : n = 24 := by omega
  obtain rfl : w = 4 := by omega
  obtain rfl : p = 51 := by omega
  exact ⟨o, eo, ho⟩
theorem sta99 (nl tl : Nat) (h16 : nl = 16) (htl : tl ≤ 65536) : staE nl tl [0, 0, 0, 99] = 4 := by
  rw [staE, if_neg (by omega)]
  have h : (ofV [0, 0, 0, 99]).2 = 4 := by decide +kernel
  exact h
section
variable {G : World} {M : Mem} {L : Own}
theorem awake10_spec (hg : ChG M) : Con Tryd.prog 28 #[] G M L (fun v M' L' => L = L' ∧ v = .bool true) noPanic := by
  obtain ⟨o, eo, ho⟩ := f10
  have hz := ho.size.1
  have hy : okY o 16 24 := ⟨ho.ok, rfl, by rw [ho.hn]⟩
  have hl16 : (List.replicate 16 (0 : UInt8)).length = 16 := by simp
  refine enter (args := []) (fn := Tryd.f28) ⟨Tryd.func28, rfl, by kernel_rfl, by kernel_rfl⟩ 74 rfl ?_
  refine x_seq (x_region ?_)
  refine tl_y rfl (y_assign rfl) ?_
  refine tl_nil (.then_normal ?_)
  refine x_seq (x_region ?_)
  refine tl_e rfl (e_call' rfl (ROts_spec 7) ?_)
  rintro _ _ _ _ ⟨rfl, rfl, rfl⟩
  rw [eo]
  refine tl_y rfl (y_move (v := .tuple _) rfl) ?_
  refine tl_y rfl (y_extract rfl) ?_
  refine tl_y rfl (y_extract rfl) ?_
  refine tl_e rfl (e_alloc (fun b1 => ?_))
  refine tl_e rfl (e_store rfl rfl (by rfl) (by rfl) inferInstance inferInstance inferInstance ?_)
  refine tl_y rfl (y_assign (v := .int _ _) rfl) ?_
  refine tl_nil (.then_normal ?_)
  refine .sub (F' := [(1, _)]) (.cons rfl .nil) ?_
  refine x_seq ?_
  refine x_meet (I := fun F D M2 L2 => ∃ (bn bs b : Nat), F = [(1, .pointer (some ⟨b1, 0, none⟩)), (3, .pointer (some ⟨b, 0, none⟩))] ∧ D = [] ∧ Le M M2 ∧ Bytes M2 (some ⟨bn, 0, none⟩) 16 16 (List.replicate 16 0) ∧ Bytes M2 (some ⟨bs, 0, none⟩) 24 24 (List.replicate 24 0) ∧ DropTo L2 ((b, .cells (List.toArray (seedC (some ⟨bn, 0, none⟩) 16 16 (some ⟨bs, 0, none⟩) 24 24)) 58 (0, 0)) :: (b1, .cells (List.toArray o.cells) 62 (0, 0)) :: L)) ?_ (fun Jd2 => ?_)
  ·
    rintro _ _ M2 L2 ⟨bn, bs, b, rfl, rfl, hM2, hn2, hs2, hdr⟩  -- slots [1, 3]
    refine .dropTo _ hdr ?_
    refine x_seq (x_region ?_)
    refine tl_y rfl (y_loadAgg rfl rfl (.own inferInstance inferInstance)) ?_
    refine tl_y rfl (y_loadAgg rfl rfl (.own inferInstance inferInstance)) ?_
    refine tl_e rfl (e_buildSlice rfl (by decide) (fun b7 => ?_))
    refine tl_e rfl (e_convMark rfl inferInstance (fun M3 fr3 hM3 hb3 => ?_))
    have ht3 : Bytes M3 (some ⟨b7, 0, none⟩) 1 1 [97] := Row.whole hb3 rfl (by omega)
    have hd := hM2.trans hM3
    have hd2 := hM3
    refine tl_e rfl (e_call' rfl (oSign_spec (hg.mono hd) o (hn2.mono hd2) (hs2.mono hd2) 3 ht3) ?_)
    rintro _ M4 _ hM4 ⟨rfl, A4, m4, c4, rfl, hA4⟩
    rw [if_pos ⟨hy, by omega⟩] at hA4
    obtain ⟨hp1, hp2, hp3, hp4⟩ := sig_parts ho hl16 (List.replicate 24 0) (3 : UInt32).toNat [97]
    have hm4 := hA4.size
    rw [hp1] at hm4
    replace hd := hd.trans hM4
    replace hd2 := hd2.trans hM4
    refine tl_y rfl (y_assign (v := .slice _ _ _) rfl) ?_
    refine tl_nil (.then_normal ?_)
    refine .sub (F' := [(1, _), (3, _), (4, _)]) (.cons rfl (.cons rfl (.cons rfl .nil))) ?_
    refine x_seq (x_region ?_)
    refine tl_y rfl (y_fieldAddr rfl) ?_
    refine tl_y rfl (y_load rfl rfl (.own inferInstance inferInstance)) ?_
    refine tl_e rfl (e_buildSlice rfl (by decide) (fun b8 => ?_))
    refine tl_e rfl (e_convMark rfl inferInstance (fun M5 fr5 hM5 hb5 => ?_))
    have ht5 : Bytes M5 (some ⟨b8, 0, none⟩) 1 1 [97] := Row.whole hb5 rfl (by omega)
    replace hd := hd.trans hM5
    replace hd2 := hd2.trans hM5
    refine tl_y rfl (y_move (v := .slice _ _ _) rfl) ?_
    refine tl_e rfl (e_call' rfl (oStands_spec (hg.mono hd) (hn2.mono hd2) 3 ht5 (hA4.mono hM5)) ?_)
    rintro _ M6 _ hM6 ⟨rfl, A6, m6, c6, rfl, hA6⟩
    obtain ⟨hst1, hst2⟩ := sta_sig ho hl16 (List.replicate 24 0) (3 : UInt32).toNat [97] (nl := 16) (tl := 1) rfl (by omega)
    rw [hst2] at hA6
    rw [hst1]
    replace hd := hd.trans hM6
    replace hd2 := hd2.trans hM6
    refine tl_y rfl (y_move (v := .tuple _) rfl) ?_
    refine tl_y rfl (y_extract rfl) ?_
    refine tl_y rfl (y_extract rfl) ?_
    refine tl_y rfl (y_assign (v := .slice _ _ _) rfl) ?_
    refine tl_y rfl (y_assign (v := .int _ _) rfl) ?_
    refine tl_nil (.then_normal ?_)
    refine .sub (F' := [(1, _), (3, _), (4, _), (5, _), (6, _)]) (.cons rfl (.cons rfl (.cons rfl (.cons rfl (.cons rfl .nil))))) ?_
    refine x_seq (x_region ?_)
    refine tl_y rfl (y_fieldAddr rfl) ?_
    refine tl_y rfl (y_load rfl rfl (.own inferInstance inferInstance)) ?_
    refine tl_e rfl (e_buildSlice rfl (by decide) (fun b9 => ?_))
    refine tl_e rfl (e_convMark rfl inferInstance (fun M7 fr7 hM7 hb7 => ?_))
    have ht7 : Bytes M7 (some ⟨b9, 0, none⟩) 1 1 [97] := Row.whole hb7 rfl (by omega)
    refine tl_e rfl (e_buildSlice rfl (by decide) (fun b10 => ?_))
    refine .pub b10 inferInstance (fun M8 hM8 hb8 => ?_)
    have ht8 : Bytes M8 (some ⟨b10, 0, none⟩) 4 4 [0, 0, 0, 99] := Row.whole hb8 rfl (by omega)
    replace hd := hd.trans (hM7.trans hM8)
    replace hd2 := hd2.trans (hM7.trans hM8)
    refine tl_e rfl (e_call' rfl (oStands_spec (hg.mono hd) (hn2.mono hd2) 3 (ht7.mono hM8) ht8) ?_)
    rintro _ M9 _ hM9 ⟨rfl, A9, m9, c9, rfl, hA9⟩
    rw [sta99 16 1 rfl (by omega)]
    replace hd := hd.trans hM9
    replace hd2 := hd2.trans hM9
    have hk6 := hM7.trans (hM8.trans hM9)
    refine tl_y rfl (y_move (v := .tuple _) rfl) ?_
    refine tl_y rfl (y_extract rfl) ?_
    refine tl_y rfl (y_extract rfl) ?_
    refine tl_y rfl (y_assign (v := .slice _ _ _) rfl) ?_
    refine tl_y rfl (y_assign (v := .int _ _) rfl) ?_
    refine tl_nil (.then_normal ?_)
    refine .sub (F' := [(1, _), (3, _), (4, _), (5, _), (6, _), (8, _)]) (.cons rfl (.cons rfl (.cons rfl (.cons rfl (.cons rfl (.cons rfl .nil)))))) ?_
    refine x_seq (x_region ?_)
    refine tl_y rfl (y_loadAgg rfl rfl (.own inferInstance inferInstance)) ?_
    refine tl_y rfl (y_loadAgg rfl rfl (.own inferInstance inferInstance)) ?_
    refine tl_e rfl (e_call' rfl (oMay_spec (hg.mono hd).set o) ?_)
    rintro _ M10 _ hM10 ⟨rfl, rfl⟩
    replace hd := hd.trans hM10
    replace hd2 := hd2.trans hM10
    replace hk6 := hk6.trans hM10
    refine tl_y rfl (y_move (v := .bool _) rfl) ?_
    refine tl_set (s := 42) (u := .bool true) rfl (congrArg Value.bool (decide_eq_true hy)) ?_
    refine tl_y rfl (y_loadAgg rfl rfl (.own inferInstance inferInstance)) ?_
    refine tl_e rfl (e_call' rfl (oSize_spec o ho) ?_)
    rintro _ _ _ _ ⟨rfl, rfl, rfl⟩
    refine tl_y rfl (y_eql rfl rfl) ?_
    refine tl_y rfl (y_pickT rfl rfl) ?_
    refine tl_y rfl (y_move (v := .bool _) rfl) ?_
    refine tl_set (s := 47) (u := .bool true) rfl (congrArg Value.bool (decide_eq_true (by rw [hz]; rfl))) ?_
    refine tl_y rfl (y_move (v := .slice _ _ _) rfl) ?_
    refine tl_y rfl (y_len rfl) ?_
    refine tl_y rfl (y_eql rfl rfl) ?_
    refine tl_y rfl (y_pickT rfl rfl) ?_
    refine tl_y rfl (y_move (v := .bool _) rfl) ?_
    refine tl_set (s := 52) (u := .bool true) rfl (congrArg Value.bool (decide_eq_true (by rw [← hm4, hz]; rfl))) ?_
    refine tl_y rfl (y_move (v := .int _ _) rfl) ?_
    refine tl_y rfl (y_eql rfl rfl) ?_
    refine tl_y rfl (y_pickT rfl rfl) ?_
    refine tl_y rfl (y_move (v := .bool _) rfl) ?_
    refine tl_set (s := 56) (u := .bool true) rfl (rfl) ?_
    refine tl_y rfl (y_move (v := .slice _ _ _) rfl) ?_
    refine tl_y rfl (y_loadAgg rfl rfl (.own inferInstance inferInstance)) ?_
    refine tl_y rfl (y_loadAgg rfl rfl (.own inferInstance inferInstance)) ?_
    refine tl_e rfl (e_call' rfl (oKey_spec (hg.mono hd) o (hn2.mono hd2) (hs2.mono hd2) 3) ?_)
    rintro _ M11 _ hM11 ⟨rfl, A11, m11, c11, rfl, hA11⟩
    rw [if_pos hy] at hA11
    replace hd := hd.trans hM11
    replace hd2 := hd2.trans hM11
    replace hk6 := hk6.trans hM11
    refine tl_e rfl (e_call' rfl (same_spec (hA6.mono hk6) hA11) ?_)
    rintro _ _ _ _ ⟨rfl, rfl, rfl⟩
    refine tl_y rfl (y_pickT rfl rfl) ?_
    refine tl_y rfl (y_move (v := .bool _) rfl) ?_
    refine tl_set (s := 63) (u := .bool true) rfl (congrArg Value.bool (decide_eq_true rfl)) ?_
    refine tl_y rfl (y_move (v := .slice _ _ _) rfl) ?_
    refine tl_y rfl (y_loadAgg rfl rfl (.own inferInstance inferInstance)) ?_
    refine tl_y rfl (y_loadAgg rfl rfl (.own inferInstance inferInstance)) ?_
    refine tl_e rfl (e_call' rfl (RoKey_spec o (hn2.mono hd2) (hs2.mono hd2) 3) ?_)
    rintro _ M12 _ hM12 ⟨rfl, A12, m12, c12, rfl, hA12⟩
    rw [if_pos hy] at hA12
    replace hd := hd.trans hM12
    refine tl_e rfl (e_call' rfl (same_spec (hA6.mono (hk6.trans hM12)) hA12) ?_)
    rintro _ _ _ _ ⟨rfl, rfl, rfl⟩
    refine tl_y rfl (y_pickT rfl rfl) ?_
    refine tl_y rfl (y_move (v := .bool _) rfl) ?_
    refine tl_set (s := 70) (u := .bool true) rfl (congrArg Value.bool (decide_eq_true rfl)) ?_
    refine tl_y rfl (y_move (v := .int _ _) rfl) ?_
    refine tl_y rfl (y_eql rfl rfl) ?_
    refine tl_y rfl (y_pickT rfl rfl) ?_
    refine tl_y rfl (y_assign (v := .bool _) rfl) ?_
    refine tl_nil (.then_normal ?_)
    refine .sub (F' := [(0, _)]) (.cons rfl .nil) ?_
    refine x_ret (.dropTo L inferInstance (ret1 rfl rfl hd ⟨rfl, rfl⟩))
  ·
    have he : Le M M := Le.refl _
    refine x_draw 4 hmix rfl ?_
    refine to_three 0 1 3 (by kernel_rfl) ?_ ?_ ?_
    ·
      refine two_e 0 rfl rfl (e_make1 rfl rfl (by omega) (by omega) (by omega) (by omega) (fun bn => ?_))
      refine ⟨⟨he, Keeps.mem⟩, ?_⟩
      refine .pub bn inferInstance (fun M3 hM3 hbn => ?_)
      rw [show Int.toNat 16 = 16 from rfl]
      have hn : Bytes M3 (some ⟨bn, 0, none⟩) 16 16 (List.replicate 16 0) := Bytes.zeros hbn (by omega)
      replace he := he.trans hM3
      refine to_two 1 3 (by kernel_rfl) ?_ ?_
      ·
        refine two_e 1 rfl rfl (e_make1 rfl rfl (by omega) (by omega) (by omega) (by omega) (fun bs => ?_))
        refine ⟨⟨he, Keeps.mem⟩, ?_⟩
        refine .pub bs inferInstance (fun M4 hM4 hbs => ?_)
        rw [show Int.toNat 24 = 24 from rfl]
        have hs : Bytes M4 (some ⟨bs, 0, none⟩) 24 24 (List.replicate 24 0) := Bytes.zeros hbs (by omega)
        replace he := he.trans hM4
        refine to_p 2 rfl (by kernel_rfl) rfl (y_build rfl) ?_
        refine to_e 3 rfl (by kernel_rfl) rfl (e_alloc (fun b2 => ?_))
        refine ⟨⟨(by first | exact Le.refl _ | assumption), Keeps.mem⟩, ?_⟩
        refine to_t 4 rfl (by kernel_rfl) (by kernel_rfl) rfl (e_store rfl rfl (by rfl) (by rfl) inferInstance inferInstance inferInstance ?_)
        refine to_nil (by kernel_rfl) (.then_normal (.sub (F' := [(1, _), (3, _)]) (.cons rfl (.cons rfl .nil)) (Jd2 _ _ _ _ ?_)))
        exact ⟨bn, bs, _, rfl, rfl, he, hn.mono (by first | exact Le.refl _ | exact hM4), hs.mono (by first | exact Le.refl _ | exact hM3), inferInstance⟩
      ·
        refine two_e 3 rfl rfl (e_alloc (fun b3 => ?_))
        refine ⟨⟨(by first | exact Le.refl _ | assumption), Keeps.mem⟩, ?_⟩
        refine to_e 1 rfl (by kernel_rfl) rfl (e_make1 rfl rfl (by omega) (by omega) (by omega) (by omega) (fun bs => ?_))
        refine ⟨⟨he, Keeps.mem⟩, ?_⟩
        refine .pub bs inferInstance (fun M4 hM4 hbs => ?_)
        rw [show Int.toNat 24 = 24 from rfl]
        have hs : Bytes M4 (some ⟨bs, 0, none⟩) 24 24 (List.replicate 24 0) := Bytes.zeros hbs (by omega)
        replace he := he.trans hM4
        refine to_p 2 rfl (by kernel_rfl) rfl (y_build rfl) ?_
        refine to_t 4 rfl (by kernel_rfl) (by kernel_rfl) rfl (e_store rfl rfl (by rfl) (by rfl) inferInstance inferInstance inferInstance ?_)
        refine to_nil (by kernel_rfl) (.then_normal (.sub (F' := [(1, _), (3, _)]) (.cons rfl (.cons rfl .nil)) (Jd2 _ _ _ _ ?_)))
        exact ⟨bn, bs, _, rfl, rfl, he, hn.mono (by first | exact Le.refl _ | exact hM4), hs.mono (by first | exact Le.refl _ | exact hM3), inferInstance⟩
    ·
      refine two_e 1 rfl rfl (e_make1 rfl rfl (by omega) (by omega) (by omega) (by omega) (fun bs => ?_))
      refine ⟨⟨he, Keeps.mem⟩, ?_⟩
      refine .pub bs inferInstance (fun M4 hM4 hbs => ?_)
      rw [show Int.toNat 24 = 24 from rfl]
      have hs : Bytes M4 (some ⟨bs, 0, none⟩) 24 24 (List.replicate 24 0) := Bytes.zeros hbs (by omega)
      replace he := he.trans hM4
      refine to_two 0 3 (by kernel_rfl) ?_ ?_
      ·
        refine two_e 0 rfl rfl (e_make1 rfl rfl (by omega) (by omega) (by omega) (by omega) (fun bn => ?_))
        refine ⟨⟨he, Keeps.mem⟩, ?_⟩
        refine .pub bn inferInstance (fun M3 hM3 hbn => ?_)
        rw [show Int.toNat 16 = 16 from rfl]
        have hn : Bytes M3 (some ⟨bn, 0, none⟩) 16 16 (List.replicate 16 0) := Bytes.zeros hbn (by omega)
        replace he := he.trans hM3
        refine to_p 2 rfl (by kernel_rfl) rfl (y_build rfl) ?_
        refine to_e 3 rfl (by kernel_rfl) rfl (e_alloc (fun b4 => ?_))
        refine ⟨⟨(by first | exact Le.refl _ | assumption), Keeps.mem⟩, ?_⟩
        refine to_t 4 rfl (by kernel_rfl) (by kernel_rfl) rfl (e_store rfl rfl (by rfl) (by rfl) inferInstance inferInstance inferInstance ?_)
        refine to_nil (by kernel_rfl) (.then_normal (.sub (F' := [(1, _), (3, _)]) (.cons rfl (.cons rfl .nil)) (Jd2 _ _ _ _ ?_)))
        exact ⟨bn, bs, _, rfl, rfl, he, hn.mono (by first | exact Le.refl _ | exact hM4), hs.mono (by first | exact Le.refl _ | exact hM3), inferInstance⟩
      ·
        refine two_e 3 rfl rfl (e_alloc (fun b5 => ?_))
        refine ⟨⟨(by first | exact Le.refl _ | assumption), Keeps.mem⟩, ?_⟩
        refine to_e 0 rfl (by kernel_rfl) rfl (e_make1 rfl rfl (by omega) (by omega) (by omega) (by omega) (fun bn => ?_))
        refine ⟨⟨he, Keeps.mem⟩, ?_⟩
        refine .pub bn inferInstance (fun M3 hM3 hbn => ?_)
        rw [show Int.toNat 16 = 16 from rfl]
        have hn : Bytes M3 (some ⟨bn, 0, none⟩) 16 16 (List.replicate 16 0) := Bytes.zeros hbn (by omega)
        replace he := he.trans hM3
        refine to_p 2 rfl (by kernel_rfl) rfl (y_build rfl) ?_
        refine to_t 4 rfl (by kernel_rfl) (by kernel_rfl) rfl (e_store rfl rfl (by rfl) (by rfl) inferInstance inferInstance inferInstance ?_)
        refine to_nil (by kernel_rfl) (.then_normal (.sub (F' := [(1, _), (3, _)]) (.cons rfl (.cons rfl .nil)) (Jd2 _ _ _ _ ?_)))
        exact ⟨bn, bs, _, rfl, rfl, he, hn.mono (by first | exact Le.refl _ | exact hM4), hs.mono (by first | exact Le.refl _ | exact hM3), inferInstance⟩
    ·
      refine two_e 3 rfl rfl (e_alloc (fun b6 => ?_))
      refine ⟨⟨(by first | exact Le.refl _ | assumption), Keeps.mem⟩, ?_⟩
      refine to_two 0 1 (by kernel_rfl) ?_ ?_
      ·
        refine two_e 0 rfl rfl (e_make1 rfl rfl (by omega) (by omega) (by omega) (by omega) (fun bn => ?_))
        refine ⟨⟨he, Keeps.mem⟩, ?_⟩
        refine .pub bn inferInstance (fun M3 hM3 hbn => ?_)
        rw [show Int.toNat 16 = 16 from rfl]
        have hn : Bytes M3 (some ⟨bn, 0, none⟩) 16 16 (List.replicate 16 0) := Bytes.zeros hbn (by omega)
        replace he := he.trans hM3
        refine to_e 1 rfl (by kernel_rfl) rfl (e_make1 rfl rfl (by omega) (by omega) (by omega) (by omega) (fun bs => ?_))
        refine ⟨⟨he, Keeps.mem⟩, ?_⟩
        refine .pub bs inferInstance (fun M4 hM4 hbs => ?_)
        rw [show Int.toNat 24 = 24 from rfl]
        have hs : Bytes M4 (some ⟨bs, 0, none⟩) 24 24 (List.replicate 24 0) := Bytes.zeros hbs (by omega)
        replace he := he.trans hM4
        refine to_p 2 rfl (by kernel_rfl) rfl (y_build rfl) ?_
        refine to_t 4 rfl (by kernel_rfl) (by kernel_rfl) rfl (e_store rfl rfl (by rfl) (by rfl) inferInstance inferInstance inferInstance ?_)
        refine to_nil (by kernel_rfl) (.then_normal (.sub (F' := [(1, _), (3, _)]) (.cons rfl (.cons rfl .nil)) (Jd2 _ _ _ _ ?_)))
        exact ⟨bn, bs, _, rfl, rfl, he, hn.mono (by first | exact Le.refl _ | exact hM4), hs.mono (by first | exact Le.refl _ | exact hM3), inferInstance⟩
      ·
        refine two_e 1 rfl rfl (e_make1 rfl rfl (by omega) (by omega) (by omega) (by omega) (fun bs => ?_))
        refine ⟨⟨he, Keeps.mem⟩, ?_⟩
        refine .pub bs inferInstance (fun M4 hM4 hbs => ?_)
        rw [show Int.toNat 24 = 24 from rfl]
        have hs : Bytes M4 (some ⟨bs, 0, none⟩) 24 24 (List.replicate 24 0) := Bytes.zeros hbs (by omega)
        replace he := he.trans hM4
        refine to_e 0 rfl (by kernel_rfl) rfl (e_make1 rfl rfl (by omega) (by omega) (by omega) (by omega) (fun bn => ?_))
        refine ⟨⟨he, Keeps.mem⟩, ?_⟩
        refine .pub bn inferInstance (fun M3 hM3 hbn => ?_)
        rw [show Int.toNat 16 = 16 from rfl]
        have hn : Bytes M3 (some ⟨bn, 0, none⟩) 16 16 (List.replicate 16 0) := Bytes.zeros hbn (by omega)
        replace he := he.trans hM3
        refine to_p 2 rfl (by kernel_rfl) rfl (y_build rfl) ?_
        refine to_t 4 rfl (by kernel_rfl) (by kernel_rfl) rfl (e_store rfl rfl (by rfl) (by rfl) inferInstance inferInstance inferInstance ?_)
        refine to_nil (by kernel_rfl) (.then_normal (.sub (F' := [(1, _), (3, _)]) (.cons rfl (.cons rfl .nil)) (Jd2 _ _ _ _ ?_)))
        exact ⟨bn, bs, _, rfl, rfl, he, hn.mono (by first | exact Le.refl _ | exact hM4), hs.mono (by first | exact Le.refl _ | exact hM3), inferInstance⟩
end
end Go.Proofs.YtbjnjedfoiedeaaDoor
set_option linter.unusedVariables false
set_option linter.unusedSimpArgs false
set_option linter.constructorNameAsVariable false
namespace Go.Proofs.YtbjnjedfoiedeaaDoor
open Go Go.Eng
section
variable {G : World} {M : Mem} {L : Own}
theorem OnceKeeps_spec (hg : ChG M) (code : UInt8) {NA SA TA : Option Addr} {nl nc sl sc tl tc : Nat} {name sec text : List UInt8} (hname : Bytes M NA nl nc name) (hsec : Bytes M SA sl sc sec) (q : UInt32) (htext : Bytes M TA tl tc text) :
    Con Tryd.prog 8 #[.int .u8 (code.toNat : Int), .agg (List.toArray (seedC NA nl nc SA sl sc)), .agg (List.toArray [.int .u32 (q.toNat : Int), .slice TA tl tc])] G M L (fun v M' L' => v = .bool true) noPanic := by
  have hcl := code.toNat_lt
  obtain ⟨o, eo, ee, oe, ov, _⟩ := otsV_ok code
  obtain ⟨n, w, p, ho⟩ := okO_facts (o := o) ⟨oe, ov⟩
  have hns := hname.size
  have hss := hsec.size
  have hts := htext.size
  refine enter (args := [_, _, _]) (fn := Tryd.f8) ⟨Tryd.func8, rfl, by kernel_rfl, by kernel_rfl⟩ 82 rfl ?_
  refine x_seq (x_region ?_)
  refine tl_e rfl (e_box rfl (fun b1 => ?_))
  refine tl_e rfl (e_box rfl (fun b2 => ?_))
  refine tl_y rfl (y_assign rfl) ?_
  refine tl_nil (.then_normal ?_)
  refine x_seq (x_seq (x_region ?_))
  refine tl_e rfl (e_call' rfl (awake10_spec hg) ?_)
  rintro _ M1 _ hM1 ⟨rfl, rfl⟩
  have hd := hM1
  refine tl_y rfl (y_not rfl) ?_
  refine tl_nil (.then_normal ?_)
  refine .sub (F' := [(0, _), (4, _), (5, _), (15, _)]) (.cons rfl (.cons rfl (.cons rfl (.cons rfl .nil)))) ?_
  refine x_false rfl (rfl) ?_
  refine x_skip (.then_normal ?_)
  refine x_seq (x_region ?_)
  refine tl_y rfl (y_fieldAddr rfl) ?_
  refine tl_y rfl (y_load rfl rfl (.own inferInstance inferInstance)) ?_
  refine tl_y rfl (y_assign (v := .int _ _) rfl) ?_
  refine tl_nil (.then_normal ?_)
  refine x_seq (x_region ?_)
  refine tl_y rfl (y_fieldAddr rfl) ?_
  refine tl_y rfl (y_load rfl rfl (.own inferInstance inferInstance)) ?_
  refine tl_y rfl (y_assign (v := .slice _ _ _) rfl) ?_
  refine tl_nil (.then_normal ?_)
  refine .sub (F' := [(0, _), (4, _), (7, _), (8, _)]) (.cons rfl (.cons rfl (.cons rfl (.cons rfl .nil)))) ?_
  refine x_seq (x_region ?_)
  refine tl_y rfl (y_move (v := .int _ _) rfl) ?_
  refine tl_y rfl (y_convN32 rfl (by omega)) ?_
  refine tl_y rfl (y_remI rfl rfl (by omega)) ?_
  refine tl_y rfl (y_addN32 rfl rfl (by omega)) ?_
  rw [show (1 : Int) + (code.toNat : Int) % 16 = (((UInt32.ofNat (1 + code.toNat % 16)).toNat : Nat) : Int) by rw [UInt32.toNat_ofNat', Nat.mod_eq_of_lt (by omega)]; omega]
  refine tl_e rfl (e_call' rfl (ROts_spec _) ?_)
  rintro _ _ _ _ ⟨rfl, rfl, rfl⟩
  rw [eo, ee]
  refine tl_y rfl (y_move (v := .tuple _) rfl) ?_
  refine tl_y rfl (y_extract rfl) ?_
  refine tl_y rfl (y_extract rfl) ?_
  refine tl_e rfl (e_alloc (fun b3 => ?_))
  refine tl_e rfl (e_store rfl rfl (by rfl) (by rfl) inferInstance inferInstance inferInstance ?_)
  refine tl_y rfl (y_assign (v := .int _ _) rfl) ?_
  refine tl_nil (.then_normal ?_)
  refine .sub (F' := [(4, _), (7, _), (8, _), (9, _), (10, _)]) (.cons rfl (.cons rfl (.cons rfl (.cons rfl (.cons rfl .nil))))) ?_
  refine x_seq (x_seq (x_region ?_))
  refine tl_y rfl (y_move (v := .int _ _) rfl) ?_
  refine tl_y rfl (y_neq rfl rfl) ?_
  refine tl_nil (.then_normal ?_)
  refine x_false rfl (rfl) ?_
  refine x_skip (.then_normal ?_)
  refine x_seq (x_seq (x_region ?_))
  refine tl_y rfl (y_loadAgg rfl rfl (.own inferInstance inferInstance)) ?_
  refine tl_e rfl (e_call' rfl (RoLight_spec o) ?_)
  rintro _ _ _ _ ⟨rfl, rfl, rfl⟩
  refine tl_y rfl (y_notd rfl) ?_
  refine tl_y rfl (y_move (v := .bool _) rfl) ?_
  refine tl_cases (s := 33) rfl (fun hk1 => ?_) (fun hk1 => ?_)
  ·
    refine tl_skip rfl ?_
    refine tl_skip rfl ?_
    refine tl_skip rfl ?_
    refine tl_y rfl (y_pickT rfl rfl) ?_
    refine tl_y rfl (y_move (v := .bool _) rfl) ?_
    refine tl_skip rfl ?_
    refine tl_skip rfl ?_
    refine tl_skip rfl ?_
    refine tl_skip rfl ?_
    refine tl_y rfl (y_pickT rfl rfl) ?_
    refine tl_nil (.then_normal ?_)
    refine .sub (F' := [(4, _), (7, _), (8, _), (9, _), (43, _)]) (.cons rfl (.cons rfl (.cons rfl (.cons rfl (.cons rfl .nil))))) ?_
    refine x_true rfl rfl ?_
    refine x_seq (x_region ?_)
    refine tl_y rfl (y_assign rfl) ?_
    refine tl_nil (.then_normal ?_)
    refine .sub (F' := [(6, _)]) (.cons rfl .nil) ?_
    refine x_ret (.then_ret (ret1 rfl rfl hd rfl))
  ·
    refine tl_y rfl (y_move (v := .slice _ _ _) rfl) ?_
    refine tl_y rfl (y_len rfl) ?_
    refine tl_y rfl (y_gtr rfl rfl) ?_
    refine tl_y rfl (y_pickF rfl rfl) ?_
    refine tl_y rfl (y_move (v := .bool _) rfl) ?_
    refine tl_cases (s := 38) rfl (fun hk2 => ?_) (fun hk2 => ?_)
    ·
      refine tl_skip rfl ?_
      refine tl_skip rfl ?_
      refine tl_skip rfl ?_
      refine tl_skip rfl ?_
      refine tl_y rfl (y_pickT rfl rfl) ?_
      refine tl_nil (.then_normal ?_)
      refine .sub (F' := [(4, _), (7, _), (8, _), (9, _), (43, _)]) (.cons rfl (.cons rfl (.cons rfl (.cons rfl (.cons rfl .nil))))) ?_
      refine x_true rfl rfl ?_
      refine x_seq (x_region ?_)
      refine tl_y rfl (y_assign rfl) ?_
      refine tl_nil (.then_normal ?_)
      refine .sub (F' := [(6, _)]) (.cons rfl .nil) ?_
      refine x_ret (.then_ret (ret1 rfl rfl hd rfl))
    ·
      refine tl_y rfl (y_loadAgg rfl rfl (.own inferInstance inferInstance)) ?_
      refine tl_y rfl (y_loadAgg rfl rfl (.own inferInstance inferInstance)) ?_
      refine tl_e rfl (e_call' rfl (RoMay_spec o) ?_)
      rintro _ _ _ _ ⟨rfl, rfl, rfl⟩
      refine tl_y rfl (y_notd rfl) ?_
      refine tl_y rfl (y_pickF rfl rfl) ?_
      refine tl_nil (.then_normal ?_)
      refine .sub (F' := [(4, _), (7, _), (8, _), (9, _), (43, _)]) (.cons rfl (.cons rfl (.cons rfl (.cons rfl (.cons rfl .nil))))) ?_
      refine x_cond rfl (fun hc3 => ?_) (fun hc3 => ?_)
      ·
        refine x_seq (x_region ?_)
        refine tl_y rfl (y_assign rfl) ?_
        refine tl_nil (.then_normal ?_)
        refine .sub (F' := [(6, _)]) (.cons rfl .nil) ?_
        refine x_ret (.then_ret (ret1 rfl rfl hd rfl))
      ·
        have hy : okY o nl sl := Classical.not_not.1 hc3
        have h16 : name.length = 16 := by have := hy.2.1; omega
        have htl : tl ≤ 2000 := by omega
        obtain ⟨hp1, hp2, hp3, hp4⟩ := sig_parts ho h16 sec q.toNat text
        obtain ⟨hst1, hst2⟩ := sta_sig ho h16 sec q.toNat text (nl := nl) (tl := tl) hy.2.1 (by omega)
        have hkl := keyB_len ho h16 sec q.toNat
        refine x_skip (.then_normal ?_)
        refine x_seq (x_region ?_)
        refine tl_y rfl (y_loadAgg rfl rfl (.own inferInstance inferInstance)) ?_
        refine tl_y rfl (y_loadAgg rfl rfl (.own inferInstance inferInstance)) ?_
        refine tl_y rfl (y_move (v := .int _ _) rfl) ?_
        refine tl_y rfl (y_move (v := .slice _ _ _) rfl) ?_
        refine tl_e rfl (e_call' rfl (oSign_spec (hg.mono hd) o (hname.mono hd) (hsec.mono hd) q (htext.mono hd)) ?_)
        rintro _ M4 _ hM4 ⟨rfl, A4, m4, c4, rfl, hA4⟩
        rw [if_pos ⟨hy, by omega⟩] at hA4
        have hm4 := hA4.size
        rw [hp1] at hm4
        replace hd := hd.trans hM4
        refine tl_y rfl (y_assign (v := .slice _ _ _) rfl) ?_
        refine tl_nil (.then_normal ?_)
        refine .sub (F' := [(4, _), (7, _), (8, _), (9, _), (11, _)]) (.cons rfl (.cons rfl (.cons rfl (.cons rfl (.cons rfl .nil))))) ?_
        refine x_seq (x_region ?_)
        refine tl_y rfl (y_fieldAddr rfl) ?_
        refine tl_y rfl (y_load rfl rfl (.own inferInstance inferInstance)) ?_
        refine tl_y rfl (y_move (v := .int _ _) rfl) ?_
        refine tl_y rfl (y_move (v := .slice _ _ _) rfl) ?_
        refine tl_y rfl (y_move (v := .slice _ _ _) rfl) ?_
        refine tl_e rfl (e_call' rfl (oStands_spec (hg.mono hd) (hname.mono hd) q (htext.mono hd) hA4) ?_)
        rintro _ M6 _ hM6 ⟨rfl, A6, m6, c6, rfl, hA6⟩
        rw [hst2] at hA6
        rw [hst1]
        have hm6 := hA6.size
        rw [hkl] at hm6
        replace hd := hd.trans hM6
        refine tl_y rfl (y_move (v := .tuple _) rfl) ?_
        refine tl_y rfl (y_extract rfl) ?_
        refine tl_y rfl (y_extract rfl) ?_
        refine tl_y rfl (y_assign (v := .slice _ _ _) rfl) ?_
        refine tl_y rfl (y_assign (v := .int _ _) rfl) ?_
        refine tl_nil (.then_normal ?_)
        refine .sub (F' := [(4, _), (7, _), (9, _), (11, _), (12, _), (13, _)]) (.cons rfl (.cons rfl (.cons rfl (.cons rfl (.cons rfl (.cons rfl .nil)))))) ?_
        refine x_seq (x_region ?_)
        refine tl_y rfl (y_move (v := .slice _ _ _) rfl) ?_
        refine tl_y rfl (y_len rfl) ?_
        refine tl_y rfl (y_loadAgg rfl rfl (.own inferInstance inferInstance)) ?_
        refine tl_e rfl (e_call' rfl (oSize_spec o ho) ?_)
        rintro _ _ _ _ ⟨rfl, rfl, rfl⟩
        refine tl_y rfl (y_eql rfl rfl) ?_
        refine tl_y rfl (y_move (v := .bool _) rfl) ?_
        refine tl_set (s := 63) (u := .bool true) rfl (congrArg Value.bool (decide_eq_true (by rw [← hm4]))) ?_
        refine tl_y rfl (y_move (v := .int _ _) rfl) ?_
        refine tl_y rfl (y_eql rfl rfl) ?_
        refine tl_y rfl (y_pickT rfl rfl) ?_
        refine tl_y rfl (y_move (v := .bool _) rfl) ?_
        refine tl_set (s := 67) (u := .bool true) rfl (rfl) ?_
        refine tl_y rfl (y_move (v := .slice _ _ _) rfl) ?_
        refine tl_y rfl (y_len rfl) ?_
        refine tl_y rfl (y_fieldAddr rfl) ?_
        refine tl_y rfl (y_load rfl rfl (.own inferInstance inferInstance)) ?_
        refine tl_y rfl (y_eql rfl rfl) ?_
        refine tl_y rfl (y_pickT rfl rfl) ?_
        refine tl_y rfl (y_move (v := .bool _) rfl) ?_
        refine tl_set (s := 74) (u := .bool true) rfl (congrArg Value.bool (decide_eq_true (by rw [ho.hn, ← hm6]))) ?_
        refine tl_y rfl (y_move (v := .slice _ _ _) rfl) ?_
        refine tl_y rfl (y_loadAgg rfl rfl (.own inferInstance inferInstance)) ?_
        refine tl_y rfl (y_loadAgg rfl rfl (.own inferInstance inferInstance)) ?_
        refine tl_y rfl (y_move (v := .int _ _) rfl) ?_
        refine tl_e rfl (e_call' rfl (oKey_spec (hg.mono hd) o (hname.mono hd) (hsec.mono hd) q) ?_)
        rintro _ M11 _ hM11 ⟨rfl, A11, m11, c11, rfl, hA11⟩
        rw [if_pos hy] at hA11
        replace hd := hd.trans hM11
        refine tl_e rfl (e_call' rfl (same_spec (hA6.mono hM11) hA11) ?_)
        rintro _ _ _ _ ⟨rfl, rfl, rfl⟩
        refine tl_y rfl (y_pickT rfl rfl) ?_
        refine tl_y rfl (y_assign (v := .bool _) rfl) ?_
        refine tl_nil (.then_normal ?_)
        refine .sub (F' := [(6, _)]) (.cons rfl .nil) ?_
        refine x_ret (ret1 rfl rfl hd (congrArg Value.bool (decide_eq_true rfl)))
theorem OnceRows_spec (hg : ChG M) {NA SA TA : Option Addr} {nl nc sl sc tl tc : Nat} {name sec text : List UInt8} (hname : Bytes M NA nl nc name) (hsec : Bytes M SA sl sc sec) (q : UInt32) (htext : Bytes M TA tl tc text) :
    Con Tryd.prog 10 #[.agg (List.toArray (seedC NA nl nc SA sl sc)), .int .u32 (q.toNat : Int), .slice TA tl tc] G M L (fun v M' L' => v = .bool true) noPanic := by
  obtain ⟨o, eo, ho⟩ := f10
  have hns := hname.size
  have hss := hsec.size
  have hts := htext.size
  have hn24 := ho.hn
  refine enter (args := [_, _, _]) (fn := Tryd.f10) ⟨Tryd.func10, rfl, by kernel_rfl, by kernel_rfl⟩ 96 rfl ?_
  refine x_seq (x_region ?_)
  refine tl_e rfl (e_box rfl (fun b1 => ?_))
  refine tl_y rfl (y_assign rfl) ?_
  refine tl_nil (.then_normal ?_)
  refine x_seq (x_seq (x_region ?_))
  refine tl_e rfl (e_call' rfl (awake10_spec hg) ?_)
  rintro _ M1 _ hM1 ⟨rfl, rfl⟩
  have hd := hM1
  refine tl_y rfl (y_not rfl) ?_
  refine tl_nil (.then_normal ?_)
  refine x_false rfl (rfl) ?_
  refine x_skip (.then_normal ?_)
  refine x_seq (x_region ?_)
  refine tl_e rfl (e_call' rfl (ROts_spec 7) ?_)
  rintro _ _ _ _ ⟨rfl, rfl, rfl⟩
  rw [eo]
  refine tl_y rfl (y_move (v := .tuple _) rfl) ?_
  refine tl_y rfl (y_extract rfl) ?_
  refine tl_y rfl (y_extract rfl) ?_
  refine tl_e rfl (e_alloc (fun b2 => ?_))
  refine tl_e rfl (e_store rfl rfl (by rfl) (by rfl) inferInstance inferInstance inferInstance ?_)
  refine tl_y rfl (y_assign (v := .int _ _) rfl) ?_
  refine tl_nil (.then_normal ?_)
  refine .sub (F' := [(1, _), (2, _), (3, _), (6, _), (7, _)]) (.cons rfl (.cons rfl (.cons rfl (.cons rfl (.cons rfl .nil))))) ?_
  refine x_seq (x_seq (x_region ?_))
  refine tl_y rfl (y_loadAgg rfl rfl (.own inferInstance inferInstance)) ?_
  refine tl_y rfl (y_loadAgg rfl rfl (.own inferInstance inferInstance)) ?_
  refine tl_e rfl (e_call' rfl (oMay_spec (hg.mono hd).set o) ?_)
  rintro _ M2 _ hM2 ⟨rfl, rfl⟩
  replace hd := hd.trans hM2
  refine tl_y rfl (y_notd rfl) ?_
  refine tl_y rfl (y_move (v := .bool _) rfl) ?_
  refine tl_cases (s := 23) rfl (fun hk1 => ?_) (fun hk1 => ?_)
  ·
    refine tl_skip rfl ?_
    refine tl_skip rfl ?_
    refine tl_skip rfl ?_
    refine tl_y rfl (y_pickT rfl rfl) ?_
    refine tl_nil (.then_normal ?_)
    refine .sub (F' := [(1, _), (2, _), (3, _), (6, _), (7, _), (27, _)]) (.cons rfl (.cons rfl (.cons rfl (.cons rfl (.cons rfl (.cons rfl .nil)))))) ?_
    refine x_true rfl rfl ?_
    refine x_seq (x_region ?_)
    refine tl_y rfl (y_assign rfl) ?_
    refine tl_nil (.then_normal ?_)
    refine .sub (F' := [(6, _)]) (.cons rfl .nil) ?_
    refine x_ret (.then_ret (ret1 rfl rfl hd rfl))
  ·
    refine tl_y rfl (y_move (v := .slice _ _ _) rfl) ?_
    refine tl_y rfl (y_len rfl) ?_
    refine tl_y rfl (y_gtr rfl rfl) ?_
    refine tl_y rfl (y_pickF rfl rfl) ?_
    refine tl_nil (.then_normal ?_)
    refine .sub (F' := [(1, _), (2, _), (3, _), (6, _), (7, _), (27, _)]) (.cons rfl (.cons rfl (.cons rfl (.cons rfl (.cons rfl (.cons rfl .nil)))))) ?_
    refine x_cond rfl (fun hc2 => ?_) (fun hc2 => ?_)
    ·
      refine x_seq (x_region ?_)
      refine tl_y rfl (y_assign rfl) ?_
      refine tl_nil (.then_normal ?_)
      refine .sub (F' := [(6, _)]) (.cons rfl .nil) ?_
      refine x_ret (.then_ret (ret1 rfl rfl hd rfl))
    ·
      have hy : okY o nl sl := Classical.not_not.1 hk1
      have h16 : name.length = 16 := by have := hy.2.1; omega
      obtain ⟨hp1, hp2, hp3, hp4⟩ := sig_parts ho h16 sec q.toNat text
      obtain ⟨hz1, hz2, hz3⟩ := ho.size
      obtain ⟨hdl, hdd⟩ := digO_get ho name q.toNat (saltB o name sec q.toNat) text
      refine x_skip (.then_normal ?_)
      refine x_seq (x_region ?_)
      refine tl_y rfl (y_loadAgg rfl rfl (.own inferInstance inferInstance)) ?_
      refine tl_y rfl (y_loadAgg rfl rfl (.own inferInstance inferInstance)) ?_
      refine tl_y rfl (y_move (v := .int _ _) rfl) ?_
      refine tl_y rfl (y_move (v := .slice _ _ _) rfl) ?_
      refine tl_e rfl (e_call' rfl (oSign_spec (hg.mono hd) o (hname.mono hd) (hsec.mono hd) q (htext.mono hd)) ?_)
      rintro _ M4 _ hM4 ⟨rfl, A4, m4, c4, rfl, hA4⟩
      rw [if_pos ⟨hy, by omega⟩] at hA4
      have hm4 := hA4.size
      have hc4 := hA4.le
      rw [hp1] at hm4
      replace hd := hd.trans hM4
      refine tl_y rfl (y_assign (v := .slice _ _ _) rfl) ?_
      refine tl_nil (.then_normal ?_)
      refine .sub (F' := [(1, _), (2, _), (3, _), (6, _), (7, _), (9, _)]) (.cons rfl (.cons rfl (.cons rfl (.cons rfl (.cons rfl (.cons rfl .nil)))))) ?_
      refine x_seq (x_seq (x_region ?_))
      refine tl_y rfl (y_move (v := .slice _ _ _) rfl) ?_
      refine tl_y rfl (y_len rfl) ?_
      refine tl_y rfl (y_loadAgg rfl rfl (.own inferInstance inferInstance)) ?_
      refine tl_e rfl (e_call' rfl (oSize_spec o ho) ?_)
      rintro _ _ _ _ ⟨rfl, rfl, rfl⟩
      refine tl_y rfl (y_neq rfl rfl) ?_
      refine tl_nil (.then_normal ?_)
      refine .sub (F' := [(1, _), (2, _), (3, _), (6, _), (7, _), (9, _), (37, _)]) (.cons rfl (.cons rfl (.cons rfl (.cons rfl (.cons rfl (.cons rfl (.cons rfl .nil))))))) ?_
      refine x_false rfl (decide_eq_false (by rw [← hm4]; exact fun h => h rfl)) ?_
      refine x_skip (.then_normal ?_)
      refine x_seq ?_
      have hsalt := Bytes.sub hA4 4 28 (by omega) (by omega)
      rw [show 28 - 4 = 24 from rfl, hp3] at hsalt
      have hsll : (saltB o name sec q.toNat).length = 24 := hsalt.size
      have he : Le M4 M4 := Le.refl _
      refine x_draw 14 hmix rfl ?_
      refine to_p 0 rfl (by kernel_rfl) rfl (y_fieldAddr rfl) ?_
      refine to_y 1 rfl (by kernel_rfl) rfl (y_load rfl rfl (.own inferInstance inferInstance)) ?_
      refine to_p 2 rfl (by kernel_rfl) rfl (y_fieldAddr rfl) ?_
      refine to_y 3 rfl (by kernel_rfl) rfl (y_load rfl rfl (.own inferInstance inferInstance)) ?_
      refine to_p 4 rfl (by kernel_rfl) rfl (y_fieldAddr rfl) ?_
      refine to_y 5 rfl (by kernel_rfl) rfl (y_load rfl rfl (.own inferInstance inferInstance)) ?_
      refine to_p 6 rfl (by kernel_rfl) rfl (y_move (v := .int _ _) rfl) ?_
      refine to_p 7 rfl (by kernel_rfl) rfl (y_move (v := .slice _ _ _) rfl) ?_
      refine to_p 8 rfl (by kernel_rfl) rfl (y_sliceLH rfl rfl rfl (by omega) (by omega)) ?_
      refine to_p 9 rfl (by kernel_rfl) rfl (y_move (v := .slice _ _ _) rfl) ?_
      refine to_e 10 rfl (by kernel_rfl) rfl (e_buildSlice rfl (by decide) (fun b7 => ?_))
      refine ⟨⟨he, Keeps.mem⟩, ?_⟩
      refine .pub b7 inferInstance (fun M5 hM5 hb7 => ?_)
      replace he := he.trans hM5
      replace hd := hd.trans hM5
      refine to_e 11 rfl (by kernel_rfl) rfl (e_call' rfl (Part_spec (hg.mono hd).sha (hg.mono hd).kec o.kind o.n (hname.mono hd) q 33153 (by omega) (Row.whole hb7 rfl (by omega)) (.cons (hsalt.mono he) (.cons (htext.mono hd) .nil)) (by simp only [List.flatten_cons, List.flatten_nil, List.length_append, List.length_nil]; omega)) ?_)
      rintro _ M6 _ hM6 ⟨rfl, A6, m6, c6, rfl, hA6⟩
      rw [show [saltB o name sec q.toNat, text].flatten = saltB o name sec q.toNat ++ text by simp] at hA6
      replace he := he.trans hM6
      replace hd := hd.trans hM6
      have hm6 := hA6.size
      rw [cPartO_len ho h16] at hm6
      subst hm6
      refine ⟨⟨(by first | exact Le.refl _ | assumption), Keeps.mem⟩, ?_⟩
      refine to_e 12 rfl (by kernel_rfl) rfl (e_call' rfl (All7_spec (w := 4) ho.isn ho.isw hA6) ?_)
      rintro _ M7 _ hM7 ⟨rfl, A7, c7, rfl, hr7⟩
      replace he := he.trans hM7
      replace hd := hd.trans hM7
      have hr7' : Row M7 1 A7 51 c7 (intsL (digO o name q.toNat (saltB o name sec q.toNat) text)) := by
        rw [digO, ho.hn, ho.hw, Int.toNat_natCast, Int.toNat_natCast]
        rw [ho.hn] at hr7
        exact hr7
      rw [show shU 24 4 + shV 24 4 = 51 from ho.up.symm]
      obtain ⟨gd, od, rfl, hcd⟩ := hr7'.addr (by omega)
      refine ⟨⟨(by first | exact Le.refl _ | assumption), Keeps.mem⟩, ?_⟩
      refine to_p 13 rfl (by kernel_rfl) rfl (y_assign (v := .slice _ _ _) rfl) ?_
      refine to_nil (by kernel_rfl) (.then_normal ?_)
      refine .sub (F' := [(1, _), (3, _), (6, _), (7, _), (9, _), (10, _)]) (.cons rfl (.cons rfl (.cons rfl (.cons rfl (.cons rfl (.cons rfl .nil)))))) ?_
      refine x_seq (x_seq (x_region ?_))
      refine tl_y rfl (y_assign rfl) ?_
      refine tl_nil (.then_normal ?_)
      refine x_block ?_
      refine x_loop (I := fun m' F D M8 L8 => ∃ i : Nat, m' = 51 - i ∧ i ≤ 51 ∧ Le M7 M8 ∧ D = [] ∧ DropTo L8 ((b2, .cells (List.toArray o.cells) 62 (0, 0)) :: (b1, .cells (List.toArray (seedC NA nl nc SA sl sc)) 58 (0, 0)) :: L) ∧ F = [(1, .int .u32 (q.toNat : Int)), (3, .pointer (some ⟨b1, 0, none⟩)), (6, .bool false), (7, .pointer (some ⟨b2, 0, none⟩)), (9, .slice A4 m4 c4), (10, .slice (some ⟨gd, od, none⟩) 51 c7), (11, .int .i64 (i : Int))]) (51) (F0 := [(1, _), (3, _), (6, _), (7, _), (9, _), (10, _), (11, _)]) ?_ (.cons rfl (.cons rfl (.cons rfl (.cons rfl (.cons rfl (.cons rfl (.cons rfl .nil))))))) ?_  -- slots [1, 3, 6, 7, 9, 10, 11], written [6, 11]
      · exact ⟨0, rfl, by omega, Le.refl _, rfl, inferInstance, rfl⟩
      rintro m _ _ M8 L8 ⟨i, rfl, hi, he8, rfl, hdr, rfl⟩
      refine .dropTo _ hdr ?_
      have hd8 := hd.trans he8
      have h48 := he.trans he8
      refine x_seq (x_seq (x_region ?_))
      refine tl_y rfl (y_move (v := .int _ _) rfl) ?_
      refine tl_y rfl (y_fieldAddr rfl) ?_
      refine tl_y rfl (y_load (v := .int .i64 ((51 : Nat) : Int)) rfl rfl (by rw [← ho.hp]; exact .own inferInstance inferInstance)) ?_
      refine tl_y rfl (y_lss rfl rfl) ?_
      refine tl_nil (.then_normal ?_)
      refine x_cond rfl (fun hc4 => ?_) (fun hc4 => ?_)
      ·
        have hil : i < 51 := by omega
        obtain ⟨gd', od', hgd, hcd8⟩ := (hr7'.mono he8).addr (by omega)
        obtain ⟨rfl, rfl⟩ : gd = gd' ∧ od = od' := by simpa using hgd
        refine x_skip (.then_normal ?_)
        refine .sub (F' := [(1, _), (3, _), (6, _), (7, _), (9, _), (10, _), (11, _)]) (.cons rfl (.cons rfl (.cons rfl (.cons rfl (.cons rfl (.cons rfl (.cons rfl .nil))))))) ?_
        refine x_seq ?_
        refine x_block ?_
        refine x_seq ?_
        have he9 : Le M8 M8 := Le.refl _
        refine x_draw 17 hmix rfl ?_
        refine to_y 0 rfl (by kernel_rfl) rfl (y_loadAgg rfl rfl (.own inferInstance inferInstance)) ?_
        refine to_p 1 rfl (by kernel_rfl) rfl (y_fieldAddr rfl) ?_
        refine to_y 2 rfl (by kernel_rfl) rfl (y_load rfl rfl (.own inferInstance inferInstance)) ?_
        refine to_p 3 rfl (by kernel_rfl) rfl (y_move (v := .int _ _) rfl) ?_
        refine to_p 4 rfl (by kernel_rfl) rfl (y_move (v := .int _ _) rfl) ?_
        refine to_p 5 rfl (by kernel_rfl) rfl (y_move (v := .slice _ _ _) rfl) ?_
        refine to_p 6 rfl (by kernel_rfl) rfl (y_move (v := .int _ _) rfl) ?_
        refine to_p 7 rfl (by kernel_rfl) rfl (y_indexAddrK i rfl rfl (by omega)) ?_
        refine to_y 8 rfl (by kernel_rfl) rfl (y_load rfl rfl (.at_ (hcd8 _ i _ (intsL_at (by omega))) (by omega))) ?_
        refine to_y 9 rfl (by kernel_rfl) rfl (y_loadAgg rfl rfl (.own inferInstance inferInstance)) ?_
        refine to_y 10 rfl (by kernel_rfl) rfl (y_loadAgg rfl rfl (.own inferInstance inferInstance)) ?_
        refine to_p 11 rfl (by kernel_rfl) rfl (y_move (v := .int _ _) rfl) ?_
        refine to_p 12 rfl (by kernel_rfl) rfl (y_move (v := .int _ _) rfl) ?_
        refine to_p 13 rfl (by kernel_rfl) rfl (y_convE (b := (i : Int)) rfl (by rw [wrapU16]; omega)) ?_
        refine to_e 14 rfl (by kernel_rfl) rfl (e_call' rfl (oSecret_spec (hg.mono hd8) o (hname.mono hd8) (hsec.mono hd8) q i (by omega)) ?_)
        rintro _ M9 _ hM9 ⟨rfl, A9, m9, c9, rfl, hA9⟩
        rw [if_pos hy] at hA9
        replace he9 := he9.trans hM9
        have hd9 := hd8.trans hM9
        refine ⟨⟨(by first | exact Le.refl _ | assumption), Keeps.mem⟩, ?_⟩
        refine to_e 15 rfl (by kernel_rfl) rfl (e_call' rfl (Up_spec' (hg.mono hd9).sha (hg.mono hd9).kec (hg.mono hd9).set o (hname.mono hd9) hA9 q i 0 (((digO o name q.toNat (saltB o name sec q.toNat) text).getD i 0 : Nat) : Int)) ?_)
        rintro _ M10 _ hM10 ⟨rfl, A10, m10, c10, rfl, hA10⟩
        replace he9 := he9.trans hM10
        have hd10 := hd9.trans hM10
        have hsub := Bytes.sub (hA4.mono (h48.trans he9)) (28 + 24 * i) (52 + 24 * i) (by omega) (by omega)
        have hrow : (((sigB o name sec q.toNat text).drop (28 + 24 * i)).take (52 + 24 * i - (28 + 24 * i))) = sigR o name sec q.toNat (digO o name q.toNat (saltB o name sec q.toNat) text) i := by
          rw [show 28 + 24 * i = (4 + 24) + i * 24 by omega, ← List.drop_drop, hp4, show 52 + 24 * i - (4 + 24 + i * 24) = 24 by omega]
          exact catR_row (fun j hj => sigR_len ho h16 sec q.toNat hdd hdl hj) hil
        rw [hrow] at hsub
        refine ⟨⟨(by first | exact Le.refl _ | assumption), Keeps.mem⟩, ?_⟩
        refine to_p 16 rfl (by kernel_rfl) rfl (y_assign (v := .slice _ _ _) rfl) ?_
        refine to_nil (by kernel_rfl) (.then_normal ?_)
        refine .sub (F' := [(1, _), (3, _), (6, _), (7, _), (9, _), (10, _), (11, _), (12, _)]) (.cons rfl (.cons rfl (.cons rfl (.cons rfl (.cons rfl (.cons rfl (.cons rfl (.cons rfl .nil)))))))) ?_
        refine x_seq (x_region ?_)
        refine tl_y rfl (y_move (v := .slice _ _ _) rfl) ?_
        refine tl_y rfl (y_move (v := .slice _ _ _) rfl) ?_
        refine tl_y rfl (y_move (v := .int _ _) rfl) ?_
        refine tl_y rfl (y_mulI rfl rfl (by omega)) ?_
        refine tl_y rfl (y_addI rfl rfl (by omega)) ?_
        refine tl_y rfl (y_move (v := .int _ _) rfl) ?_
        refine tl_y rfl (y_mulI rfl rfl (by omega)) ?_
        refine tl_y rfl (y_addI rfl rfl (by omega)) ?_
        refine tl_y rfl (y_sliceLH rfl rfl rfl (by omega) (by omega)) ?_
        rw [show ((28 : Int) + 24 * (i : Int)).toNat = 28 + 24 * i by omega, show ((52 : Int) + 24 * (i : Int)).toNat = 52 + 24 * i by omega]
        refine tl_e rfl (e_call' rfl (same_spec hA10 hsub) ?_)
        rintro _ _ _ _ ⟨rfl, rfl, rfl⟩
        refine tl_y rfl (y_not rfl) ?_
        refine tl_nil (.then_normal ?_)
        refine .sub (F' := [(1, _), (3, _), (6, _), (7, _), (9, _), (10, _), (11, _), (83, _)]) (.cons rfl (.cons rfl (.cons rfl (.cons rfl (.cons rfl (.cons rfl (.cons rfl (.cons rfl .nil)))))))) ?_
        refine x_false rfl (by rw [decide_eq_true]; rfl; rfl) ?_
        refine x_skip (.block_normal (.then_normal ?_))
        refine x_region ?_
        refine tl_y rfl (y_move (v := .int _ _) rfl) ?_
        refine tl_y rfl (y_addI rfl rfl (by omega)) ?_
        refine tl_y rfl (y_assign (v := .int _ _) rfl) ?_
        refine tl_nil (.loop_next (m' := 51 - (i + 1)) (by omega) (F' := [(1, _), (3, _), (6, _), (7, _), (9, _), (10, _), (11, _)]) (.cons rfl (.cons rfl (.cons rfl (.cons rfl (.cons rfl (.cons rfl (.cons rfl .nil))))))) ?_)
        exact ⟨i + 1, rfl, by omega, he8.trans he9, rfl, inferInstance, rfl⟩
      ·
        obtain rfl : i = 51 := by omega
        have hsalt8 := hsalt.mono h48
        refine x_exit (.then_exit (.loop_exit (.block_exit (.then_normal ?_))))
        refine .sub (F' := [(1, _), (3, _), (7, _), (9, _), (10, _)]) (.cons rfl (.cons rfl (.cons rfl (.cons rfl (.cons rfl .nil))))) ?_
        refine x_seq ?_
        refine x_draw0 13 ([(b2, .cells (List.toArray o.cells) 62 (0, 0)), (b1, .cells (List.toArray (seedC NA nl nc SA sl sc)) 58 (0, 0))]) Keeps.mem hmix rfl ?_
        refine to_p 0 rfl (by kernel_rfl) rfl (y_move (v := .slice _ _ _) rfl) ?_
        refine to_p 1 rfl (by kernel_rfl) rfl (y_len rfl) ?_
        refine to_p 2 rfl (by kernel_rfl) rfl (y_eql rfl rfl) ?_
        refine to_p 3 rfl (by kernel_rfl) rfl (y_move (v := .bool _) rfl) ?_
        refine to_set (s := 87) (u := .bool true) rfl (rfl) ?_
        refine to_p 4 rfl (by kernel_rfl) rfl (y_move (v := .slice _ _ _) rfl) ?_
        refine to_p 5 rfl (by kernel_rfl) rfl (y_sliceLH rfl rfl rfl (by omega) (by omega)) ?_
        refine to_y 6 rfl (by kernel_rfl) rfl (y_loadAgg rfl rfl (.own inferInstance inferInstance)) ?_
        refine to_y 7 rfl (by kernel_rfl) rfl (y_loadAgg rfl rfl (.own inferInstance inferInstance)) ?_
        refine to_p 8 rfl (by kernel_rfl) rfl (y_move (v := .int _ _) rfl) ?_
        refine to_e 9 rfl (by kernel_rfl) rfl (e_call' rfl (oSecret_spec (hg.mono hd8) o (hname.mono hd8) (hsec.mono hd8) q 65533 (by omega)) ?_)
        rintro _ M9 _ hM9 ⟨rfl, A9, m9, c9, rfl, hA9⟩
        rw [if_pos hy] at hA9
        have hd9 := hd8.trans hM9
        refine ⟨⟨(by first | exact Le.refl _ | assumption), Keeps.mem⟩, ?_⟩
        refine to_e 10 rfl (by kernel_rfl) rfl (e_call' rfl (same_spec (hsalt8.mono hM9) hA9) ?_)
        rintro _ _ _ _ ⟨rfl, rfl, rfl⟩
        refine ⟨⟨(by first | exact Le.refl _ | assumption), Keeps.mem⟩, ?_⟩
        refine to_p 11 rfl (by kernel_rfl) rfl (y_pickT rfl rfl) ?_
        refine to_p 12 rfl (by kernel_rfl) rfl (y_assign (v := .bool _) rfl) ?_
        refine to_nil (by kernel_rfl) (.then_normal ?_)
        refine .sub (F' := [(6, _)]) (.cons rfl .nil) ?_
        refine x_ret (ret1 rfl rfl hd9 (congrArg Value.bool (decide_eq_true rfl)))
end
end Go.Proofs.YtbjnjedfoiedeaaDoor
set_option linter.unusedVariables false
set_option linter.unusedSimpArgs false
namespace Go.Proofs.YtbjnjedfoiedeaaDoor
open Go Go.Eng
section
variable {P : Program} {n : Nat} {Q : Post} {F : Fr} {D : List Deferred} {G : World} {M : Mem} {L : Own} {d : Option Tmp} {ty : TypeId} {K : Fr → List Deferred → Mem → Own → Prop}
theorem zeroC_rep (z : Value) (m : Nat) : (Builtin.zeroCells #[z] m) = (List.replicate m z).toArray := zeroCells_one m
theorem run_appendZ {w : World} {t ti2 e : TypeId} {z z0 z2 : Value} {b0 s0 b00 s2 b2 : Nat} {de : TypeDesc} (ti : TI P t (.slice e) z0 s0 b00) (te : TI P e de z 1 b0) (t2 : TI P ti2 (.int .i64) z2 s2 b2) (tc : z.cells = #[z]) (ho1 : one z = true) {E R : Own} {A : Option Addr} {nn cap m : Nat} {vs : List Value} (ho : OwnRow e 1 A nn cap vs E) (hw : St G M (E ++ R) w)
    (hA : nn ≤ 140737488355328) (hm : m ≤ 140737488355328) (hby : (nn + m) * b0 ≤ 140737488355328) :
    ∃ A' cap' E' w', (Builtin.append_ #[t, ti2] ty #[.slice A nn cap, .int .i64 (m : Int)]).run P w = .ok (.slice A' (nn + m) cap') w' ∧ OwnRow e 1 A' (nn + m) cap' (vs ++ List.replicate m z) E' ∧ St G M (E' ++ R) w' := by
  obtain ⟨j, hj, hjz, hjs, hjb⟩ := te.parts
  subst hjb
  have hwrap : IntKind.i64.wrap (m : Int) = m := IntWalk.i64_in _ (by omega)
  have k0 : ¬ ((m : Int) < 0) := by omega
  have hmb : m * j.bytes ≤ 140737488355328 := Nat.le_trans (Nat.mul_le_mul_right _ (by omega)) hby
  have kb : (m : Int) * (j.bytes : Int) = ((m * j.bytes : Nat) : Int) := by simp
  have kk : ¬ (((m : Int) * (j.bytes : Int)) > 281474976710656) := by rw [kb]; omega
  have hall : (List.replicate m z).all one = true := by rw [List.all_eq_true]; intro v hv; rw [List.eq_of_mem_replicate hv]; exact ho1
  have holds : ∀ dr, (Builtin.firstCells 1 nn (.slice A nn cap)).run P { w with drawn := dr } = .ok vs.toArray { w with drawn := dr } := by
    intro dr
    refine run_firstCells ho.len fun hp => ?_
    cases ho with
    | nil => simp at hp
    | @row g _ _ pre _ slack k1 k2 k3 k4 =>
      refine ⟨_, rfl, fun i v hi => ?_⟩
      rw [add_plain]
      refine cell_of (w := { w with drawn := dr }) (hw.own _ List.mem_cons_self).1 ?_
      rw [List.getElem?_toArray, List.getElem?_append_right (by omega), Nat.add_sub_cancel_left, List.getElem?_append_left (List.getElem?_eq_some_iff.1 hi).1]
      exact hi
  by_cases hroom : nn + m ≤ cap
  · cases ho with
    | nil =>
      obtain rfl : m = 0 := by omega
      refine ⟨none, 0, [], w, ?_, by simpa using OwnRow.nil, hw⟩
      have w0 : IntKind.i64.wrap 0 = 0 := rfl
      simp [Builtin.append_, run_underlying ti.und, run_underlying t2.und, sizeOf, typeInfo, hj, asInt, asIntOf, w0]
    | @row g _ _ pre _ slack k1 k2 k3 k4 =>
      have hg := (hw.own _ (show (g, Obj.cells (pre ++ (vs ++ slack)).toArray e (0, 0)) ∈ _ from List.mem_cons_self)).1
      simp only [List.length_append] at k2
      have hfit : pre.length + nn + 0 + (List.replicate m z).length ≤ (pre ++ (vs ++ slack)).toArray.size := by simp; omega
      have hst := run_storeCells_at P g (pre.length + nn) e (List.replicate m z) 0 (pre ++ (vs ++ slack)).toArray w hg hfit (fun u hu => List.all_eq_true.1 hall u hu)
      simp only [Nat.add_zero] at hst
      have hrow : ((pre ++ (vs ++ slack)).toArray.toList.take (pre.length + nn) ++ List.replicate m z ++ (pre ++ (vs ++ slack)).toArray.toList.drop (pre.length + nn + (List.replicate m z).length)) = pre ++ ((vs ++ List.replicate m z) ++ slack.drop (List.replicate m z).length) := by
        have k1' : nn = vs.length := by omega
        simp only []
        rw [List.take_append, List.take_of_length_le (by omega : pre.length ≤ _), Nat.add_sub_cancel_left, k1', List.take_left, Nat.add_assoc, List.drop_append, List.drop_of_length_le (by omega : pre.length ≤ _), Nat.add_sub_cancel_left, List.drop_append, List.drop_of_length_le (by omega : vs.length ≤ _), Nat.add_sub_cancel_left]
        simp
      rw [hrow] at hst
      refine ⟨some ⟨g, pre.length, none⟩, cap, [(g, .cells (pre ++ ((vs ++ List.replicate m z) ++ slack.drop (List.replicate m z).length)).toArray e (0, 0))], w.setRow g (pre ++ ((vs ++ List.replicate m z) ++ slack.drop (List.replicate m z).length)).toArray, ?_, ?_, ?_⟩
      · by_cases hm0 : m = 0
        · subst hm0
          have w0 : IntKind.i64.wrap 0 = 0 := rfl
          simp only [List.replicate_zero] at hst ⊢
          simp [Builtin.append_, run_underlying ti.und, run_underlying t2.und, sizeOf, typeInfo, hj, hjs, asInt, asIntOf, k3, w0, add_plain]
          simp at hst
          simp [hst]
        · have e1 : ¬ (m * 1 = 0) := by omega
          simp [Builtin.append_, run_underlying ti.und, run_underlying t2.und, sizeOf, typeInfo, zeroValue, hj, hjz, hjs, asInt, asIntOf, hwrap, k0, kk, hm0, hroom, tc, zeroC_rep, add_plain, hst]
      · refine OwnRow.row (by simp; omega) ?_ hroom k4
        simp; omega
      · exact St.set hw rfl rfl rfl (setRow_heap w g _ _ e _ hg) (fun i hi => setRow_other w g i _ hi)
  · have h63' : ¬ ((nn + m : Nat) : Int) > IntKind.i64.max := by simp [IntKind.max, IntKind.signed, IntKind.bits]; omega
    have hle := ho.le
    have hm0 : ¬ m = 0 := by omega
    have hfit : ¬ (Builtin.nextslicecap (nn + m) cap * j.bytes > 2 ^ 48) := by
      have := growslice_fits (need := nn + m) (old := cap) (bytes := j.bytes) (by omega) hby
      omega
    have hcap := grownCap_ge w (nn + m) cap e
    have hcapm := grownCap_le_maxLen w (nn + m) cap e (by simp only [maxLen]; omega)
    simp only [maxLen] at hcapm
    refine ⟨some ⟨w.heap.size, 0, none⟩, grownCap w (nn + m) cap e, [(w.heap.size, .cells ([] ++ ((vs ++ List.replicate m z) ++ List.replicate (grownCap w (nn + m) cap e - (nn + m)) z)).toArray e (0, 0))],
      { w with drawn := w.drawn + 1, heap := w.heap.push (.cells ([] ++ ((vs ++ List.replicate m z) ++ List.replicate (grownCap w (nn + m) cap e - (nn + m)) z)).toArray e (0, 0)) }, ?_, ?_, ?_⟩
    · have h2 : (Builtin.firstCells 1 nn (.slice A nn cap)).run P w.drew = .ok vs.toArray w.drew := holds (w.drawn + 1)
      have k1 : ¬ (9223372036854775807 < ((nn : Int) + (m : Int))) := by omega
      have k2 : ¬ (281474976710656 < Builtin.nextslicecap (nn + m) cap * j.bytes) := by omega
      simp [Builtin.append_, run_underlying ti.und, run_underlying t2.und, sizeOf, typeInfo, zeroValue, hj, hjz, hjs, asInt, asIntOf, hwrap, k0, kk, hm0, hroom, k1, k2, Question.forced, h2, newRow, grownCap, tc, zeroC_rep]
      have hz' : ∀ k, vs.toArray ++ Array.replicate k z = (vs ++ List.replicate k z).toArray := fun k => by apply Array.ext'; simp
      rw [hz']
      rfl
    · refine OwnRow.row (pre := []) (by have := ho.len; simp; omega) (by have := ho.len; simp; omega) hcap (by omega)
    · have hd : St G M R w := hw.dropAll
      exact St.alloc hd rfl rfl rfl rfl
/-- 'append(a, make(n)...)' where 'a' is owned. -/
theorem e_appendZO {t ti2 : TypeId} {e : TypeId} {x y : Operand} {z z0 z2 : Value} {b0 s0 b00 s2 b2 : Nat} {de : TypeDesc} [ti : TI P t (.slice e) z0 s0 b00] [te : TI P e de z 1 b0] [t2 : TI P ti2 (.int .i64) z2 s2 b2] [tc : CellsOf z [z]] {E R : Own} {A : Option Addr} {nn cap m : Nat} {vs : List Value}
    (hx : ev F x = some (.slice A nn cap)) (hy : ev F y = some (.int .i64 (m : Int))) (ho1 : one z = true) (ho : OwnRow e 1 A nn cap vs E) (hA : nn ≤ 140737488355328) (hm : m ≤ 140737488355328) (hby : (nn + m) * b0 ≤ 140737488355328)
    (h : ∀ A' cap' E', OwnRow e 1 A' (nn + m) cap' (vs ++ List.replicate m z) E' → K (putF d (.slice A' (nn + m) cap') F) D M (E' ++ R)) :
    Tr P n d (.call ⟨.builtin .append, #[x, y], #[t, ti2]⟩) ty Q F D G M (E ++ R) K := tr_value (fun c h => by cases h) fun w ρ hw hρ => by
  obtain ⟨A', cap', E', w', hr, hO, hS⟩ := run_appendZ (P := P) (ty := ty) ti te t2 tc.eq ho1 ho hw (m := m) hA hm hby
  refine ⟨_, w', M, _, ?_, hS, h A' cap' E' hO⟩
  simp only [execOp, resolve, invoke, builtin, Sem.run_bind, Sem.run_pure, Result.andThen_ok, List.map_toArray, List.map_cons, List.map_nil, hρ _ _ hx, hρ _ _ hy, hr]
end
end Go.Proofs.YtbjnjedfoiedeaaDoor
