/-
Contracts of functions, each proved by a walk through its code.
-/
import Derived.Test.YtbjnjedfoiedeaaDoorMerkle3Etc
set_option linter.unusedVariables false
set_option linter.unusedSimpArgs false
set_option linter.constructorNameAsVariable false
namespace Go.Proofs.YtbjnjedfoiedeaaDoor
open Go Go.Eng
abbrev seedC (NA : Option Addr) (nl nc : Nat) (SA : Option Addr) (sl sc : Nat) : List Value := [.slice NA nl nc, .slice SA sl sc]
section
variable {G : World} {M : Mem} {L : Own} {NA SA : Option Addr} {nl nc sl sc : Nat} {name sec : List UInt8}
theorem oMay_spec (hs : SetG M) (o : OtsV) :
    Con Tryd.prog 37 #[.agg (List.toArray o.cells), .agg (List.toArray (seedC NA nl nc SA sl sc))] G M L (fun v M' L' => L = L' ∧ v = .bool (decide (okY o nl sl))) noPanic := by
  refine enter (args := [_, _]) (fn := Tryd.f37) ⟨Tryd.func37, rfl, by kernel_rfl, by kernel_rfl⟩ 34 rfl ?_
  refine x_seq (x_region ?_)
  refine tl_e rfl (e_box rfl (fun b1 => ?_))
  refine tl_e rfl (e_box rfl (fun b2 => ?_))
  refine tl_y rfl (y_assign rfl) ?_
  refine tl_nil (.then_normal ?_)
  refine x_seq (x_region ?_)
  refine tl_y rfl (y_fieldAddr rfl) ?_
  refine tl_y rfl (y_load rfl rfl (.own inferInstance inferInstance)) ?_
  refine tl_e rfl (e_call' rfl (Ots_spec hs o.code) ?_)
  rintro _ M1 _ hM1 ⟨rfl, rfl⟩
  refine tl_y rfl (y_move (v := .tuple _) rfl) ?_
  refine tl_y rfl (y_extract rfl) ?_
  refine tl_y rfl (y_extract rfl) ?_
  refine tl_e rfl (e_alloc (fun b3 => ?_))
  refine tl_e rfl (e_store rfl rfl (by rfl) (by rfl) inferInstance inferInstance inferInstance ?_)
  refine tl_y rfl (y_assign (v := .int _ _) rfl) ?_
  refine tl_nil (.then_normal ?_)
  refine .sub (F' := [(2, _), (3, _), (5, _), (6, _)]) (.cons rfl (.cons rfl (.cons rfl (.cons rfl .nil)))) ?_
  refine x_join (I := fun F D M2 L2 => ∃ b : Bool, (b = true ↔ okY o nl sl) ∧ D = [] ∧ M1 = M2 ∧ DropTo L2 L ∧ F = [(4, .bool b)]) ?_ (fun Jq2 => ?_)
  ·
    rintro _ _ _ L2 ⟨b, hb, rfl, rfl, hdr, rfl⟩  -- slots [4]
    refine x_ret (.dropTo L hdr (ret1 rfl rfl hM1 ⟨rfl, by rw [bool_iff hb]⟩))
  ·
    refine x_region ?_
    refine tl_y rfl (y_move (v := .int _ _) rfl) ?_
    refine tl_y rfl (y_eql rfl rfl) ?_
    refine tl_y rfl (y_move (v := .bool _) rfl) ?_
    refine tl_cases (s := 15) rfl (fun hk1 => ?_) (fun hk1 => ?_)
    ·
      refine tl_y rfl (y_loadAgg rfl rfl (.own inferInstance inferInstance)) ?_
      refine tl_y rfl (y_loadAgg rfl rfl (.own inferInstance inferInstance)) ?_
      refine tl_y rfl (y_eqlS rfl rfl eqs62) ?_
      refine tl_y rfl (y_pickT rfl rfl) ?_
      refine tl_y rfl (y_move (v := .bool _) rfl) ?_
      refine tl_cases (s := 20) rfl (fun hk2 => ?_) (fun hk2 => ?_)
      ·
        refine tl_y rfl (y_fieldAddr rfl) ?_
        refine tl_y rfl (y_load rfl rfl (.own inferInstance inferInstance)) ?_
        refine tl_y rfl (y_len rfl) ?_
        refine tl_y rfl (y_eql rfl rfl) ?_
        refine tl_y rfl (y_pickT rfl rfl) ?_
        refine tl_y rfl (y_move (v := .bool _) rfl) ?_
        refine tl_cases (s := 26) rfl (fun hk3 => ?_) (fun hk3 => ?_)
        ·
          refine tl_y rfl (y_fieldAddr rfl) ?_
          refine tl_y rfl (y_load rfl rfl (.own inferInstance inferInstance)) ?_
          refine tl_y rfl (y_len rfl) ?_
          refine tl_y rfl (y_fieldAddr rfl) ?_
          refine tl_y rfl (y_load rfl rfl (.own inferInstance inferInstance)) ?_
          refine tl_y rfl (y_eql rfl rfl) ?_
          refine tl_y rfl (y_pickT rfl rfl) ?_
          refine tl_y rfl (y_assign (v := .bool _) rfl) ?_
          refine tl_nil (.then_normal (.sub (F' := [(4, _)]) (.cons rfl .nil) (Jq2 _ _ _ _ ?_)))
          exact ⟨_, by
            constructor
            · intro ht
              first | (cases ht; done) | (simp at ht; exact ⟨⟨hk1, ots_eq hk2⟩, by omega, by omega⟩)
            · rintro ⟨⟨a1, a2⟩, a3, a4⟩
              first | exact absurd a1 hk1 | exact absurd (eq_ots a2) hk2 | (simp; omega) | omega, rfl, rfl, inferInstance, rfl⟩
        ·
          refine tl_skip rfl ?_
          refine tl_skip rfl ?_
          refine tl_skip rfl ?_
          refine tl_skip rfl ?_
          refine tl_skip rfl ?_
          refine tl_skip rfl ?_
          refine tl_y rfl (y_pickF rfl rfl) ?_
          refine tl_y rfl (y_assign (v := .bool _) rfl) ?_
          refine tl_nil (.then_normal (.sub (F' := [(4, _)]) (.cons rfl .nil) (Jq2 _ _ _ _ ?_)))
          exact ⟨_, by
            constructor
            · intro ht
              first | (cases ht; done) | (simp at ht; exact ⟨⟨hk1, ots_eq hk2⟩, by omega, by omega⟩)
            · rintro ⟨⟨a1, a2⟩, a3, a4⟩
              first | exact absurd a1 hk1 | exact absurd (eq_ots a2) hk2 | (simp; omega) | omega, rfl, rfl, inferInstance, rfl⟩
      ·
        refine tl_skip rfl ?_
        refine tl_skip rfl ?_
        refine tl_skip rfl ?_
        refine tl_skip rfl ?_
        refine tl_y rfl (y_pickF rfl rfl) ?_
        refine tl_y rfl (y_move (v := .bool _) rfl) ?_
        refine tl_skip rfl ?_
        refine tl_skip rfl ?_
        refine tl_skip rfl ?_
        refine tl_skip rfl ?_
        refine tl_skip rfl ?_
        refine tl_skip rfl ?_
        refine tl_y rfl (y_pickF rfl rfl) ?_
        refine tl_y rfl (y_assign (v := .bool _) rfl) ?_
        refine tl_nil (.then_normal (.sub (F' := [(4, _)]) (.cons rfl .nil) (Jq2 _ _ _ _ ?_)))
        exact ⟨_, by
          constructor
          · intro ht
            first | (cases ht; done) | (simp at ht; exact ⟨⟨hk1, ots_eq hk2⟩, by omega, by omega⟩)
          · rintro ⟨⟨a1, a2⟩, a3, a4⟩
            first | exact absurd a1 hk1 | exact absurd (eq_ots a2) hk2 | (simp; omega) | omega, rfl, rfl, inferInstance, rfl⟩
    ·
      refine tl_skip rfl ?_
      refine tl_skip rfl ?_
      refine tl_skip rfl ?_
      refine tl_y rfl (y_pickF rfl rfl) ?_
      refine tl_y rfl (y_move (v := .bool _) rfl) ?_
      refine tl_skip rfl ?_
      refine tl_skip rfl ?_
      refine tl_skip rfl ?_
      refine tl_skip rfl ?_
      refine tl_y rfl (y_pickF rfl rfl) ?_
      refine tl_y rfl (y_move (v := .bool _) rfl) ?_
      refine tl_skip rfl ?_
      refine tl_skip rfl ?_
      refine tl_skip rfl ?_
      refine tl_skip rfl ?_
      refine tl_skip rfl ?_
      refine tl_skip rfl ?_
      refine tl_y rfl (y_pickF rfl rfl) ?_
      refine tl_y rfl (y_assign (v := .bool _) rfl) ?_
      refine tl_nil (.then_normal (.sub (F' := [(4, _)]) (.cons rfl .nil) (Jq2 _ _ _ _ ?_)))
      exact ⟨_, by
        constructor
        · intro ht
          first | (cases ht; done) | (simp at ht; exact ⟨⟨hk1, ots_eq hk2⟩, by omega, by omega⟩)
        · rintro ⟨⟨a1, a2⟩, a3, a4⟩
          first | exact absurd a1 hk1 | exact absurd (eq_ots a2) hk2 | (simp; omega) | omega, rfl, rfl, inferInstance, rfl⟩
theorem otop_spec (o : OtsV) {n w p : Nat} (ho : OF o n w p) :
    Con Tryd.prog 67 #[.agg (List.toArray o.cells)] G M L (fun v M' L' => M = M' ∧ L = L' ∧ v = .int .i64 (topN o)) noPanic := by
  have hsh := shl1_w ho.isw
  have hw2 := ho.w2
  have ht : topN o = ((2 ^ w : Nat) : Int) - 1 := by rw [topN, ho.hw, Int.toNat_natCast, pw2]
  rw [pw2] at hw2
  refine enter (args := [_]) (fn := Tryd.f67) ⟨Tryd.func67, rfl, by kernel_rfl, by kernel_rfl⟩ 7 rfl ?_
  refine x_seq (x_region ?_)
  refine tl_e rfl (e_box rfl (fun b1 => ?_))
  refine tl_y rfl (y_assign rfl) ?_
  refine tl_nil (.then_normal ?_)
  refine x_seq (x_region ?_)
  refine tl_y rfl (y_fieldAddr rfl) ?_
  refine tl_y rfl (y_load (v := .int .i64 (w : Int)) rfl rfl (by rw [← ho.hw]; exact .own inferInstance inferInstance)) ?_
  refine tl_y rfl (y_shl rfl rfl (by omega)) ?_
  rw [hsh]
  refine tl_y rfl (y_subI rfl rfl (by omega)) ?_
  refine tl_y rfl (y_assign (v := .int _ _) rfl) ?_
  refine tl_nil (.then_normal ?_)
  refine .sub (F' := [(2, _)]) (.cons rfl .nil) ?_
  refine x_ret (.dropTo L inferInstance (ret1 rfl rfl (Le.refl _) ⟨rfl, rfl, by rw [ht]⟩))
theorem ohid_spec (hg : ChG M) (o : OtsV) (hname : Bytes M NA nl nc name) (hsec : Bytes M SA sl sc sec) (hnl : nl ≤ 1000000) (hsl : sl ≤ 1000000) (q : UInt32) (d : Nat) (hd : d ≤ 65535) :
    Con Tryd.prog 59 #[.agg (List.toArray o.cells), .agg (List.toArray (seedC NA nl nc SA sl sc)), .int .u32 (q.toNat : Int), .int .u16 (d : Int)] G M L (fun v M' L' => L = L' ∧ ∃ A m c, v = .slice A m c ∧ Bytes M' A m c (hidB o name sec q.toNat d)) noPanic := by
  have hn1 := hname.size
  have hn2 := hsec.size
  have hq := q.toNat_lt
  refine enter (args := [_, _, _, _]) (fn := Tryd.f59) ⟨Tryd.func59, rfl, by kernel_rfl, by kernel_rfl⟩ 26 rfl ?_
  refine x_seq (x_region ?_)
  refine tl_e rfl (e_box rfl (fun b1 => ?_))
  refine tl_e rfl (e_box rfl (fun b2 => ?_))
  refine tl_y rfl (y_assign rfl) ?_
  refine tl_nil (.then_normal ?_)
  refine x_seq ?_
  have he : Le M M := Le.refl _
  refine x_draw 18 hmix rfl ?_
  refine to_p 0 rfl (by kernel_rfl) rfl (y_fieldAddr rfl) ?_
  refine to_y 1 rfl (by kernel_rfl) rfl (y_load rfl rfl (.own inferInstance inferInstance)) ?_
  refine to_p 2 rfl (by kernel_rfl) rfl (y_fieldAddr rfl) ?_
  refine to_y 3 rfl (by kernel_rfl) rfl (y_load rfl rfl (.own inferInstance inferInstance)) ?_
  refine to_p 4 rfl (by kernel_rfl) rfl (y_fieldAddr rfl) ?_
  refine to_y 5 rfl (by kernel_rfl) rfl (y_load rfl rfl (.own inferInstance inferInstance)) ?_
  refine to_p 6 rfl (by kernel_rfl) rfl (y_move (v := .int _ _) rfl) ?_
  refine to_p 7 rfl (by kernel_rfl) rfl (y_convN64 rfl (by omega)) ?_
  refine to_p 9 rfl (by kernel_rfl) rfl (y_move (v := .int _ _) rfl) ?_
  refine to_p 10 rfl (by kernel_rfl) rfl (y_convN64 rfl (by omega)) ?_
  refine to_p 13 rfl (by kernel_rfl) rfl (y_fieldAddr rfl) ?_
  refine to_y 14 rfl (by kernel_rfl) rfl (y_load rfl rfl (.own inferInstance inferInstance)) ?_
  refine to_two 8 12 (by kernel_rfl) ?_ ?_
  ·
    refine two_e 8 rfl rfl (e_call' rfl (PutV_spec q.toNat 4 (by omega) (by omega)) ?_)
    rintro _ M2 _ hM2 ⟨rfl, A2, c2, rfl, hA2⟩
    replace he := he.trans hM2
    refine ⟨⟨(by first | exact Le.refl _ | assumption), Keeps.mem⟩, ?_⟩
    refine to_two 11 12 (by kernel_rfl) ?_ ?_
    ·
      refine two_e 11 rfl rfl (e_call' rfl (PutV_spec d 2 (by omega) (by omega)) ?_)
      rintro _ M3 _ hM3 ⟨rfl, A3, c3, rfl, hA3⟩
      replace he := he.trans hM3
      refine ⟨⟨(by first | exact Le.refl _ | assumption), Keeps.mem⟩, ?_⟩
      refine to_e 12 rfl (by kernel_rfl) rfl (e_buildSlice rfl (by decide) (fun b7 => ?_))
      refine ⟨⟨he, Keeps.mem⟩, ?_⟩
      refine .pub b7 inferInstance (fun M4 hM4 hb7 => ?_)
      replace he := he.trans hM4
      refine to_e 15 rfl (by kernel_rfl) rfl (e_buildSlice rfl (by decide) (fun b8 => ?_))
      refine ⟨⟨he, Keeps.mem⟩, ?_⟩
      refine .pub b8 inferInstance (fun M5 hM5 hb8 => ?_)
      replace he := he.trans hM5
      have hA4 : Bytes M4 (some ⟨b7, 0, none⟩) 1 1 [255] := Row.whole hb7 rfl (by omega)
      have hA2' : Bytes M5 A2 4 c2 (putB q.toNat 4) := hA2.mono (by first | exact hM3.trans (hM4.trans hM5) | exact hM4.trans (hM3.trans hM5) | exact hM3.trans hM5)
      have hA3' : Bytes M5 A3 2 c3 (putB d 2) := hA3.mono (by first | exact hM4.trans hM5 | exact hM5 | exact hM2.trans (hM4.trans hM5) | exact hM2.trans hM5)
      have hA4' : Bytes M5 (some ⟨b7, 0, none⟩) 1 1 [255] := hA4.mono (by first | exact hM5 | exact hM3.trans hM5 | exact hM2.trans (hM3.trans hM5))
      have hfl : [name, putB q.toNat 4, putB d 2, [255], sec].flatten = name ++ (putB q.toNat 4 ++ (putB d 2 ++ (255 :: sec))) := by simp
      have hfll : (name ++ (putB q.toNat 4 ++ (putB d 2 ++ (255 :: sec)))).length = nl + 7 + sl := by rw [List.length_append, List.length_append, List.length_append, putB_length, putB_length, List.length_cons]; omega
      refine to_e 16 rfl (by kernel_rfl) rfl (e_call' rfl (Sum_spec (hg.sha.mono he) (hg.kec.mono he) o.kind o.n (Row.whole hb8 rfl (by omega)) (.cons (hname.mono he) (.cons hA2' (.cons hA3' (.cons hA4' (.cons (hsec.mono he) .nil))))) (by rw [hfl, hfll]; omega)) ?_)
      rintro _ M6 _ hM6 ⟨rfl, A6, m6, c6, rfl, hA6⟩
      rw [hfl] at hA6
      replace he := he.trans hM6
      refine ⟨⟨he, Keeps.mem⟩, ?_⟩
      refine to_p 17 rfl (by kernel_rfl) rfl (y_assign (v := .slice _ _ _) rfl) ?_
      refine to_nil (by kernel_rfl) (.then_normal ?_)
      refine .sub (F' := [(8, _)]) (.cons rfl .nil) ?_
      refine x_ret (.dropTo L inferInstance (ret1 rfl rfl he ⟨rfl, _, _, _, rfl, hA6⟩))
    ·
      refine two_e 12 rfl rfl (e_buildSlice rfl (by decide) (fun b7 => ?_))
      refine ⟨⟨he, Keeps.mem⟩, ?_⟩
      refine .pub b7 inferInstance (fun M4 hM4 hb7 => ?_)
      replace he := he.trans hM4
      refine to_e 11 rfl (by kernel_rfl) rfl (e_call' rfl (PutV_spec d 2 (by omega) (by omega)) ?_)
      rintro _ M3 _ hM3 ⟨rfl, A3, c3, rfl, hA3⟩
      replace he := he.trans hM3
      refine ⟨⟨(by first | exact Le.refl _ | assumption), Keeps.mem⟩, ?_⟩
      refine to_e 15 rfl (by kernel_rfl) rfl (e_buildSlice rfl (by decide) (fun b8 => ?_))
      refine ⟨⟨he, Keeps.mem⟩, ?_⟩
      refine .pub b8 inferInstance (fun M5 hM5 hb8 => ?_)
      replace he := he.trans hM5
      have hA4 : Bytes M4 (some ⟨b7, 0, none⟩) 1 1 [255] := Row.whole hb7 rfl (by omega)
      have hA2' : Bytes M5 A2 4 c2 (putB q.toNat 4) := hA2.mono (by first | exact hM3.trans (hM4.trans hM5) | exact hM4.trans (hM3.trans hM5) | exact hM3.trans hM5)
      have hA3' : Bytes M5 A3 2 c3 (putB d 2) := hA3.mono (by first | exact hM4.trans hM5 | exact hM5 | exact hM2.trans (hM4.trans hM5) | exact hM2.trans hM5)
      have hA4' : Bytes M5 (some ⟨b7, 0, none⟩) 1 1 [255] := hA4.mono (by first | exact hM5 | exact hM3.trans hM5 | exact hM2.trans (hM3.trans hM5))
      have hfl : [name, putB q.toNat 4, putB d 2, [255], sec].flatten = name ++ (putB q.toNat 4 ++ (putB d 2 ++ (255 :: sec))) := by simp
      have hfll : (name ++ (putB q.toNat 4 ++ (putB d 2 ++ (255 :: sec)))).length = nl + 7 + sl := by rw [List.length_append, List.length_append, List.length_append, putB_length, putB_length, List.length_cons]; omega
      refine to_e 16 rfl (by kernel_rfl) rfl (e_call' rfl (Sum_spec (hg.sha.mono he) (hg.kec.mono he) o.kind o.n (Row.whole hb8 rfl (by omega)) (.cons (hname.mono he) (.cons hA2' (.cons hA3' (.cons hA4' (.cons (hsec.mono he) .nil))))) (by rw [hfl, hfll]; omega)) ?_)
      rintro _ M6 _ hM6 ⟨rfl, A6, m6, c6, rfl, hA6⟩
      rw [hfl] at hA6
      replace he := he.trans hM6
      refine ⟨⟨he, Keeps.mem⟩, ?_⟩
      refine to_p 17 rfl (by kernel_rfl) rfl (y_assign (v := .slice _ _ _) rfl) ?_
      refine to_nil (by kernel_rfl) (.then_normal ?_)
      refine .sub (F' := [(8, _)]) (.cons rfl .nil) ?_
      refine x_ret (.dropTo L inferInstance (ret1 rfl rfl he ⟨rfl, _, _, _, rfl, hA6⟩))
  ·
    refine two_e 12 rfl rfl (e_buildSlice rfl (by decide) (fun b7 => ?_))
    refine ⟨⟨he, Keeps.mem⟩, ?_⟩
    refine .pub b7 inferInstance (fun M4 hM4 hb7 => ?_)
    replace he := he.trans hM4
    refine to_e 8 rfl (by kernel_rfl) rfl (e_call' rfl (PutV_spec q.toNat 4 (by omega) (by omega)) ?_)
    rintro _ M2 _ hM2 ⟨rfl, A2, c2, rfl, hA2⟩
    replace he := he.trans hM2
    refine ⟨⟨(by first | exact Le.refl _ | assumption), Keeps.mem⟩, ?_⟩
    refine to_e 11 rfl (by kernel_rfl) rfl (e_call' rfl (PutV_spec d 2 (by omega) (by omega)) ?_)
    rintro _ M3 _ hM3 ⟨rfl, A3, c3, rfl, hA3⟩
    replace he := he.trans hM3
    refine ⟨⟨(by first | exact Le.refl _ | assumption), Keeps.mem⟩, ?_⟩
    refine to_e 15 rfl (by kernel_rfl) rfl (e_buildSlice rfl (by decide) (fun b8 => ?_))
    refine ⟨⟨he, Keeps.mem⟩, ?_⟩
    refine .pub b8 inferInstance (fun M5 hM5 hb8 => ?_)
    replace he := he.trans hM5
    have hA4 : Bytes M4 (some ⟨b7, 0, none⟩) 1 1 [255] := Row.whole hb7 rfl (by omega)
    have hA2' : Bytes M5 A2 4 c2 (putB q.toNat 4) := hA2.mono (by first | exact hM3.trans (hM4.trans hM5) | exact hM4.trans (hM3.trans hM5) | exact hM3.trans hM5)
    have hA3' : Bytes M5 A3 2 c3 (putB d 2) := hA3.mono (by first | exact hM4.trans hM5 | exact hM5 | exact hM2.trans (hM4.trans hM5) | exact hM2.trans hM5)
    have hA4' : Bytes M5 (some ⟨b7, 0, none⟩) 1 1 [255] := hA4.mono (by first | exact hM5 | exact hM3.trans hM5 | exact hM2.trans (hM3.trans hM5))
    have hfl : [name, putB q.toNat 4, putB d 2, [255], sec].flatten = name ++ (putB q.toNat 4 ++ (putB d 2 ++ (255 :: sec))) := by simp
    have hfll : (name ++ (putB q.toNat 4 ++ (putB d 2 ++ (255 :: sec)))).length = nl + 7 + sl := by rw [List.length_append, List.length_append, List.length_append, putB_length, putB_length, List.length_cons]; omega
    refine to_e 16 rfl (by kernel_rfl) rfl (e_call' rfl (Sum_spec (hg.sha.mono he) (hg.kec.mono he) o.kind o.n (Row.whole hb8 rfl (by omega)) (.cons (hname.mono he) (.cons hA2' (.cons hA3' (.cons hA4' (.cons (hsec.mono he) .nil))))) (by rw [hfl, hfll]; omega)) ?_)
    rintro _ M6 _ hM6 ⟨rfl, A6, m6, c6, rfl, hA6⟩
    rw [hfl] at hA6
    replace he := he.trans hM6
    refine ⟨⟨he, Keeps.mem⟩, ?_⟩
    refine to_p 17 rfl (by kernel_rfl) rfl (y_assign (v := .slice _ _ _) rfl) ?_
    refine to_nil (by kernel_rfl) (.then_normal ?_)
    refine .sub (F' := [(8, _)]) (.cons rfl .nil) ?_
    refine x_ret (.dropTo L inferInstance (ret1 rfl rfl he ⟨rfl, _, _, _, rfl, hA6⟩))
end
end Go.Proofs.YtbjnjedfoiedeaaDoor
set_option linter.unusedVariables false
set_option linter.unusedSimpArgs false
set_option linter.constructorNameAsVariable false
namespace Go.Proofs.YtbjnjedfoiedeaaDoor
open Go Go.Eng
section
variable {G : World} {M : Mem} {L : Own} {NA SA : Option Addr} {nl nc sl sc : Nat} {name sec : List UInt8}
theorem oSecret_spec (hg : ChG M) (o : OtsV) (hname : Bytes M NA nl nc name) (hsec : Bytes M SA sl sc sec) (q : UInt32) (d : Nat) (hd : d ≤ 65535) :
    Con Tryd.prog 41 #[.agg (List.toArray o.cells), .agg (List.toArray (seedC NA nl nc SA sl sc)), .int .u32 (q.toNat : Int), .int .u16 (d : Int)] G M L (fun v M' L' => L = L' ∧ ∃ A m c, v = .slice A m c ∧ Bytes M' A m c (if okY o nl sl then hidB o name sec q.toNat d else [])) noPanic := by
  refine enter (args := [_, _, _, _]) (fn := Tryd.f41) ⟨Tryd.func41, rfl, by kernel_rfl, by kernel_rfl⟩ 18 rfl ?_
  refine x_seq (x_region ?_)
  refine tl_e rfl (e_box rfl (fun b1 => ?_))
  refine tl_e rfl (e_box rfl (fun b2 => ?_))
  refine tl_y rfl (y_assign rfl) ?_
  refine tl_nil (.then_normal ?_)
  refine x_seq (x_seq (x_region ?_))
  refine tl_y rfl (y_loadAgg rfl rfl (.own inferInstance inferInstance)) ?_
  refine tl_y rfl (y_loadAgg rfl rfl (.own inferInstance inferInstance)) ?_
  refine tl_e rfl (e_call' rfl (oMay_spec hg.set o) ?_)
  rintro _ M1 _ hM1 ⟨rfl, rfl⟩
  refine tl_y rfl (y_notd rfl) ?_
  refine tl_nil (.then_normal ?_)
  refine .sub (F' := [(2, _), (3, _), (4, _), (5, _), (12, _)]) (.cons rfl (.cons rfl (.cons rfl (.cons rfl (.cons rfl .nil))))) ?_
  refine x_cond rfl (fun hc1 => ?_) (fun hc1 => ?_)
  ·
    refine x_seq (x_region ?_)
    refine tl_y rfl (y_assign rfl) ?_
    refine tl_nil (.then_normal ?_)
    refine .sub (F' := [(8, _)]) (.cons rfl .nil) ?_
    refine x_ret (.then_ret (.dropTo L inferInstance (ret1 rfl rfl hM1 ⟨rfl, _, _, _, rfl, by rw [if_neg hc1]; exact Row.nil _ _⟩)))
  ·
    have hok : okY o nl sl := Classical.not_not.1 hc1
    obtain ⟨n, w, p, ho⟩ := okO_facts hok.1
    have hn32 := ho.n32
    have hn := ho.hn
    have hsl := hok.2.2
    have hnl := hok.2.1
    refine x_skip (.then_normal ?_)
    refine x_seq (x_region ?_)
    refine tl_y rfl (y_loadAgg rfl rfl (.own inferInstance inferInstance)) ?_
    refine tl_y rfl (y_loadAgg rfl rfl (.own inferInstance inferInstance)) ?_
    refine tl_y rfl (y_move (v := .int _ _) rfl) ?_
    refine tl_y rfl (y_move (v := .int _ _) rfl) ?_
    refine tl_e rfl (e_call' rfl (ohid_spec (hg.mono hM1) o (hname.mono hM1) (hsec.mono hM1) (by omega) (by omega) q d hd) ?_)
    rintro _ M2 _ hM2 ⟨rfl, A2, m2, c2, rfl, hA2⟩
    refine tl_y rfl (y_assign (v := .slice _ _ _) rfl) ?_
    refine tl_nil (.then_normal ?_)
    refine .sub (F' := [(8, _)]) (.cons rfl .nil) ?_
    refine x_ret (.dropTo L inferInstance (ret1 rfl rfl (hM1.trans hM2) ⟨rfl, _, _, _, rfl, by rw [if_pos hok]; exact hA2⟩))
theorem oall_spec (o : OtsV) {p : Nat} (hp : o.p = (p : Int)) (hp5 : p ≤ 1000) {fid : FuncId} {cap : List Value} {rows : Nat → List UInt8} (hl : ∀ i, (rows i).length ≤ 32)
    (hdo : ∀ (i : Nat) (M1 : Mem) (X : Own), i < p → Le M M1 → (∀ e ∈ L, e ∈ X) → Con Tryd.prog fid (([] : List Value) ++ [Value.int .i64 (i : Int)] ++ cap).toArray G M1 X (fun v M' L' => X = L' ∧ ∃ A m c, v = .slice A m c ∧ Bytes M' A m c (rows i)) noPanic) :
    Con Tryd.prog 61 #[.agg (List.toArray o.cells), .func (.func fid) (List.toArray []) cap.toArray] G M L (fun v M' L' => L = L' ∧ ∃ A m c, v = .slice A m c ∧ Bytes M' A m c (catR rows p)) noPanic := by
  refine enter (args := [_, _]) (fn := Tryd.f61) ⟨Tryd.func61, rfl, by kernel_rfl, by kernel_rfl⟩ 19 rfl ?_
  refine x_seq (x_region ?_)
  refine tl_e rfl (e_box rfl (fun b1 => ?_))
  refine tl_y rfl (y_assign rfl) ?_
  refine tl_nil (.then_normal ?_)
  refine x_seq (x_region ?_)
  refine tl_y rfl (y_assign rfl) ?_
  refine tl_nil (.then_normal ?_)
  refine x_seq (x_seq (x_region ?_))
  refine tl_y rfl (y_fieldAddr rfl) ?_
  refine tl_y rfl (y_load (v := .int .i64 (p : Int)) rfl rfl (by rw [← hp]; exact .own inferInstance inferInstance)) ?_
  refine tl_y rfl (y_move rfl) ?_
  refine tl_nil (.then_normal ?_)
  refine .sub (F' := [(1, _), (5, _), (8, _), (9, _)]) (.cons rfl (.cons rfl (.cons rfl (.cons rfl .nil)))) ?_
  refine x_block ?_
  refine x_loop (I := fun m' F D M1 L1 => ∃ (i : Nat) (A : Option Addr) (m c : Nat) (E : Own), m' = p - i ∧ i ≤ p ∧ Le M M1 ∧ m = (catR rows i).length ∧ OwnRow 5 1 A m c ((catR rows i).map bv) E ∧ D = [] ∧ L1 = E ++ ((b1, .cells (List.toArray o.cells) 62 (0, 0)) :: L) ∧ F = [(1, .func (.func fid) (List.toArray []) cap.toArray), (5, .slice A m c), (8, .int .i64 (p : Int)), (9, .int .i64 (i : Int))]) (p) (F0 := [(1, _), (5, _), (8, _), (9, _)]) ?_ (.cons rfl (.cons rfl (.cons rfl (.cons rfl .nil)))) ?_  -- slots [1, 5, 8, 9], written [5, 9]
  · exact ⟨0, none, 0, 0, [], rfl, by omega, Le.refl _, rfl, .nil, rfl, rfl, rfl⟩
  rintro m _ _ M1 _ ⟨i, A, m, c, E, rfl, hi, hM1, hm, hE, rfl, rfl, rfl⟩
  refine x_seq (x_region ?_)
  refine tl_y rfl (y_lss rfl rfl) ?_
  refine tl_nil (.then_normal ?_)
  refine x_seq ?_
  refine x_cond rfl (fun hc1 => ?_) (fun hc1 => ?_)
  ·
    have hip : i < p := by omega
    have hle := catR_le hl i
    have hli := hl i
    refine x_skip (.then_normal ?_)
    refine x_seq ?_
    refine x_block ?_
    refine x_seq (x_region ?_)
    refine tl_y rfl (y_move (v := .int _ _) rfl) ?_
    refine tl_y rfl (y_assign (v := .int _ _) rfl) ?_
    refine tl_nil (.then_normal ?_)
    refine x_region ?_
    refine tl_y rfl (y_move (v := .slice _ _ _) rfl) ?_
    refine tl_y rfl (y_move (v := .func _ _ _) rfl) ?_
    refine tl_y rfl (y_move (v := .int _ _) rfl) ?_
    refine tl_e rfl (e_callv rfl rfl (hdo i M1 _ hip hM1 Keeps.mem) (fun _ _ _ _ h => h.elim) ?_)
    rintro _ M2 _ hM2 ⟨rfl, A2, m2, c2, rfl, hA2⟩
    have hm2 := hA2.size
    refine tl_e rfl (e_append (by decide) rfl rfl hE (.row hA2) (all_one_bv _) (by omega) (by omega) (fun A7 c7 E7 hE7 => ?_))
    rw [← List.map_append, ← catR_succ] at hE7
    refine tl_y rfl (y_assign (v := .slice _ _ _) rfl) ?_
    refine tl_nil (.block_normal (.then_normal ?_))
    refine .sub (F' := [(1, _), (5, _), (8, _), (9, _)]) (.cons rfl (.cons rfl (.cons rfl (.cons rfl .nil)))) ?_
    refine x_region ?_
    refine tl_y rfl (y_addI rfl rfl (by omega)) ?_
    refine tl_y rfl (y_move (v := .int _ _) rfl) ?_
    refine tl_nil (.loop_next (m' := p - (i + 1)) (by omega) (F' := [(1, _), (5, _), (8, _), (9, _)]) (.cons rfl (.cons rfl (.cons rfl (.cons rfl .nil)))) ?_)
    exact ⟨i + 1, A7, m + m2, c7, E7, rfl, by omega, hM1.trans hM2, by rw [catR_succ, List.length_append]; omega, hE7, rfl, rfl, rfl⟩
  ·
    obtain rfl : i = p := by omega
    refine .pubRow hE (fun M4 hM4 hrow => ?_)
    refine x_exit (.then_exit (.loop_exit (.block_exit (.then_normal ?_))))
    refine .sub (F' := [(5, _)]) (.cons rfl .nil) ?_
    refine x_seq (x_region ?_)
    refine tl_y rfl (y_move (v := .slice _ _ _) rfl) ?_
    refine tl_y rfl (y_assign (v := .slice _ _ _) rfl) ?_
    refine tl_nil (.then_normal ?_)
    refine x_ret (.dropTo L inferInstance (ret1 rfl rfl (hM1.trans hM4) ⟨rfl, _, _, _, rfl, hrow⟩))
theorem oKey1_spec (hg : ChG M) (o : OtsV) {n w p : Nat} (ho : OF o n w p) (hname : Bytes M NA nl nc name) (hsec : Bytes M SA sl sc sec) (hnl : nl ≤ 1000000) (hsl : sl ≤ 1000000) (q : UInt32) (i : Nat) (hi : i ≤ 65535) {bo bs bq : Nat}
    [i1 : Has L bo (.cells (List.toArray o.cells) 62 (0, 0))] [i2 : Has L bs (.cells (List.toArray (seedC NA nl nc SA sl sc)) 58 (0, 0))] [i3 : Has L bq (.cells (List.toArray [.int .u32 (q.toNat : Int)]) 28 (0, 0))] :
    Con Tryd.prog 68 #[.int .i64 (i : Int), .pointer (some ⟨bo, 0, none⟩), .pointer (some ⟨bs, 0, none⟩), .pointer (some ⟨bq, 0, none⟩)] G M L (fun v M' L' => L = L' ∧ ∃ A m c, v = .slice A m c ∧ Bytes M' A m c (keyR o name sec q.toNat i)) noPanic := by
  refine enter (args := [_, _, _, _]) (fn := Tryd.f68) ⟨Tryd.func68, rfl, by kernel_rfl, by kernel_rfl⟩ 20 rfl ?_
  refine x_seq (x_region ?_)
  refine tl_y rfl (y_assign rfl) ?_
  refine tl_nil (.then_normal ?_)
  refine x_seq ?_
  have he : Le M M := Le.refl _
  refine x_draw 15 hmix rfl ?_
  refine to_y 0 rfl (by kernel_rfl) rfl (y_loadAgg rfl rfl (.own inferInstance inferInstance)) ?_
  refine to_p 1 rfl (by kernel_rfl) rfl (y_fieldAddr rfl) ?_
  refine to_y 2 rfl (by kernel_rfl) rfl (y_load rfl rfl (.own inferInstance inferInstance)) ?_
  refine to_y 3 rfl (by kernel_rfl) rfl (y_load rfl rfl (.own inferInstance inferInstance)) ?_
  refine to_p 4 rfl (by kernel_rfl) rfl (y_move (v := .int _ _) rfl) ?_
  refine to_y 5 rfl (by kernel_rfl) rfl (y_loadAgg rfl rfl (.own inferInstance inferInstance)) ?_
  refine to_y 7 rfl (by kernel_rfl) rfl (y_loadAgg rfl rfl (.own inferInstance inferInstance)) ?_
  refine to_y 8 rfl (by kernel_rfl) rfl (y_loadAgg rfl rfl (.own inferInstance inferInstance)) ?_
  refine to_y 9 rfl (by kernel_rfl) rfl (y_load rfl rfl (.own inferInstance inferInstance)) ?_
  refine to_p 10 rfl (by kernel_rfl) rfl (y_move (v := .int _ _) rfl) ?_
  refine to_p 11 rfl (by kernel_rfl) rfl (y_convE (b := (i : Int)) rfl (by rw [wrapU16]; omega)) ?_
  refine to_e 6 rfl (by kernel_rfl) rfl (e_call' rfl (otop_spec o ho) ?_)
  rintro _ _ _ _ ⟨rfl, rfl, rfl⟩
  refine ⟨⟨(by first | exact Le.refl _ | assumption), Keeps.mem⟩, ?_⟩
  refine to_e 12 rfl (by kernel_rfl) rfl (e_call' rfl (ohid_spec hg o hname hsec hnl hsl q i hi) ?_)
  rintro _ M2 _ hM2 ⟨rfl, A2, m2, c2, rfl, hA2⟩
  replace he := he.trans hM2
  refine ⟨⟨(by first | exact Le.refl _ | assumption), Keeps.mem⟩, ?_⟩
  refine to_e 13 rfl (by kernel_rfl) rfl (e_call' rfl (Up_spec' (hg.mono he).sha (hg.mono he).kec (hg.mono he).set o (hname.mono he) hA2 q i 0 (topN o)) ?_)
  rintro _ M3 _ hM3 ⟨rfl, A3, m3, c3, rfl, hA3⟩
  replace he := he.trans hM3
  refine ⟨⟨(by first | exact Le.refl _ | assumption), Keeps.mem⟩, ?_⟩
  refine to_p 14 rfl (by kernel_rfl) rfl (y_assign (v := .slice _ _ _) rfl) ?_
  refine to_nil (by kernel_rfl) (.then_normal ?_)
  refine .sub (F' := [(5, _)]) (.cons rfl .nil) ?_
  refine x_ret (ret1 rfl rfl he ⟨rfl, _, _, _, rfl, hA3⟩)
theorem oKey_spec (hg : ChG M) (o : OtsV) (hname : Bytes M NA nl nc name) (hsec : Bytes M SA sl sc sec) (q : UInt32) :
    Con Tryd.prog 35 #[.agg (List.toArray o.cells), .agg (List.toArray (seedC NA nl nc SA sl sc)), .int .u32 (q.toNat : Int)] G M L (fun v M' L' => L = L' ∧ ∃ A m c, v = .slice A m c ∧ Bytes M' A m c (if okY o nl sl then keyB o name sec q.toNat else [])) noPanic := by
  refine enter (args := [_, _, _]) (fn := Tryd.f35) ⟨Tryd.func35, rfl, by kernel_rfl, by kernel_rfl⟩ 25 rfl ?_
  refine x_seq (x_region ?_)
  refine tl_e rfl (e_box rfl (fun b1 => ?_))
  refine tl_e rfl (e_box rfl (fun b2 => ?_))
  refine tl_e rfl (e_box rfl (fun b3 => ?_))
  refine tl_y rfl (y_assign rfl) ?_
  refine tl_nil (.then_normal ?_)
  refine .sub (F' := [(3, _), (4, _), (5, _)]) (.cons rfl (.cons rfl (.cons rfl .nil))) ?_
  refine x_seq (x_seq (x_region ?_))
  refine tl_y rfl (y_loadAgg rfl rfl (.own inferInstance inferInstance)) ?_
  refine tl_y rfl (y_loadAgg rfl rfl (.own inferInstance inferInstance)) ?_
  refine tl_e rfl (e_call' rfl (oMay_spec hg.set o) ?_)
  rintro _ M1 _ hM1 ⟨rfl, rfl⟩
  refine tl_y rfl (y_notd rfl) ?_
  refine tl_nil (.then_normal ?_)
  refine x_cond rfl (fun hc1 => ?_) (fun hc1 => ?_)
  ·
    refine x_seq (x_region ?_)
    refine tl_y rfl (y_assign rfl) ?_
    refine tl_nil (.then_normal ?_)
    refine .sub (F' := [(6, _)]) (.cons rfl .nil) ?_
    refine x_ret (.then_ret (.dropTo L inferInstance (ret1 rfl rfl hM1 ⟨rfl, _, _, _, rfl, by rw [if_neg hc1]; exact Row.nil _ _⟩)))
  ·
    have hok : okY o nl sl := Classical.not_not.1 hc1
    obtain ⟨n, w, p, ho⟩ := okO_facts hok.1
    have hn32 := ho.n32
    have hn := ho.hn
    have hsl := hok.2.2
    have hnl := hok.2.1
    have hp2 := ho.p2
    refine x_skip (.then_normal ?_)
    refine .sub (F' := [(3, _), (4, _), (5, _)]) (.cons rfl (.cons rfl (.cons rfl .nil))) ?_
    refine x_seq (x_region ?_)
    refine tl_y rfl (y_loadAgg rfl rfl (.own inferInstance inferInstance)) ?_
    refine tl_y rfl (y_makeFunc rfl rfl) ?_
    refine tl_e rfl (e_call' rfl (oall_spec o ho.hp (by omega) (rows := keyR o name sec q.toNat) (keyR_le o name sec q.toNat) (fun i M2 X hi hM2 hX => by
      haveI i1 : Has X b1 (.cells (List.toArray o.cells) 62 (0, 0)) := ⟨hX _ (Has.mem)⟩
      haveI i2 : Has X b2 (.cells (List.toArray (seedC NA nl nc SA sl sc)) 58 (0, 0)) := ⟨hX _ (Has.mem)⟩
      haveI i3 : Has X b3 (.cells (List.toArray [.int .u32 (q.toNat : Int)]) 28 (0, 0)) := ⟨hX _ (Has.mem)⟩
      exact oKey1_spec ((hg.mono hM1).mono hM2) o ho ((hname.mono hM1).mono hM2) ((hsec.mono hM1).mono hM2) (by omega) (by omega) q i (by omega))) ?_)
    rintro _ M2 _ hM2 ⟨rfl, A2, m2, c2, rfl, hA2⟩
    have hd := hM1.trans hM2
    have hm2 := hA2.size
    have hle := catR_le (keyR_le o name sec q.toNat) p
    refine tl_y rfl (y_assign (v := .slice _ _ _) rfl) ?_
    refine tl_nil (.then_normal ?_)
    refine x_seq (x_region ?_)
    refine tl_y rfl (y_fieldAddr rfl) ?_
    refine tl_y rfl (y_load rfl rfl (.own inferInstance inferInstance)) ?_
    refine tl_y rfl (y_fieldAddr rfl) ?_
    refine tl_y rfl (y_load rfl rfl (.own inferInstance inferInstance)) ?_
    refine tl_y rfl (y_fieldAddr rfl) ?_
    refine tl_y rfl (y_load rfl rfl (.own inferInstance inferInstance)) ?_
    refine tl_y rfl (y_load rfl rfl (.own inferInstance inferInstance)) ?_
    refine tl_y rfl (y_move (v := .slice _ _ _) rfl) ?_
    refine tl_e rfl (e_buildSlice rfl (by decide) (fun b7 => ?_))
    refine .pub b7 inferInstance (fun M3 hM3 hb7 => ?_)
    replace hd := hd.trans hM3
    refine tl_e rfl (e_call' rfl (Part_spec (hg.mono hd).sha (hg.mono hd).kec o.kind o.n (hname.mono hd) q 32896 (by omega) (Row.whole hb7 rfl (by omega)) (.cons (hA2.mono hM3) .nil) (by simp only [List.flatten_cons, List.flatten_nil, List.length_append, List.length_nil]; omega)) ?_)
    rintro _ M4 _ hM4 ⟨rfl, A4, m4, c4, rfl, hA4⟩
    rw [show [catR (keyR o name sec q.toNat) p].flatten = catR (keyR o name sec q.toNat) p by simp] at hA4
    refine tl_y rfl (y_assign (v := .slice _ _ _) rfl) ?_
    refine tl_nil (.then_normal ?_)
    refine .sub (F' := [(6, _)]) (.cons rfl .nil) ?_
    refine x_ret (.dropTo L inferInstance (ret1 rfl rfl (hd.trans hM4) ⟨rfl, _, _, _, rfl, by rw [if_pos hok, keyB, ho.hp, Int.toNat_natCast]; exact hA4⟩))
end
end Go.Proofs.YtbjnjedfoiedeaaDoor
set_option linter.unusedVariables false
set_option linter.unusedSimpArgs false
set_option linter.constructorNameAsVariable false
namespace Go.Proofs.YtbjnjedfoiedeaaDoor
open Go Go.Eng
theorem digO_get {o : OtsV} {n w p : Nat} (ho : OF o n w p) (name : List UInt8) (q : Nat) (salt text : List UInt8) : (digO o name q salt text).length = p ∧ ∀ d ∈ digO o name q salt text, d < pw2 w := by
  rw [digO, ho.hn, ho.hw, Int.toNat_natCast, Int.toNat_natCast]
  exact ⟨by rw [allD_len ho.isn ho.isw, ho.up], allD_lt _⟩
theorem intsL_at {xs : List Nat} {i : Nat} (h : i < xs.length) : (intsL xs)[i]? = some (.int .i64 ((xs.getD i 0 : Nat) : Int)) := by
  rw [intsL, List.getElem?_map, List.getD_eq_getElem?_getD, List.getElem?_eq_getElem h]; rfl
section
variable {G : World} {M : Mem} {L : Own} {NA SA TA YA : Option Addr} {nl nc sl sc tl tc yl yc : Nat} {name sec text y : List UInt8}
theorem osum_spec (hg : ChG M) (o : OtsV) {n w p : Nat} (ho : OF o n w p) (hname : Bytes M NA nl nc name) (hn16 : nl = 16) (q : UInt32) (hsalt : Bytes M SA sl sc sec) (htext : Bytes M TA tl tc text) (hsl : sl ≤ 1000000000) (htl : tl ≤ 1000000000) :
    Con Tryd.prog 60 #[.agg (List.toArray o.cells), .slice NA nl nc, .int .u32 (q.toNat : Int), .slice SA sl sc, .slice TA tl tc] G M L (fun v M' L' => L = L' ∧ ∃ A c, v = .slice A p c ∧ Row M' 1 A p c (intsL (digO o name q.toNat sec text))) noPanic := by
  have h1 := hname.size
  have h2 := hsalt.size
  have h3 := htext.size
  refine enter (args := [_, _, _, _, _]) (fn := Tryd.f60) ⟨Tryd.func60, rfl, by kernel_rfl, by kernel_rfl⟩ 24 rfl ?_
  refine x_seq (x_region ?_)
  refine tl_e rfl (e_box rfl (fun b1 => ?_))
  refine tl_y rfl (y_assign rfl) ?_
  refine tl_nil (.then_normal ?_)
  refine x_seq ?_
  have he : Le M M := Le.refl _
  refine x_draw 14 hmix rfl ?_
  refine to_p 0 rfl (by kernel_rfl) rfl (y_fieldAddr rfl) ?_
  refine to_y 1 rfl (by kernel_rfl) rfl (y_load rfl rfl (.own inferInstance inferInstance)) ?_
  refine to_p 2 rfl (by kernel_rfl) rfl (y_fieldAddr rfl) ?_
  refine to_y 3 rfl (by kernel_rfl) rfl (y_load rfl rfl (.own inferInstance inferInstance)) ?_
  refine to_p 4 rfl (by kernel_rfl) rfl (y_move (v := .slice _ _ _) rfl) ?_
  refine to_p 5 rfl (by kernel_rfl) rfl (y_move (v := .int _ _) rfl) ?_
  refine to_p 6 rfl (by kernel_rfl) rfl (y_move (v := .slice _ _ _) rfl) ?_
  refine to_p 7 rfl (by kernel_rfl) rfl (y_move (v := .slice _ _ _) rfl) ?_
  refine to_p 10 rfl (by kernel_rfl) rfl (y_fieldAddr rfl) ?_
  refine to_y 11 rfl (by kernel_rfl) rfl (y_load (v := .int .i64 (w : Int)) rfl rfl (by rw [← ho.hw]; exact .own inferInstance inferInstance)) ?_
  refine to_e 8 rfl (by kernel_rfl) rfl (e_buildSlice rfl (by decide) (fun b7 => ?_))
  refine ⟨⟨he, Keeps.mem⟩, ?_⟩
  refine .pub b7 inferInstance (fun M3 hM3 hb7 => ?_)
  replace he := he.trans hM3
  refine to_e 9 rfl (by kernel_rfl) rfl (e_call' rfl (Part_spec (hg.mono he).sha (hg.mono he).kec o.kind o.n (hname.mono he) q 33153 (by omega) (Row.whole hb7 rfl (by omega)) (.cons (hsalt.mono he) (.cons (htext.mono he) .nil)) (by simp only [List.flatten_cons, List.flatten_nil, List.length_append, List.length_nil]; omega)) ?_)
  rintro _ M4 _ hM4 ⟨rfl, A4, m4, c4, rfl, hA4⟩
  rw [show [sec, text].flatten = sec ++ text by simp] at hA4
  replace he := he.trans hM4
  have hm4 := hA4.size
  rw [cPartO_len ho (by omega)] at hm4
  subst hm4
  refine ⟨⟨(by first | exact Le.refl _ | assumption), Keeps.mem⟩, ?_⟩
  refine to_e 12 rfl (by kernel_rfl) rfl (e_call' rfl (All7_spec ho.isn ho.isw hA4) ?_)
  rintro _ M5 _ hM5 ⟨rfl, A5, c5, rfl, hr5⟩
  replace he := he.trans hM5
  have hr5' : Row M5 1 A5 p c5 (intsL (digO o name q.toNat sec text)) := by
    rw [digO, ho.hn, ho.hw, Int.toNat_natCast, Int.toNat_natCast, ho.up]
    rw [ho.hn] at hr5
    exact hr5
  rw [← ho.up]
  refine ⟨⟨(by first | exact Le.refl _ | assumption), Keeps.mem⟩, ?_⟩
  refine to_p 13 rfl (by kernel_rfl) rfl (y_assign (v := .slice _ _ _) rfl) ?_
  refine to_nil (by kernel_rfl) (.then_normal ?_)
  refine .sub (F' := [(10, _)]) (.cons rfl .nil) ?_
  refine x_ret (.dropTo L inferInstance (ret1 rfl rfl he ⟨rfl, A5, c5, rfl, hr5'⟩))
theorem oSign1_spec (hg : ChG M) (o : OtsV) {n w p : Nat} (ho : OF o n w p) (hname : Bytes M NA nl nc name) (hsec : Bytes M SA sl sc sec) (hnl : nl ≤ 1000000) (hsl : sl ≤ 1000000) (q : UInt32) {DA : Option Addr} {dc : Nat} {d : List Nat} (hd : Row M 1 DA p dc (intsL d)) (i : Nat) (hi : i < p) {bo bs bq bd : Nat}
    [i1 : Has L bo (.cells (List.toArray o.cells) 62 (0, 0))] [i2 : Has L bs (.cells (List.toArray (seedC NA nl nc SA sl sc)) 58 (0, 0))] [i3 : Has L bq (.cells (List.toArray [.int .u32 (q.toNat : Int)]) 28 (0, 0))] [i4 : Has L bd (.cells (List.toArray [.slice DA p dc]) 47 (0, 0))] :
    Con Tryd.prog 62 #[.int .i64 (i : Int), .pointer (some ⟨bo, 0, none⟩), .pointer (some ⟨bs, 0, none⟩), .pointer (some ⟨bq, 0, none⟩), .pointer (some ⟨bd, 0, none⟩)] G M L (fun v M' L' => L = L' ∧ ∃ A m c, v = .slice A m c ∧ Bytes M' A m c (sigR o name sec q.toNat d i)) noPanic := by
  have hp2 := ho.p2
  have hdl : d.length = p := by have := hd.len; simpa [intsL] using this
  obtain ⟨g, oo, rfl, hcell⟩ := hd.addr (by omega)
  refine enter (args := [_, _, _, _, _]) (fn := Tryd.f62) ⟨Tryd.func62, rfl, by kernel_rfl, by kernel_rfl⟩ 23 rfl ?_
  refine x_seq (x_region ?_)
  refine tl_y rfl (y_assign rfl) ?_
  refine tl_nil (.then_normal ?_)
  refine x_seq ?_
  have he : Le M M := Le.refl _
  refine x_draw 17 hmix rfl ?_
  refine to_y 0 rfl (by kernel_rfl) rfl (y_loadAgg rfl rfl (.own inferInstance inferInstance)) ?_
  refine to_p 1 rfl (by kernel_rfl) rfl (y_fieldAddr rfl) ?_
  refine to_y 2 rfl (by kernel_rfl) rfl (y_load rfl rfl (.own inferInstance inferInstance)) ?_
  refine to_y 3 rfl (by kernel_rfl) rfl (y_load rfl rfl (.own inferInstance inferInstance)) ?_
  refine to_p 4 rfl (by kernel_rfl) rfl (y_move (v := .int _ _) rfl) ?_
  refine to_y 5 rfl (by kernel_rfl) rfl (y_load rfl rfl (.own inferInstance inferInstance)) ?_
  refine to_p 6 rfl (by kernel_rfl) rfl (y_move (v := .int _ _) rfl) ?_
  refine to_p 7 rfl (by kernel_rfl) rfl (y_indexAddrK i rfl rfl (by omega)) ?_
  refine to_y 8 rfl (by kernel_rfl) rfl (y_load rfl rfl (.at_ (hcell _ i _ (intsL_at (by omega))) (by omega))) ?_
  refine to_y 9 rfl (by kernel_rfl) rfl (y_loadAgg rfl rfl (.own inferInstance inferInstance)) ?_
  refine to_y 10 rfl (by kernel_rfl) rfl (y_loadAgg rfl rfl (.own inferInstance inferInstance)) ?_
  refine to_y 11 rfl (by kernel_rfl) rfl (y_load rfl rfl (.own inferInstance inferInstance)) ?_
  refine to_p 12 rfl (by kernel_rfl) rfl (y_move (v := .int _ _) rfl) ?_
  refine to_p 13 rfl (by kernel_rfl) rfl (y_convE (b := (i : Int)) rfl (by rw [wrapU16]; omega)) ?_
  refine to_e 14 rfl (by kernel_rfl) rfl (e_call' rfl (ohid_spec hg o hname hsec hnl hsl q i (by omega)) ?_)
  rintro _ M2 _ hM2 ⟨rfl, A2, m2, c2, rfl, hA2⟩
  replace he := he.trans hM2
  refine ⟨⟨(by first | exact Le.refl _ | assumption), Keeps.mem⟩, ?_⟩
  refine to_e 15 rfl (by kernel_rfl) rfl (e_call' rfl (Up_spec' (hg.mono he).sha (hg.mono he).kec (hg.mono he).set o (hname.mono he) hA2 q i 0 ((d.getD i 0 : Nat) : Int)) ?_)
  rintro _ M3 _ hM3 ⟨rfl, A3, m3, c3, rfl, hA3⟩
  replace he := he.trans hM3
  refine ⟨⟨(by first | exact Le.refl _ | assumption), Keeps.mem⟩, ?_⟩
  refine to_p 16 rfl (by kernel_rfl) rfl (y_assign (v := .slice _ _ _) rfl) ?_
  refine to_nil (by kernel_rfl) (.then_normal ?_)
  refine .sub (F' := [(6, _)]) (.cons rfl .nil) ?_
  refine x_ret (ret1 rfl rfl he ⟨rfl, _, _, _, rfl, hA3⟩)
theorem oSign_spec (hg : ChG M) (o : OtsV) (hname : Bytes M NA nl nc name) (hsec : Bytes M SA sl sc sec) (q : UInt32) (htext : Bytes M TA tl tc text) :
    Con Tryd.prog 32 #[.agg (List.toArray o.cells), .agg (List.toArray (seedC NA nl nc SA sl sc)), .int .u32 (q.toNat : Int), .slice TA tl tc] G M L (fun v M' L' => L = L' ∧ ∃ A m c, v = .slice A m c ∧ Bytes M' A m c (if okY o nl sl ∧ tl ≤ 65536 then sigB o name sec q.toNat text else [])) noPanic := by
  refine enter (args := [_, _, _, _]) (fn := Tryd.f32) ⟨Tryd.func32, rfl, by kernel_rfl, by kernel_rfl⟩ 43 rfl ?_
  refine x_seq (x_region ?_)
  refine tl_e rfl (e_box rfl (fun b1 => ?_))
  refine tl_e rfl (e_box rfl (fun b2 => ?_))
  refine tl_e rfl (e_box rfl (fun b3 => ?_))
  refine tl_y rfl (y_assign rfl) ?_
  refine tl_nil (.then_normal ?_)
  refine .sub (F' := [(3, _), (4, _), (5, _), (6, _)]) (.cons rfl (.cons rfl (.cons rfl (.cons rfl .nil)))) ?_
  refine x_seq (x_seq (x_region ?_))
  refine tl_y rfl (y_loadAgg rfl rfl (.own inferInstance inferInstance)) ?_
  refine tl_y rfl (y_loadAgg rfl rfl (.own inferInstance inferInstance)) ?_
  refine tl_e rfl (e_call' rfl (oMay_spec hg.set o) ?_)
  rintro _ M1 _ hM1 ⟨rfl, rfl⟩
  refine tl_y rfl (y_notd rfl) ?_
  refine tl_y rfl (y_move (v := .bool _) rfl) ?_
  refine tl_cases (s := 16) rfl (fun hk1 => ?_) (fun hk1 => ?_)
  ·
    refine tl_skip rfl ?_
    refine tl_skip rfl ?_
    refine tl_skip rfl ?_
    refine tl_y rfl (y_pickT rfl rfl) ?_
    refine tl_nil (.then_normal ?_)
    refine .sub (F' := [(3, _), (4, _), (5, _), (6, _), (20, _)]) (.cons rfl (.cons rfl (.cons rfl (.cons rfl (.cons rfl .nil))))) ?_
    refine x_true rfl rfl ?_
    refine x_seq (x_region ?_)
    refine tl_y rfl (y_assign rfl) ?_
    refine tl_nil (.then_normal ?_)
    refine .sub (F' := [(8, _)]) (.cons rfl .nil) ?_
    refine x_ret (.then_ret (.dropTo L inferInstance (ret1 rfl rfl hM1 ⟨rfl, _, _, _, rfl, by rw [if_neg (fun h => hk1 h.1)]; exact Row.nil _ _⟩)))
  ·
    refine tl_y rfl (y_move (v := .slice _ _ _) rfl) ?_
    refine tl_y rfl (y_len rfl) ?_
    refine tl_y rfl (y_gtr rfl rfl) ?_
    refine tl_y rfl (y_pickF rfl rfl) ?_
    refine tl_nil (.then_normal ?_)
    refine .sub (F' := [(3, _), (4, _), (5, _), (6, _), (20, _)]) (.cons rfl (.cons rfl (.cons rfl (.cons rfl (.cons rfl .nil))))) ?_
    refine x_cond rfl (fun hc1 => ?_) (fun hc1 => ?_)
    ·
      refine x_seq (x_region ?_)
      refine tl_y rfl (y_assign rfl) ?_
      refine tl_nil (.then_normal ?_)
      refine .sub (F' := [(8, _)]) (.cons rfl .nil) ?_
      refine x_ret (.then_ret (.dropTo L inferInstance (ret1 rfl rfl hM1 ⟨rfl, _, _, _, rfl, by rw [if_neg (fun h => by have := h.2; omega)]; exact Row.nil _ _⟩)))
    ·
      have hok : okY o nl sl := Classical.not_not.1 hk1
      obtain ⟨n, w, p, ho⟩ := okO_facts hok.1
      have hn32 := ho.n32
      have hn := ho.hn
      have hsl := hok.2.2
      have hnl := hok.2.1
      have hp2 := ho.p2
      have hcl := o.code.toNat_lt
      have htl := htext.size
      refine x_skip (.then_normal ?_)
      refine x_seq (x_region ?_)
      refine tl_y rfl (y_loadAgg rfl rfl (.own inferInstance inferInstance)) ?_
      refine tl_y rfl (y_loadAgg rfl rfl (.own inferInstance inferInstance)) ?_
      refine tl_y rfl (y_load rfl rfl (.own inferInstance inferInstance)) ?_
      refine tl_e rfl (e_call' rfl (ohid_spec (hg.mono hM1) o (hname.mono hM1) (hsec.mono hM1) (by omega) (by omega) q 65533 (by omega)) ?_)
      rintro _ M2 _ hM2 ⟨rfl, A2, m2, c2, rfl, hA2⟩
      have hd := hM1.trans hM2
      have hm2 := hA2.size
      rw [hidB_len ho] at hm2
      subst hm2
      refine tl_y rfl (y_assign (v := .slice _ _ _) rfl) ?_
      refine tl_nil (.then_normal ?_)
      refine .sub (F' := [(3, _), (4, _), (5, _), (6, _), (9, _)]) (.cons rfl (.cons rfl (.cons rfl (.cons rfl (.cons rfl .nil))))) ?_
      refine x_seq (x_region ?_)
      refine tl_y rfl (y_loadAgg rfl rfl (.own inferInstance inferInstance)) ?_
      refine tl_y rfl (y_fieldAddr rfl) ?_
      refine tl_y rfl (y_load rfl rfl (.own inferInstance inferInstance)) ?_
      refine tl_y rfl (y_load rfl rfl (.own inferInstance inferInstance)) ?_
      refine tl_y rfl (y_move (v := .slice _ _ _) rfl) ?_
      refine tl_y rfl (y_move (v := .slice _ _ _) rfl) ?_
      refine tl_e rfl (e_call' rfl (osum_spec (hg.mono hd) o ho (hname.mono hd) hnl q hA2 (htext.mono hd) (by omega) (by omega)) ?_)
      rintro _ M3 _ hM3 ⟨rfl, A3, c3, rfl, hr3⟩
      replace hd := hd.trans hM3
      obtain ⟨ds, hds⟩ : ∃ ds, ds = digO o name q.toNat (hidB o name sec q.toNat 65533) text := ⟨_, rfl⟩
      rw [← hds] at hr3
      refine tl_e rfl (e_alloc (fun b4 => ?_))
      refine tl_e rfl (e_store rfl rfl (by rfl) (by rfl) inferInstance inferInstance inferInstance ?_)
      refine tl_nil (.then_normal ?_)
      refine .sub (F' := [(4, _), (5, _), (6, _), (9, _), (10, _)]) (.cons rfl (.cons rfl (.cons rfl (.cons rfl (.cons rfl .nil))))) ?_
      refine x_seq (x_region ?_)
      refine tl_y rfl (y_loadAgg rfl rfl (.own inferInstance inferInstance)) ?_
      refine tl_y rfl (y_makeFunc rfl rfl) ?_
      refine tl_e rfl (e_call' rfl (oall_spec o ho.hp (by omega) (rows := sigR o name sec q.toNat ds) (sigR_le o name sec q.toNat ds) (fun i M2 X hi hM2 hX => by
        haveI i1 : Has X b1 (.cells (List.toArray o.cells) 62 (0, 0)) := ⟨hX _ (Has.mem)⟩
        haveI i2 : Has X b2 (.cells (List.toArray (seedC NA nl nc SA sl sc)) 58 (0, 0)) := ⟨hX _ (Has.mem)⟩
        haveI i3 : Has X b3 (.cells (List.toArray [.int .u32 (q.toNat : Int)]) 28 (0, 0)) := ⟨hX _ (Has.mem)⟩
        haveI i4 : Has X b4 (.cells (List.toArray [.slice A3 p c3]) 47 (0, 0)) := ⟨hX _ (Has.mem)⟩
        exact oSign1_spec ((hg.mono hd).mono hM2) o ho ((hname.mono hd).mono hM2) ((hsec.mono hd).mono hM2) (by omega) (by omega) q (hr3.mono hM2) i hi)) ?_)
      rintro _ M4 _ hM4 ⟨rfl, A4, m4, c4, rfl, hA4⟩
      replace hd := hd.trans hM4
      have hm4 := hA4.size
      have hle := catR_le (sigR_le o name sec q.toNat ds) p
      refine tl_y rfl (y_assign (v := .slice _ _ _) rfl) ?_
      refine tl_nil (.then_normal ?_)
      refine .sub (F' := [(4, _), (9, _), (11, _)]) (.cons rfl (.cons rfl (.cons rfl .nil))) ?_
      refine x_seq (x_region ?_)
      refine tl_y rfl (y_fieldAddr rfl) ?_
      refine tl_y rfl (y_load rfl rfl (.own inferInstance inferInstance)) ?_
      refine tl_y rfl (y_convN64 rfl (by omega)) ?_
      refine tl_e rfl (e_call' rfl (PutV_spec o.code.toNat 4 (by omega) (by omega)) ?_)
      rintro _ M5 _ hM5 ⟨rfl, A5, c5, rfl, hA5⟩
      replace hd := hd.trans hM5
      refine tl_y rfl (y_move (v := .slice _ _ _) rfl) ?_
      refine tl_y rfl (y_move (v := .slice _ _ _) rfl) ?_
      refine tl_e rfl (e_buildSlice rfl (by decide) (fun b7 => ?_))
      refine .pub b7 inferInstance (fun M6 hM6 hb7 => ?_)
      replace hd := hd.trans hM6
      have hfl : [putB o.code.toNat 4, hidB o name sec q.toNat 65533, catR (sigR o name sec q.toNat ds) p].flatten = sigB o name sec q.toNat text := by
        rw [sigB, ho.hp, Int.toNat_natCast, saltB, ← hds]; simp
      have hfll : (sigB o name sec q.toNat text).length ≤ 10000 := by
        rw [← hfl]
        simp only [List.flatten_cons, List.flatten_nil, List.length_append, List.length_nil, putB_length]
        rw [hidB_len ho]
        omega
      refine tl_e rfl (e_call' rfl (Cat_spec (Row.whole hb7 rfl (by omega)) (.cons (hA5.mono hM6) (.cons (hA2.mono (hM3.trans (hM4.trans (hM5.trans hM6)))) (.cons (hA4.mono (hM5.trans hM6)) .nil))) (by rw [hfl]; omega)) ?_)
      rintro _ M7 _ hM7 ⟨rfl, A7, c7, rfl, hA7⟩
      rw [hfl] at hA7
      rw [hfl]
      refine tl_y rfl (y_assign (v := .slice _ _ _) rfl) ?_
      refine tl_nil (.then_normal ?_)
      refine .sub (F' := [(8, _)]) (.cons rfl .nil) ?_
      refine x_ret (.dropTo L inferInstance (ret1 rfl rfl (hd.trans hM7) ⟨rfl, _, _, _, rfl, by rw [if_pos ⟨hok, by omega⟩]; exact hA7⟩))
end
end Go.Proofs.YtbjnjedfoiedeaaDoor
