/-
Contracts of functions, each proved by a walk through its code.
-/
import Derived.Test.YtiimjodbaogjbaaGreatDoorChain3Etc
import Derived.Test.YtiimjodbaogjbaaGreatDoorSetsEtc
set_option linter.unusedVariables false
set_option linter.unusedSimpArgs false
set_option linter.constructorNameAsVariable false
namespace Go.Proofs.YtiimjodbaogjbaaGreatDoor
open Go Go.Eng
abbrev seedC (NA : Option Addr) (nl nc : Nat) (SA : Option Addr) (sl sc : Nat) : List Value := [.slice NA nl nc, .slice SA sl sc]
section
variable {G : World} {M : Mem} {L : Own} {NA SA : Option Addr} {nl nc sl sc : Nat} {name sec : List UInt8}
theorem oMay_spec (hs : SetG M) (o : OtsV) :
    Con Tryz.prog 137 #[.agg (List.toArray o.cells), .agg (List.toArray (seedC NA nl nc SA sl sc))] G M L (fun v M' L' => L = L' ∧ v = .bool (decide (okY o nl sl))) noPanic := by
  refine enter (args := [_, _]) (fn := Tryz.f137) ⟨Tryz.func137, rfl, by kernel_rfl, by kernel_rfl⟩ 34 rfl ?_
  refine x_seq (x_region ?_)
  refine tl_e rfl (e_box rfl (fun b1 => ?_))
  refine tl_e rfl (e_box rfl (fun b2 => ?_))
  refine tl_y rfl (y_assign rfl) ?_
  refine tl_nil (.then_normal ?_)
  refine x_seq (x_region ?_)
  refine tl_y rfl (y_fieldAddr rfl) ?_
  refine tl_y rfl (y_load rfl rfl (.own inferInstance inferInstance)) ?_
  refine tl_e rfl (e_call' rfl (Ots_spec hs o.code) ?_)
  rintro _ M1 _ hM1 ⟨rfl, rfl⟩
  refine tl_y rfl (y_move (v := .tuple _) rfl) ?_
  refine tl_y rfl (y_extract rfl) ?_
  refine tl_y rfl (y_extract rfl) ?_
  refine tl_e rfl (e_alloc (fun b3 => ?_))
  refine tl_e rfl (e_store rfl rfl (by rfl) (by rfl) inferInstance inferInstance inferInstance ?_)
  refine tl_y rfl (y_assign (v := .int _ _) rfl) ?_
  refine tl_nil (.then_normal ?_)
  refine .sub (F' := [(2, _), (3, _), (5, _), (6, _)]) (.cons rfl (.cons rfl (.cons rfl (.cons rfl .nil)))) ?_
  refine x_join (I := fun F D M2 L2 => ∃ b : Bool, (b = true ↔ okY o nl sl) ∧ D = [] ∧ M1 = M2 ∧ DropTo L2 L ∧ F = [(4, .bool b)]) ?_ (fun Jq2 => ?_)
  ·
    rintro _ _ _ L2 ⟨b, hb, rfl, rfl, hdr, rfl⟩  -- slots [4]
    refine x_ret (.dropTo L hdr (ret1 rfl rfl hM1 ⟨rfl, by rw [bool_iff hb]⟩))
  ·
    refine x_region ?_
    refine tl_y rfl (y_move (v := .int _ _) rfl) ?_
    refine tl_y rfl (y_eql rfl rfl) ?_
    refine tl_y rfl (y_move (v := .bool _) rfl) ?_
    refine tl_cases (s := 15) rfl (fun hk1 => ?_) (fun hk1 => ?_)
    ·
      refine tl_y rfl (y_loadAgg rfl rfl (.own inferInstance inferInstance)) ?_
      refine tl_y rfl (y_loadAgg rfl rfl (.own inferInstance inferInstance)) ?_
      refine tl_y rfl (y_eqlS rfl rfl eqs27) ?_
      refine tl_y rfl (y_pickT rfl rfl) ?_
      refine tl_y rfl (y_move (v := .bool _) rfl) ?_
      refine tl_cases (s := 20) rfl (fun hk2 => ?_) (fun hk2 => ?_)
      ·
        refine tl_y rfl (y_fieldAddr rfl) ?_
        refine tl_y rfl (y_load rfl rfl (.own inferInstance inferInstance)) ?_
        refine tl_y rfl (y_len rfl) ?_
        refine tl_y rfl (y_eql rfl rfl) ?_
        refine tl_y rfl (y_pickT rfl rfl) ?_
        refine tl_y rfl (y_move (v := .bool _) rfl) ?_
        refine tl_cases (s := 26) rfl (fun hk3 => ?_) (fun hk3 => ?_)
        ·
          refine tl_y rfl (y_fieldAddr rfl) ?_
          refine tl_y rfl (y_load rfl rfl (.own inferInstance inferInstance)) ?_
          refine tl_y rfl (y_len rfl) ?_
          refine tl_y rfl (y_fieldAddr rfl) ?_
          refine tl_y rfl (y_load rfl rfl (.own inferInstance inferInstance)) ?_
          refine tl_y rfl (y_eql rfl rfl) ?_
          refine tl_y rfl (y_pickT rfl rfl) ?_
          refine tl_y rfl (y_assign (v := .bool _) rfl) ?_
          refine tl_nil (.then_normal (.sub (F' := [(4, _)]) (.cons rfl .nil) (Jq2 _ _ _ _ ?_)))
          exact ⟨_, by
            constructor
            · intro ht
              first | (cases ht; done) | (simp at ht; exact ⟨⟨hk1, ots_eq hk2⟩, by omega, by omega⟩)
            · rintro ⟨⟨a1, a2⟩, a3, a4⟩
              first | exact absurd a1 hk1 | exact absurd (eq_ots a2) hk2 | (simp; omega) | omega, rfl, rfl, inferInstance, rfl⟩
        ·
          refine tl_skip rfl ?_
          refine tl_skip rfl ?_
          refine tl_skip rfl ?_
          refine tl_skip rfl ?_
          refine tl_skip rfl ?_
          refine tl_skip rfl ?_
          refine tl_y rfl (y_pickF rfl rfl) ?_
          refine tl_y rfl (y_assign (v := .bool _) rfl) ?_
          refine tl_nil (.then_normal (.sub (F' := [(4, _)]) (.cons rfl .nil) (Jq2 _ _ _ _ ?_)))
          exact ⟨_, by
            constructor
            · intro ht
              first | (cases ht; done) | (simp at ht; exact ⟨⟨hk1, ots_eq hk2⟩, by omega, by omega⟩)
            · rintro ⟨⟨a1, a2⟩, a3, a4⟩
              first | exact absurd a1 hk1 | exact absurd (eq_ots a2) hk2 | (simp; omega) | omega, rfl, rfl, inferInstance, rfl⟩
      ·
        refine tl_skip rfl ?_
        refine tl_skip rfl ?_
        refine tl_skip rfl ?_
        refine tl_skip rfl ?_
        refine tl_y rfl (y_pickF rfl rfl) ?_
        refine tl_y rfl (y_move (v := .bool _) rfl) ?_
        refine tl_skip rfl ?_
        refine tl_skip rfl ?_
        refine tl_skip rfl ?_
        refine tl_skip rfl ?_
        refine tl_skip rfl ?_
        refine tl_skip rfl ?_
        refine tl_y rfl (y_pickF rfl rfl) ?_
        refine tl_y rfl (y_assign (v := .bool _) rfl) ?_
        refine tl_nil (.then_normal (.sub (F' := [(4, _)]) (.cons rfl .nil) (Jq2 _ _ _ _ ?_)))
        exact ⟨_, by
          constructor
          · intro ht
            first | (cases ht; done) | (simp at ht; exact ⟨⟨hk1, ots_eq hk2⟩, by omega, by omega⟩)
          · rintro ⟨⟨a1, a2⟩, a3, a4⟩
            first | exact absurd a1 hk1 | exact absurd (eq_ots a2) hk2 | (simp; omega) | omega, rfl, rfl, inferInstance, rfl⟩
    ·
      refine tl_skip rfl ?_
      refine tl_skip rfl ?_
      refine tl_skip rfl ?_
      refine tl_y rfl (y_pickF rfl rfl) ?_
      refine tl_y rfl (y_move (v := .bool _) rfl) ?_
      refine tl_skip rfl ?_
      refine tl_skip rfl ?_
      refine tl_skip rfl ?_
      refine tl_skip rfl ?_
      refine tl_y rfl (y_pickF rfl rfl) ?_
      refine tl_y rfl (y_move (v := .bool _) rfl) ?_
      refine tl_skip rfl ?_
      refine tl_skip rfl ?_
      refine tl_skip rfl ?_
      refine tl_skip rfl ?_
      refine tl_skip rfl ?_
      refine tl_skip rfl ?_
      refine tl_y rfl (y_pickF rfl rfl) ?_
      refine tl_y rfl (y_assign (v := .bool _) rfl) ?_
      refine tl_nil (.then_normal (.sub (F' := [(4, _)]) (.cons rfl .nil) (Jq2 _ _ _ _ ?_)))
      exact ⟨_, by
        constructor
        · intro ht
          first | (cases ht; done) | (simp at ht; exact ⟨⟨hk1, ots_eq hk2⟩, by omega, by omega⟩)
        · rintro ⟨⟨a1, a2⟩, a3, a4⟩
          first | exact absurd a1 hk1 | exact absurd (eq_ots a2) hk2 | (simp; omega) | omega, rfl, rfl, inferInstance, rfl⟩
theorem otop_spec (o : OtsV) {n w p : Nat} (ho : OF o n w p) :
    Con Tryz.prog 188 #[.agg (List.toArray o.cells)] G M L (fun v M' L' => M = M' ∧ L = L' ∧ v = .int .i64 (topN o)) noPanic := by
  have hsh := shl1_w ho.isw
  have hw2 := ho.w2
  have ht : topN o = ((2 ^ w : Nat) : Int) - 1 := by rw [topN, ho.hw, Int.toNat_natCast, pw2]
  rw [pw2] at hw2
  refine enter (args := [_]) (fn := Tryz.f188) ⟨Tryz.func188, rfl, by kernel_rfl, by kernel_rfl⟩ 7 rfl ?_
  refine x_seq (x_region ?_)
  refine tl_e rfl (e_box rfl (fun b1 => ?_))
  refine tl_y rfl (y_assign rfl) ?_
  refine tl_nil (.then_normal ?_)
  refine x_seq (x_region ?_)
  refine tl_y rfl (y_fieldAddr rfl) ?_
  refine tl_y rfl (y_load (v := .int .i64 (w : Int)) rfl rfl (by rw [← ho.hw]; exact .own inferInstance inferInstance)) ?_
  refine tl_y rfl (y_shl rfl rfl (by omega)) ?_
  rw [hsh]
  refine tl_y rfl (y_subI rfl rfl (by omega)) ?_
  refine tl_y rfl (y_assign (v := .int _ _) rfl) ?_
  refine tl_nil (.then_normal ?_)
  refine .sub (F' := [(2, _)]) (.cons rfl .nil) ?_
  refine x_ret (.dropTo L inferInstance (ret1 rfl rfl (Le.refl _) ⟨rfl, rfl, by rw [ht]⟩))
theorem ohid_spec (hg : ChG M) (o : OtsV) (hname : Bytes M NA nl nc name) (hsec : Bytes M SA sl sc sec) (hnl : nl ≤ 1000000) (hsl : sl ≤ 1000000) (q : UInt32) (d : Nat) (hd : d ≤ 65535) :
    Con Tryz.prog 150 #[.agg (List.toArray o.cells), .agg (List.toArray (seedC NA nl nc SA sl sc)), .int .u32 (q.toNat : Int), .int .u16 (d : Int)] G M L (fun v M' L' => L = L' ∧ ∃ A m c, v = .slice A m c ∧ Bytes M' A m c (hidB o name sec q.toNat d)) noPanic := by
  have hn1 := hname.size
  have hn2 := hsec.size
  have hq := q.toNat_lt
  refine enter (args := [_, _, _, _]) (fn := Tryz.f150) ⟨Tryz.func150, rfl, by kernel_rfl, by kernel_rfl⟩ 26 rfl ?_
  refine x_seq (x_region ?_)
  refine tl_e rfl (e_box rfl (fun b1 => ?_))
  refine tl_e rfl (e_box rfl (fun b2 => ?_))
  refine tl_y rfl (y_assign rfl) ?_
  refine tl_nil (.then_normal ?_)
  refine x_seq ?_
  have he : Le M M := Le.refl _
  refine x_draw 18 hmix rfl ?_
  refine to_p 0 rfl (by kernel_rfl) rfl (y_fieldAddr rfl) ?_
  refine to_y 1 rfl (by kernel_rfl) rfl (y_load rfl rfl (.own inferInstance inferInstance)) ?_
  refine to_p 2 rfl (by kernel_rfl) rfl (y_fieldAddr rfl) ?_
  refine to_y 3 rfl (by kernel_rfl) rfl (y_load rfl rfl (.own inferInstance inferInstance)) ?_
  refine to_p 4 rfl (by kernel_rfl) rfl (y_fieldAddr rfl) ?_
  refine to_y 5 rfl (by kernel_rfl) rfl (y_load rfl rfl (.own inferInstance inferInstance)) ?_
  refine to_p 6 rfl (by kernel_rfl) rfl (y_move (v := .int _ _) rfl) ?_
  refine to_p 7 rfl (by kernel_rfl) rfl (y_convN64 rfl (by omega)) ?_
  refine to_p 9 rfl (by kernel_rfl) rfl (y_move (v := .int _ _) rfl) ?_
  refine to_p 10 rfl (by kernel_rfl) rfl (y_convN64 rfl (by omega)) ?_
  refine to_p 13 rfl (by kernel_rfl) rfl (y_fieldAddr rfl) ?_
  refine to_y 14 rfl (by kernel_rfl) rfl (y_load rfl rfl (.own inferInstance inferInstance)) ?_
  refine to_two 8 12 (by kernel_rfl) ?_ ?_
  ·
    refine two_e 8 rfl rfl (e_call' rfl (PutV_spec q.toNat 4 (by omega) (by omega)) ?_)
    rintro _ M2 _ hM2 ⟨rfl, A2, c2, rfl, hA2⟩
    replace he := he.trans hM2
    refine ⟨⟨(by first | exact Le.refl _ | assumption), Keeps.mem⟩, ?_⟩
    refine to_two 11 12 (by kernel_rfl) ?_ ?_
    ·
      refine two_e 11 rfl rfl (e_call' rfl (PutV_spec d 2 (by omega) (by omega)) ?_)
      rintro _ M3 _ hM3 ⟨rfl, A3, c3, rfl, hA3⟩
      replace he := he.trans hM3
      refine ⟨⟨(by first | exact Le.refl _ | assumption), Keeps.mem⟩, ?_⟩
      refine to_e 12 rfl (by kernel_rfl) rfl (e_buildSlice rfl (by decide) (fun b7 => ?_))
      refine ⟨⟨he, Keeps.mem⟩, ?_⟩
      refine .pub b7 inferInstance (fun M4 hM4 hb7 => ?_)
      replace he := he.trans hM4
      refine to_e 15 rfl (by kernel_rfl) rfl (e_buildSlice rfl (by decide) (fun b8 => ?_))
      refine ⟨⟨he, Keeps.mem⟩, ?_⟩
      refine .pub b8 inferInstance (fun M5 hM5 hb8 => ?_)
      replace he := he.trans hM5
      have hA4 : Bytes M4 (some ⟨b7, 0, none⟩) 1 1 [255] := Row.whole hb7 rfl (by omega)
      have hA2' : Bytes M5 A2 4 c2 (putB q.toNat 4) := hA2.mono (by first | exact hM3.trans (hM4.trans hM5) | exact hM4.trans (hM3.trans hM5) | exact hM3.trans hM5)
      have hA3' : Bytes M5 A3 2 c3 (putB d 2) := hA3.mono (by first | exact hM4.trans hM5 | exact hM5 | exact hM2.trans (hM4.trans hM5) | exact hM2.trans hM5)
      have hA4' : Bytes M5 (some ⟨b7, 0, none⟩) 1 1 [255] := hA4.mono (by first | exact hM5 | exact hM3.trans hM5 | exact hM2.trans (hM3.trans hM5))
      have hfl : [name, putB q.toNat 4, putB d 2, [255], sec].flatten = name ++ (putB q.toNat 4 ++ (putB d 2 ++ (255 :: sec))) := by simp
      have hfll : (name ++ (putB q.toNat 4 ++ (putB d 2 ++ (255 :: sec)))).length = nl + 7 + sl := by rw [List.length_append, List.length_append, List.length_append, putB_length, putB_length, List.length_cons]; omega
      refine to_e 16 rfl (by kernel_rfl) rfl (e_call' rfl (Sum_spec (hg.sha.mono he) (hg.kec.mono he) o.kind o.n (Row.whole hb8 rfl (by omega)) (.cons (hname.mono he) (.cons hA2' (.cons hA3' (.cons hA4' (.cons (hsec.mono he) .nil))))) (by rw [hfl, hfll]; omega)) ?_)
      rintro _ M6 _ hM6 ⟨rfl, A6, m6, c6, rfl, hA6⟩
      rw [hfl] at hA6
      replace he := he.trans hM6
      refine ⟨⟨he, Keeps.mem⟩, ?_⟩
      refine to_p 17 rfl (by kernel_rfl) rfl (y_assign (v := .slice _ _ _) rfl) ?_
      refine to_nil (by kernel_rfl) (.then_normal ?_)
      refine .sub (F' := [(8, _)]) (.cons rfl .nil) ?_
      refine x_ret (.dropTo L inferInstance (ret1 rfl rfl he ⟨rfl, _, _, _, rfl, hA6⟩))
    ·
      refine two_e 12 rfl rfl (e_buildSlice rfl (by decide) (fun b7 => ?_))
      refine ⟨⟨he, Keeps.mem⟩, ?_⟩
      refine .pub b7 inferInstance (fun M4 hM4 hb7 => ?_)
      replace he := he.trans hM4
      refine to_e 11 rfl (by kernel_rfl) rfl (e_call' rfl (PutV_spec d 2 (by omega) (by omega)) ?_)
      rintro _ M3 _ hM3 ⟨rfl, A3, c3, rfl, hA3⟩
      replace he := he.trans hM3
      refine ⟨⟨(by first | exact Le.refl _ | assumption), Keeps.mem⟩, ?_⟩
      refine to_e 15 rfl (by kernel_rfl) rfl (e_buildSlice rfl (by decide) (fun b8 => ?_))
      refine ⟨⟨he, Keeps.mem⟩, ?_⟩
      refine .pub b8 inferInstance (fun M5 hM5 hb8 => ?_)
      replace he := he.trans hM5
      have hA4 : Bytes M4 (some ⟨b7, 0, none⟩) 1 1 [255] := Row.whole hb7 rfl (by omega)
      have hA2' : Bytes M5 A2 4 c2 (putB q.toNat 4) := hA2.mono (by first | exact hM3.trans (hM4.trans hM5) | exact hM4.trans (hM3.trans hM5) | exact hM3.trans hM5)
      have hA3' : Bytes M5 A3 2 c3 (putB d 2) := hA3.mono (by first | exact hM4.trans hM5 | exact hM5 | exact hM2.trans (hM4.trans hM5) | exact hM2.trans hM5)
      have hA4' : Bytes M5 (some ⟨b7, 0, none⟩) 1 1 [255] := hA4.mono (by first | exact hM5 | exact hM3.trans hM5 | exact hM2.trans (hM3.trans hM5))
      have hfl : [name, putB q.toNat 4, putB d 2, [255], sec].flatten = name ++ (putB q.toNat 4 ++ (putB d 2 ++ (255 :: sec))) := by simp
      have hfll : (name ++ (putB q.toNat 4 ++ (putB d 2 ++ (255 :: sec)))).length = nl + 7 + sl := by rw [List.length_append, List.length_append, List.length_append, putB_length, putB_length, List.length_cons]; omega
      refine to_e 16 rfl (by kernel_rfl) rfl (e_call' rfl (Sum_spec (hg.sha.mono he) (hg.kec.mono he) o.kind o.n (Row.whole hb8 rfl (by omega)) (.cons (hname.mono he) (.cons hA2' (.cons hA3' (.cons hA4' (.cons (hsec.mono he) .nil))))) (by rw [hfl, hfll]; omega)) ?_)
      rintro _ M6 _ hM6 ⟨rfl, A6, m6, c6, rfl, hA6⟩
      rw [hfl] at hA6
      replace he := he.trans hM6
      refine ⟨⟨he, Keeps.mem⟩, ?_⟩
      refine to_p 17 rfl (by kernel_rfl) rfl (y_assign (v := .slice _ _ _) rfl) ?_
      refine to_nil (by kernel_rfl) (.then_normal ?_)
      refine .sub (F' := [(8, _)]) (.cons rfl .nil) ?_
      refine x_ret (.dropTo L inferInstance (ret1 rfl rfl he ⟨rfl, _, _, _, rfl, hA6⟩))
  ·
    refine two_e 12 rfl rfl (e_buildSlice rfl (by decide) (fun b7 => ?_))
    refine ⟨⟨he, Keeps.mem⟩, ?_⟩
    refine .pub b7 inferInstance (fun M4 hM4 hb7 => ?_)
    replace he := he.trans hM4
    refine to_e 8 rfl (by kernel_rfl) rfl (e_call' rfl (PutV_spec q.toNat 4 (by omega) (by omega)) ?_)
    rintro _ M2 _ hM2 ⟨rfl, A2, c2, rfl, hA2⟩
    replace he := he.trans hM2
    refine ⟨⟨(by first | exact Le.refl _ | assumption), Keeps.mem⟩, ?_⟩
    refine to_e 11 rfl (by kernel_rfl) rfl (e_call' rfl (PutV_spec d 2 (by omega) (by omega)) ?_)
    rintro _ M3 _ hM3 ⟨rfl, A3, c3, rfl, hA3⟩
    replace he := he.trans hM3
    refine ⟨⟨(by first | exact Le.refl _ | assumption), Keeps.mem⟩, ?_⟩
    refine to_e 15 rfl (by kernel_rfl) rfl (e_buildSlice rfl (by decide) (fun b8 => ?_))
    refine ⟨⟨he, Keeps.mem⟩, ?_⟩
    refine .pub b8 inferInstance (fun M5 hM5 hb8 => ?_)
    replace he := he.trans hM5
    have hA4 : Bytes M4 (some ⟨b7, 0, none⟩) 1 1 [255] := Row.whole hb7 rfl (by omega)
    have hA2' : Bytes M5 A2 4 c2 (putB q.toNat 4) := hA2.mono (by first | exact hM3.trans (hM4.trans hM5) | exact hM4.trans (hM3.trans hM5) | exact hM3.trans hM5)
    have hA3' : Bytes M5 A3 2 c3 (putB d 2) := hA3.mono (by first | exact hM4.trans hM5 | exact hM5 | exact hM2.trans (hM4.trans hM5) | exact hM2.trans hM5)
    have hA4' : Bytes M5 (some ⟨b7, 0, none⟩) 1 1 [255] := hA4.mono (by first | exact hM5 | exact hM3.trans hM5 | exact hM2.trans (hM3.trans hM5))
    have hfl : [name, putB q.toNat 4, putB d 2, [255], sec].flatten = name ++ (putB q.toNat 4 ++ (putB d 2 ++ (255 :: sec))) := by simp
    have hfll : (name ++ (putB q.toNat 4 ++ (putB d 2 ++ (255 :: sec)))).length = nl + 7 + sl := by rw [List.length_append, List.length_append, List.length_append, putB_length, putB_length, List.length_cons]; omega
    refine to_e 16 rfl (by kernel_rfl) rfl (e_call' rfl (Sum_spec (hg.sha.mono he) (hg.kec.mono he) o.kind o.n (Row.whole hb8 rfl (by omega)) (.cons (hname.mono he) (.cons hA2' (.cons hA3' (.cons hA4' (.cons (hsec.mono he) .nil))))) (by rw [hfl, hfll]; omega)) ?_)
    rintro _ M6 _ hM6 ⟨rfl, A6, m6, c6, rfl, hA6⟩
    rw [hfl] at hA6
    replace he := he.trans hM6
    refine ⟨⟨he, Keeps.mem⟩, ?_⟩
    refine to_p 17 rfl (by kernel_rfl) rfl (y_assign (v := .slice _ _ _) rfl) ?_
    refine to_nil (by kernel_rfl) (.then_normal ?_)
    refine .sub (F' := [(8, _)]) (.cons rfl .nil) ?_
    refine x_ret (.dropTo L inferInstance (ret1 rfl rfl he ⟨rfl, _, _, _, rfl, hA6⟩))
end
end Go.Proofs.YtiimjodbaogjbaaGreatDoor
set_option linter.unusedVariables false
set_option linter.unusedSimpArgs false
set_option linter.constructorNameAsVariable false
namespace Go.Proofs.YtiimjodbaogjbaaGreatDoor
open Go Go.Eng
section
variable {G : World} {M : Mem} {L : Own} {NA SA : Option Addr} {nl nc sl sc : Nat} {name sec : List UInt8}
theorem oall_spec (o : OtsV) {p : Nat} (hp : o.p = (p : Int)) (hp5 : p ≤ 1000) {fid : FuncId} {cap : List Value} {rows : Nat → List UInt8} (hl : ∀ i, (rows i).length ≤ 32)
    (hdo : ∀ (i : Nat) (M1 : Mem) (X : Own), i < p → Le M M1 → (∀ e ∈ L, e ∈ X) → Con Tryz.prog fid (([] : List Value) ++ [Value.int .i64 (i : Int)] ++ cap).toArray G M1 X (fun v M' L' => X = L' ∧ ∃ A m c, v = .slice A m c ∧ Bytes M' A m c (rows i)) noPanic) :
    Con Tryz.prog 152 #[.agg (List.toArray o.cells), .func (.func fid) (List.toArray []) cap.toArray] G M L (fun v M' L' => L = L' ∧ ∃ A m c, v = .slice A m c ∧ Bytes M' A m c (catR rows p)) noPanic := by
  refine enter (args := [_, _]) (fn := Tryz.f152) ⟨Tryz.func152, rfl, by kernel_rfl, by kernel_rfl⟩ 19 rfl ?_
  refine x_seq (x_region ?_)
  refine tl_e rfl (e_box rfl (fun b1 => ?_))
  refine tl_y rfl (y_assign rfl) ?_
  refine tl_nil (.then_normal ?_)
  refine x_seq (x_region ?_)
  refine tl_y rfl (y_assign rfl) ?_
  refine tl_nil (.then_normal ?_)
  refine x_seq (x_seq (x_region ?_))
  refine tl_y rfl (y_fieldAddr rfl) ?_
  refine tl_y rfl (y_load (v := .int .i64 (p : Int)) rfl rfl (by rw [← hp]; exact .own inferInstance inferInstance)) ?_
  refine tl_y rfl (y_move rfl) ?_
  refine tl_nil (.then_normal ?_)
  refine .sub (F' := [(1, _), (5, _), (8, _), (9, _)]) (.cons rfl (.cons rfl (.cons rfl (.cons rfl .nil)))) ?_
  refine x_block ?_
  refine x_loop (I := fun m' F D M1 L1 => ∃ (i : Nat) (A : Option Addr) (m c : Nat) (E : Own), m' = p - i ∧ i ≤ p ∧ Le M M1 ∧ m = (catR rows i).length ∧ OwnRow 5 1 A m c ((catR rows i).map bv) E ∧ D = [] ∧ L1 = E ++ ((b1, .cells (List.toArray o.cells) 27 (0, 0)) :: L) ∧ F = [(1, .func (.func fid) (List.toArray []) cap.toArray), (5, .slice A m c), (8, .int .i64 (p : Int)), (9, .int .i64 (i : Int))]) (p) (F0 := [(1, _), (5, _), (8, _), (9, _)]) ?_ (.cons rfl (.cons rfl (.cons rfl (.cons rfl .nil)))) ?_  -- slots [1, 5, 8, 9], written [5, 9]
  · exact ⟨0, none, 0, 0, [], rfl, by omega, Le.refl _, rfl, .nil, rfl, rfl, rfl⟩
  rintro m _ _ M1 _ ⟨i, A, m, c, E, rfl, hi, hM1, hm, hE, rfl, rfl, rfl⟩
  refine x_seq (x_region ?_)
  refine tl_y rfl (y_lss rfl rfl) ?_
  refine tl_nil (.then_normal ?_)
  refine x_seq ?_
  refine x_cond rfl (fun hc1 => ?_) (fun hc1 => ?_)
  ·
    have hip : i < p := by omega
    have hle := catR_le hl i
    have hli := hl i
    refine x_skip (.then_normal ?_)
    refine x_seq ?_
    refine x_block ?_
    refine x_seq (x_region ?_)
    refine tl_y rfl (y_move (v := .int _ _) rfl) ?_
    refine tl_y rfl (y_assign (v := .int _ _) rfl) ?_
    refine tl_nil (.then_normal ?_)
    refine x_region ?_
    refine tl_y rfl (y_move (v := .slice _ _ _) rfl) ?_
    refine tl_y rfl (y_move (v := .func _ _ _) rfl) ?_
    refine tl_y rfl (y_move (v := .int _ _) rfl) ?_
    refine tl_e rfl (e_callv rfl rfl (hdo i M1 _ hip hM1 Keeps.mem) (fun _ _ _ _ h => h.elim) ?_)
    rintro _ M2 _ hM2 ⟨rfl, A2, m2, c2, rfl, hA2⟩
    have hm2 := hA2.size
    refine tl_e rfl (e_append (by decide) rfl rfl hE (.row hA2) (all_one_bv _) (by omega) (by omega) (fun A7 c7 E7 hE7 => ?_))
    rw [← List.map_append, ← catR_succ] at hE7
    refine tl_y rfl (y_assign (v := .slice _ _ _) rfl) ?_
    refine tl_nil (.block_normal (.then_normal ?_))
    refine .sub (F' := [(1, _), (5, _), (8, _), (9, _)]) (.cons rfl (.cons rfl (.cons rfl (.cons rfl .nil)))) ?_
    refine x_region ?_
    refine tl_y rfl (y_addI rfl rfl (by omega)) ?_
    refine tl_y rfl (y_move (v := .int _ _) rfl) ?_
    refine tl_nil (.loop_next (m' := p - (i + 1)) (by omega) (F' := [(1, _), (5, _), (8, _), (9, _)]) (.cons rfl (.cons rfl (.cons rfl (.cons rfl .nil)))) ?_)
    exact ⟨i + 1, A7, m + m2, c7, E7, rfl, by omega, hM1.trans hM2, by rw [catR_succ, List.length_append]; omega, hE7, rfl, rfl, rfl⟩
  ·
    obtain rfl : i = p := by omega
    refine .pubRow hE (fun M4 hM4 hrow => ?_)
    refine x_exit (.then_exit (.loop_exit (.block_exit (.then_normal ?_))))
    refine .sub (F' := [(5, _)]) (.cons rfl .nil) ?_
    refine x_seq (x_region ?_)
    refine tl_y rfl (y_move (v := .slice _ _ _) rfl) ?_
    refine tl_y rfl (y_assign (v := .slice _ _ _) rfl) ?_
    refine tl_nil (.then_normal ?_)
    refine x_ret (.dropTo L inferInstance (ret1 rfl rfl (hM1.trans hM4) ⟨rfl, _, _, _, rfl, hrow⟩))
theorem oKey1_spec (hg : ChG M) (o : OtsV) {n w p : Nat} (ho : OF o n w p) (hname : Bytes M NA nl nc name) (hsec : Bytes M SA sl sc sec) (hnl : nl ≤ 1000000) (hsl : sl ≤ 1000000) (q : UInt32) (i : Nat) (hi : i ≤ 65535) {bo bs bq : Nat}
    [i1 : Has L bo (.cells (List.toArray o.cells) 27 (0, 0))] [i2 : Has L bs (.cells (List.toArray (seedC NA nl nc SA sl sc)) 49 (0, 0))] [i3 : Has L bq (.cells (List.toArray [.int .u32 (q.toNat : Int)]) 22 (0, 0))] :
    Con Tryz.prog 187 #[.int .i64 (i : Int), .pointer (some ⟨bo, 0, none⟩), .pointer (some ⟨bs, 0, none⟩), .pointer (some ⟨bq, 0, none⟩)] G M L (fun v M' L' => L = L' ∧ ∃ A m c, v = .slice A m c ∧ Bytes M' A m c (keyR o name sec q.toNat i)) noPanic := by
  refine enter (args := [_, _, _, _]) (fn := Tryz.f187) ⟨Tryz.func187, rfl, by kernel_rfl, by kernel_rfl⟩ 20 rfl ?_
  refine x_seq (x_region ?_)
  refine tl_y rfl (y_assign rfl) ?_
  refine tl_nil (.then_normal ?_)
  refine x_seq ?_
  have he : Le M M := Le.refl _
  refine x_draw 15 hmix rfl ?_
  refine to_y 0 rfl (by kernel_rfl) rfl (y_loadAgg rfl rfl (.own inferInstance inferInstance)) ?_
  refine to_p 1 rfl (by kernel_rfl) rfl (y_fieldAddr rfl) ?_
  refine to_y 2 rfl (by kernel_rfl) rfl (y_load rfl rfl (.own inferInstance inferInstance)) ?_
  refine to_y 3 rfl (by kernel_rfl) rfl (y_load rfl rfl (.own inferInstance inferInstance)) ?_
  refine to_p 4 rfl (by kernel_rfl) rfl (y_move (v := .int _ _) rfl) ?_
  refine to_y 5 rfl (by kernel_rfl) rfl (y_loadAgg rfl rfl (.own inferInstance inferInstance)) ?_
  refine to_y 7 rfl (by kernel_rfl) rfl (y_loadAgg rfl rfl (.own inferInstance inferInstance)) ?_
  refine to_y 8 rfl (by kernel_rfl) rfl (y_loadAgg rfl rfl (.own inferInstance inferInstance)) ?_
  refine to_y 9 rfl (by kernel_rfl) rfl (y_load rfl rfl (.own inferInstance inferInstance)) ?_
  refine to_p 10 rfl (by kernel_rfl) rfl (y_move (v := .int _ _) rfl) ?_
  refine to_p 11 rfl (by kernel_rfl) rfl (y_convE (b := (i : Int)) rfl (by rw [wrapU16]; omega)) ?_
  refine to_e 6 rfl (by kernel_rfl) rfl (e_call' rfl (otop_spec o ho) ?_)
  rintro _ _ _ _ ⟨rfl, rfl, rfl⟩
  refine ⟨⟨(by first | exact Le.refl _ | assumption), Keeps.mem⟩, ?_⟩
  refine to_e 12 rfl (by kernel_rfl) rfl (e_call' rfl (ohid_spec hg o hname hsec hnl hsl q i hi) ?_)
  rintro _ M2 _ hM2 ⟨rfl, A2, m2, c2, rfl, hA2⟩
  replace he := he.trans hM2
  refine ⟨⟨(by first | exact Le.refl _ | assumption), Keeps.mem⟩, ?_⟩
  refine to_e 13 rfl (by kernel_rfl) rfl (e_call' rfl (Up_spec' (hg.mono he).sha (hg.mono he).kec (hg.mono he).set o (hname.mono he) hA2 q i 0 (topN o)) ?_)
  rintro _ M3 _ hM3 ⟨rfl, A3, m3, c3, rfl, hA3⟩
  replace he := he.trans hM3
  refine ⟨⟨(by first | exact Le.refl _ | assumption), Keeps.mem⟩, ?_⟩
  refine to_p 14 rfl (by kernel_rfl) rfl (y_assign (v := .slice _ _ _) rfl) ?_
  refine to_nil (by kernel_rfl) (.then_normal ?_)
  refine .sub (F' := [(5, _)]) (.cons rfl .nil) ?_
  refine x_ret (ret1 rfl rfl he ⟨rfl, _, _, _, rfl, hA3⟩)
theorem oKey_spec (hg : ChG M) (o : OtsV) (hname : Bytes M NA nl nc name) (hsec : Bytes M SA sl sc sec) (q : UInt32) :
    Con Tryz.prog 146 #[.agg (List.toArray o.cells), .agg (List.toArray (seedC NA nl nc SA sl sc)), .int .u32 (q.toNat : Int)] G M L (fun v M' L' => L = L' ∧ ∃ A m c, v = .slice A m c ∧ Bytes M' A m c (if okY o nl sl then keyB o name sec q.toNat else [])) noPanic := by
  refine enter (args := [_, _, _]) (fn := Tryz.f146) ⟨Tryz.func146, rfl, by kernel_rfl, by kernel_rfl⟩ 25 rfl ?_
  refine x_seq (x_region ?_)
  refine tl_e rfl (e_box rfl (fun b1 => ?_))
  refine tl_e rfl (e_box rfl (fun b2 => ?_))
  refine tl_e rfl (e_box rfl (fun b3 => ?_))
  refine tl_y rfl (y_assign rfl) ?_
  refine tl_nil (.then_normal ?_)
  refine .sub (F' := [(3, _), (4, _), (5, _)]) (.cons rfl (.cons rfl (.cons rfl .nil))) ?_
  refine x_seq (x_seq (x_region ?_))
  refine tl_y rfl (y_loadAgg rfl rfl (.own inferInstance inferInstance)) ?_
  refine tl_y rfl (y_loadAgg rfl rfl (.own inferInstance inferInstance)) ?_
  refine tl_e rfl (e_call' rfl (oMay_spec hg.set o) ?_)
  rintro _ M1 _ hM1 ⟨rfl, rfl⟩
  refine tl_y rfl (y_notd rfl) ?_
  refine tl_nil (.then_normal ?_)
  refine x_cond rfl (fun hc1 => ?_) (fun hc1 => ?_)
  ·
    refine x_seq (x_region ?_)
    refine tl_y rfl (y_assign rfl) ?_
    refine tl_nil (.then_normal ?_)
    refine .sub (F' := [(6, _)]) (.cons rfl .nil) ?_
    refine x_ret (.then_ret (.dropTo L inferInstance (ret1 rfl rfl hM1 ⟨rfl, _, _, _, rfl, by rw [if_neg hc1]; exact Row.nil _ _⟩)))
  ·
    have hok : okY o nl sl := Classical.not_not.1 hc1
    obtain ⟨n, w, p, ho⟩ := okO_facts hok.1
    have hn32 := ho.n32
    have hn := ho.hn
    have hsl := hok.2.2
    have hnl := hok.2.1
    have hp2 := ho.p2
    refine x_skip (.then_normal ?_)
    refine .sub (F' := [(3, _), (4, _), (5, _)]) (.cons rfl (.cons rfl (.cons rfl .nil))) ?_
    refine x_seq (x_region ?_)
    refine tl_y rfl (y_loadAgg rfl rfl (.own inferInstance inferInstance)) ?_
    refine tl_y rfl (y_makeFunc rfl rfl) ?_
    refine tl_e rfl (e_call' rfl (oall_spec o ho.hp (by omega) (rows := keyR o name sec q.toNat) (keyR_le o name sec q.toNat) (fun i M2 X hi hM2 hX => by
      haveI i1 : Has X b1 (.cells (List.toArray o.cells) 27 (0, 0)) := ⟨hX _ (Has.mem)⟩
      haveI i2 : Has X b2 (.cells (List.toArray (seedC NA nl nc SA sl sc)) 49 (0, 0)) := ⟨hX _ (Has.mem)⟩
      haveI i3 : Has X b3 (.cells (List.toArray [.int .u32 (q.toNat : Int)]) 22 (0, 0)) := ⟨hX _ (Has.mem)⟩
      exact oKey1_spec ((hg.mono hM1).mono hM2) o ho ((hname.mono hM1).mono hM2) ((hsec.mono hM1).mono hM2) (by omega) (by omega) q i (by omega))) ?_)
    rintro _ M2 _ hM2 ⟨rfl, A2, m2, c2, rfl, hA2⟩
    have hd := hM1.trans hM2
    have hm2 := hA2.size
    have hle := catR_le (keyR_le o name sec q.toNat) p
    refine tl_y rfl (y_assign (v := .slice _ _ _) rfl) ?_
    refine tl_nil (.then_normal ?_)
    refine x_seq (x_region ?_)
    refine tl_y rfl (y_fieldAddr rfl) ?_
    refine tl_y rfl (y_load rfl rfl (.own inferInstance inferInstance)) ?_
    refine tl_y rfl (y_fieldAddr rfl) ?_
    refine tl_y rfl (y_load rfl rfl (.own inferInstance inferInstance)) ?_
    refine tl_y rfl (y_fieldAddr rfl) ?_
    refine tl_y rfl (y_load rfl rfl (.own inferInstance inferInstance)) ?_
    refine tl_y rfl (y_load rfl rfl (.own inferInstance inferInstance)) ?_
    refine tl_y rfl (y_move (v := .slice _ _ _) rfl) ?_
    refine tl_e rfl (e_buildSlice rfl (by decide) (fun b7 => ?_))
    refine .pub b7 inferInstance (fun M3 hM3 hb7 => ?_)
    replace hd := hd.trans hM3
    refine tl_e rfl (e_call' rfl (Part_spec (hg.mono hd).sha (hg.mono hd).kec o.kind o.n (hname.mono hd) q 32896 (by omega) (Row.whole hb7 rfl (by omega)) (.cons (hA2.mono hM3) .nil) (by simp only [List.flatten_cons, List.flatten_nil, List.length_append, List.length_nil]; omega)) ?_)
    rintro _ M4 _ hM4 ⟨rfl, A4, m4, c4, rfl, hA4⟩
    rw [show [catR (keyR o name sec q.toNat) p].flatten = catR (keyR o name sec q.toNat) p by simp] at hA4
    refine tl_y rfl (y_assign (v := .slice _ _ _) rfl) ?_
    refine tl_nil (.then_normal ?_)
    refine .sub (F' := [(6, _)]) (.cons rfl .nil) ?_
    refine x_ret (.dropTo L inferInstance (ret1 rfl rfl (hd.trans hM4) ⟨rfl, _, _, _, rfl, by rw [if_pos hok, keyB, ho.hp, Int.toNat_natCast]; exact hA4⟩))
end
end Go.Proofs.YtiimjodbaogjbaaGreatDoor
set_option linter.unusedVariables false
set_option linter.unusedSimpArgs false
set_option linter.constructorNameAsVariable false
namespace Go.Proofs.YtiimjodbaogjbaaGreatDoor
open Go Go.Eng
def sigC (bs : List UInt8) : UInt32 := UInt32.ofNat (getB (bs.take 4))
def ofV (bs : List UInt8) : OtsV × Int :=
  if bs.length < 4 then (ots0, 2) else if otsE (sigC bs) ≠ 0 then (ots0, otsE (sigC bs)) else if bs.length ≠ sizeN (otsV (sigC bs)) then (ots0, 5) else (otsV (sigC bs), 0)
theorem otsV_code {c : UInt32} (h : otsE c = 0) : (otsV c).code = c ∧ okO (otsV c) := by
  obtain ⟨k, hk, e1, e2, e3⟩ := otsE_some h
  have hc : (otsV c).code = c := by
    rw [e2]
    apply UInt32.toNat_inj.1
    show (UInt32.ofNat (k + 1)).toNat = c.toNat
    rw [UInt32.toNat_ofNat', e3, Nat.mod_eq_of_lt (by omega)]
  exact ⟨hc, by rw [okO, hc]; exact ⟨h, rfl⟩⟩
theorem OF.size {o : OtsV} {n w p : Nat} (h : OF o n w p) : sizeN o = 4 + n * (p + 1) ∧ n * (p + 1) = n * p + n ∧ n * p ≤ 32 * 265 := by
  refine ⟨by rw [sizeN, h.hn, h.hp, Int.toNat_natCast, Int.toNat_natCast], Nat.mul_succ n p, Nat.mul_le_mul h.n32.2 h.p2⟩
section
variable {G : World} {M : Mem} {L : Own} {NA SA TA YA : Option Addr} {nl nc sl sc tl tc yl yc : Nat} {name sec text y : List UInt8}
theorem oSize_spec (o : OtsV) {n w p : Nat} (ho : OF o n w p) :
    Con Tryz.prog 128 #[.agg (List.toArray o.cells)] G M L (fun v M' L' => M = M' ∧ L = L' ∧ v = .int .i64 ((sizeN o : Nat) : Int)) noPanic := by
  obtain ⟨h1, h2, h3⟩ := ho.size
  have hn32 := ho.n32
  have hp2 := ho.p2
  have hm : (n : Int) * ((p : Int) + 1) = ((n * (p + 1) : Nat) : Int) := by push_cast; rfl
  refine enter (args := [_]) (fn := Tryz.f128) ⟨Tryz.func128, rfl, by kernel_rfl, by kernel_rfl⟩ 10 rfl ?_
  refine x_seq (x_region ?_)
  refine tl_e rfl (e_box rfl (fun b1 => ?_))
  refine tl_y rfl (y_assign rfl) ?_
  refine tl_nil (.then_normal ?_)
  refine x_seq (x_region ?_)
  refine tl_y rfl (y_fieldAddr rfl) ?_
  refine tl_y rfl (y_load (v := .int .i64 (n : Int)) rfl rfl (by rw [← ho.hn]; exact .own inferInstance inferInstance)) ?_
  refine tl_y rfl (y_fieldAddr rfl) ?_
  refine tl_y rfl (y_load (v := .int .i64 (p : Int)) rfl rfl (by rw [← ho.hp]; exact .own inferInstance inferInstance)) ?_
  refine tl_y rfl (y_addI rfl rfl (by omega)) ?_
  have hmb : -9223372036854775808 ≤ (n : Int) * ((p : Int) + 1) ∧ (n : Int) * ((p : Int) + 1) ≤ 9223372036854775807 := by rw [hm]; omega
  refine tl_y rfl (y_mulI rfl rfl hmb) ?_
  rw [hm]
  refine tl_y rfl (y_addI rfl rfl (by omega)) ?_
  refine tl_y rfl (y_assign (v := .int _ _) rfl) ?_
  refine tl_nil (.then_normal ?_)
  refine .sub (F' := [(2, _)]) (.cons rfl .nil) ?_
  refine x_ret (.dropTo L inferInstance (ret1 rfl rfl (Le.refl _) ⟨rfl, rfl, by rw [h1]; congr 1⟩))
def staE (nl tl : Nat) (sig : List UInt8) : Int := if nl ≠ 16 ∨ tl > 65536 then 1 else (ofV sig).2
def staV (nl tl : Nat) (name : List UInt8) (q : Nat) (text sig : List UInt8) : List UInt8 := if staE nl tl sig = 0 then staB (ofV sig).1 name q text sig else []
end
end Go.Proofs.YtiimjodbaogjbaaGreatDoor
set_option linter.unusedVariables false
set_option linter.unusedSimpArgs false
namespace Go.Proofs.YtiimjodbaogjbaaGreatDoor
open Go Go.Eng
theorem drop_at {a b : List UInt8} {k : Nat} (h : a.length = k) : (a ++ b).drop k = b := by subst h; exact List.drop_left
theorem take_at {a b : List UInt8} {k : Nat} (h : a.length = k) : (a ++ b).take k = a := by subst h; exact List.take_left
end Go.Proofs.YtiimjodbaogjbaaGreatDoor
set_option linter.unusedVariables false
set_option linter.unusedSimpArgs false
set_option linter.constructorNameAsVariable false
namespace Go.Proofs.YtiimjodbaogjbaaGreatDoor
open Go Go.Eng
def leavesN (h : Int) : Nat := if h < 1 ∨ 25 < h then 0 else pw2 h.toNat
theorem pw2_25 {h : Nat} (hh : h ≤ 25) : pw2 h ≤ 33554432 := pw2_le (k := 25) hh
theorem pw2_pos (h : Nat) : 1 ≤ pw2 h := Nat.one_le_two_pow
theorem shl64_one {h : Nat} (hh : h ≤ 25) : (shl64 1 h).toNat = pw2 h := by
  have h1 := pw2_25 hh
  have h2 : pw2 h = 2 ^ h := rfl
  rw [shl64, UInt64.toNat_ofNat', show (1 : UInt64).toNat = 1 from rfl, Nat.one_mul, ← h2, Nat.mod_eq_of_lt (by omega)]
theorem treeOf_own {c : UInt32} (h : ¬ (c.toNat < 4026531841)) : treeOf c = if c.toNat - 4026531841 < 16 then some (treeT c (c.toNat - 4026531841) 4) else none := by
  rw [treeOf, if_neg (by omega)]
  by_cases h2 : c.toNat - 4026531841 < 16
  · rw [if_pos (by omega), if_pos h2]
  · rw [if_neg (by omega), if_neg h2]
theorem treeOf_std {c : UInt32} (h : c.toNat < 4026531841) : treeOf c = if 5 ≤ c.toNat ∧ c.toNat - 5 < 20 then some (treeT c (c.toNat - 5) 5) else none := by
  rw [treeOf]
  by_cases h2 : 5 ≤ c.toNat ∧ c.toNat - 5 < 20
  · rw [if_pos (by omega), if_pos h2]
  · rw [if_neg (by omega), if_neg (by omega), if_neg h2]
section
variable {G : World} {M : Mem} {L : Own}
theorem Tree1_spec (hg : SetT M) (code : UInt32) {b : Nat} [hb : Has L b (.cells (List.toArray [.int .u32 (code.toNat : Int)]) 22 (0, 0))] :
    Con Tryz.prog 178 #[.pointer (some ⟨b, 0, none⟩)] G M L (fun v M' L' => L' = L ∧ ∃ o, treeOf code = some o ∧ v = .agg (List.toArray o.cells)) (fun ch M' L' => L' = L ∧ treeOf code = none ∧ ch = unks) := by
  have hc := code.toNat_lt
  have h1 : (5 : UInt32).toNat = 5 := rfl
  have h2 : (4026531841 : UInt32).toNat = 4026531841 := rfl
  obtain ⟨ht, hf, hh⟩ := hg.heights
  obtain ⟨ot, of_, ho⟩ := hg.own
  refine enter (args := [_]) (fn := Tryz.f178) ⟨Tryz.func178, rfl, by kernel_rfl, by kernel_rfl⟩ 36 rfl ?_
  refine x_seq (x_region ?_)
  refine tl_e rfl (e_alloc (fun b1 => ?_))
  refine tl_nil (.then_normal ?_)
  refine x_seq (x_seq (x_region ?_))
  refine tl_y rfl (y_load rfl rfl (.own inferInstance inferInstance)) ?_
  refine tl_y rfl (y_geq rfl rfl) ?_
  refine tl_nil (.then_normal ?_)
  refine x_cond rfl (fun hc1 => ?_) (fun hc1 => ?_)
  ·
    refine x_seq (x_region ?_)
    refine tl_y rfl (y_load rfl rfl (.own inferInstance inferInstance)) ?_
    refine tl_e rfl (e_call rfl (setsAt_spec hg.sums code 4026531841 4 (by omega)) (by
      rintro _ _ _ _ ⟨rfl, rfl, hne, rfl⟩
      exact TP.dropTo L inferInstance (.retA rfl (Le.refl _) ⟨rfl, by rw [treeOf_own (by omega), if_neg (by omega)], rfl⟩)) ?_)
    rintro _ _ _ _ ⟨rfl, rfl, hle, hlt, rfl⟩
    rw [h2] at hle hlt ⊢
    have hto : treeOf code = some (treeT code (code.toNat - 4026531841) 4) := by rw [treeOf_own (by omega), if_pos (by omega)]
    obtain ⟨i, hi⟩ : ∃ i, i = code.toNat - 4026531841 := ⟨_, rfl⟩
    rw [← hi] at hlt hto ⊢
    have hi4 : i % 4 < 4 := Nat.mod_lt _ (by omega)
    refine tl_y rfl (y_move (v := .tuple _) rfl) ?_
    refine tl_y rfl (y_extract rfl) ?_
    refine tl_y rfl (y_extract rfl) ?_
    refine tl_e rfl (e_alloc (fun b2 => ?_))
    refine tl_e rfl (e_store rfl rfl (by rfl) (by rfl) inferInstance inferInstance inferInstance ?_)
    refine tl_y rfl (y_assign (v := .int _ _) rfl) ?_
    refine tl_nil (.then_normal ?_)
    refine .sub (F' := [(0, _), (1, _), (2, _), (3, _)]) (.cons rfl (.cons rfl (.cons rfl (.cons rfl .nil)))) ?_
    refine x_seq ?_
    refine x_draw 9 hmix rfl ?_
    refine to_y 0 rfl (by kernel_rfl) rfl (y_load rfl rfl (.own inferInstance inferInstance)) ?_
    refine to_p 1 rfl (by kernel_rfl) rfl (y_fieldAddr rfl) ?_
    refine to_y 2 rfl (by kernel_rfl) rfl (y_load rfl rfl (.own inferInstance inferInstance)) ?_
    refine to_p 3 rfl (by kernel_rfl) rfl (y_fieldAddr rfl) ?_
    refine to_y 4 rfl (by kernel_rfl) rfl (y_load rfl rfl (.own inferInstance inferInstance)) ?_
    refine to_p 5 rfl (by kernel_rfl) rfl (y_move (v := .int _ _) rfl) ?_
    refine to_p 6 rfl (by kernel_rfl) rfl (y_indexArr rfl rfl (by omega)) ?_
    refine to_y 7 rfl (by kernel_rfl) rfl (y_load rfl rfl (.at_ (.ro (i := i % 4) ho (by rw [List.getElem?_toArray]; exact own_get _ hi4)) (by omega))) ?_
    refine to_p 8 rfl (by kernel_rfl) rfl (y_build rfl) ?_
    refine to_t 9 rfl (by kernel_rfl) (by kernel_rfl) rfl (e_store rfl rfl (by rfl) (by rfl) inferInstance inferInstance inferInstance ?_)
    refine to_nil (by kernel_rfl) (.then_normal ?_)
    refine .sub (F' := [(1, _)]) (.cons rfl .nil) ?_
    refine x_ret (.then_ret (retRV (L' := L) (rv1 rfl (rc_cellAgg (by rfl) rfl (.own inferInstance inferInstance))) inferInstance (Le.refl _) ⟨rfl, _, hto, rfl⟩))
  ·
    refine x_skip (.then_normal ?_)
    refine x_seq (x_region ?_)
    refine tl_y rfl (y_load rfl rfl (.own inferInstance inferInstance)) ?_
    refine tl_e rfl (e_call rfl (setsAt_spec hg.sums code 5 5 (by omega)) (by
      rintro _ _ _ _ ⟨rfl, rfl, hne, rfl⟩
      exact TP.dropTo L inferInstance (.retA rfl (Le.refl _) ⟨rfl, by rw [treeOf_std (by omega), if_neg (by omega)], rfl⟩)) ?_)
    rintro _ _ _ _ ⟨rfl, rfl, hle, hlt, rfl⟩
    rw [h1] at hle hlt ⊢
    have hto : treeOf code = some (treeT code (code.toNat - 5) 5) := by rw [treeOf_std (by omega), if_pos (by omega)]
    obtain ⟨i, hi⟩ : ∃ i, i = code.toNat - 5 := ⟨_, rfl⟩
    rw [← hi] at hlt hto ⊢
    have hi5 : i % 5 < 5 := Nat.mod_lt _ (by omega)
    refine tl_y rfl (y_move (v := .tuple _) rfl) ?_
    refine tl_y rfl (y_extract rfl) ?_
    refine tl_y rfl (y_extract rfl) ?_
    refine tl_e rfl (e_alloc (fun b3 => ?_))
    refine tl_e rfl (e_store rfl rfl (by rfl) (by rfl) inferInstance inferInstance inferInstance ?_)
    refine tl_y rfl (y_assign (v := .int _ _) rfl) ?_
    refine tl_nil (.then_normal ?_)
    refine .sub (F' := [(0, _), (1, _), (4, _), (5, _)]) (.cons rfl (.cons rfl (.cons rfl (.cons rfl .nil)))) ?_
    refine x_seq ?_
    refine x_draw 9 hmix rfl ?_
    refine to_y 0 rfl (by kernel_rfl) rfl (y_load rfl rfl (.own inferInstance inferInstance)) ?_
    refine to_p 1 rfl (by kernel_rfl) rfl (y_fieldAddr rfl) ?_
    refine to_y 2 rfl (by kernel_rfl) rfl (y_load rfl rfl (.own inferInstance inferInstance)) ?_
    refine to_p 3 rfl (by kernel_rfl) rfl (y_fieldAddr rfl) ?_
    refine to_y 4 rfl (by kernel_rfl) rfl (y_load rfl rfl (.own inferInstance inferInstance)) ?_
    refine to_p 5 rfl (by kernel_rfl) rfl (y_move (v := .int _ _) rfl) ?_
    refine to_p 6 rfl (by kernel_rfl) rfl (y_indexArr rfl rfl (by omega)) ?_
    refine to_y 7 rfl (by kernel_rfl) rfl (y_load rfl rfl (.at_ (.ro (i := i % 5) hh (by rw [List.getElem?_toArray]; exact heights_get _ hi5)) (by omega))) ?_
    refine to_p 8 rfl (by kernel_rfl) rfl (y_build rfl) ?_
    refine to_t 9 rfl (by kernel_rfl) (by kernel_rfl) rfl (e_store rfl rfl (by rfl) (by rfl) inferInstance inferInstance inferInstance ?_)
    refine to_nil (by kernel_rfl) (.then_normal ?_)
    refine .sub (F' := [(1, _)]) (.cons rfl .nil) ?_
    refine x_ret (retRV (L' := L) (rv1 rfl (rc_cellAgg (by rfl) rfl (.own inferInstance inferInstance))) inferInstance (Le.refl _) ⟨rfl, _, hto, rfl⟩)
theorem Tree_spec (hg : SetT M) (code : UInt32) :
    Con Tryz.prog 126 #[.int .u32 (code.toNat : Int)] G M L (fun v M' L' => L = L' ∧ v = .tuple #[.agg (List.toArray (treeV code).cells), .int .i64 (treeE code)]) noPanic := by
  refine enter (args := [_]) (fn := Tryz.f126) ⟨Tryz.func126, rfl, by kernel_rfl, by kernel_rfl⟩ 8 rfl ?_
  refine x_seq (x_region ?_)
  refine tl_e rfl (e_box rfl (fun b1 => ?_))
  refine tl_e rfl (e_alloc (fun b2 => ?_))
  refine tl_y rfl (y_assign rfl) ?_
  refine tl_nil (.then_normal ?_)
  refine x_seq (x_region ?_)
  refine tl_y rfl (y_makeFunc rfl rfl) ?_
  refine tl_e rfl (e_call' rfl (caughtT_spec (r := treeOf code) (first := []) (cap := [.pointer (some ⟨b1, 0, none⟩)]) (fun p q => Tree1_spec hg code)) ?_)
  rintro _ M1 _ hM1 ⟨rfl, rfl⟩
  refine tl_y rfl (y_extract rfl) ?_
  refine tl_y rfl (y_extract rfl) ?_
  refine tl_e rfl (e_store rfl rfl (by rfl) (by rfl) inferInstance inferInstance inferInstance ?_)
  refine tl_y rfl (y_assign (v := .int _ _) rfl) ?_
  refine tl_nil (.then_normal ?_)
  refine .sub (F' := [(2, _), (3, _)]) (.cons rfl (.cons rfl .nil)) ?_
  refine x_ret (retRV (L' := L) (rv2 rfl (rc_cellAgg (by rfl) rfl (.own inferInstance inferInstance)) (rc_tmp (by rfl))) inferInstance hM1 ⟨rfl, rfl⟩)
theorem Leaves_spec (t : TreeV) :
    Con Tryz.prog 93 #[.agg (List.toArray t.cells)] G M L (fun v M' L' => M = M' ∧ L = L' ∧ v = .int .u64 (leavesN t.h : Nat)) noPanic := by
  refine enter (args := [_]) (fn := Tryz.f93) ⟨Tryz.func93, rfl, by kernel_rfl, by kernel_rfl⟩ 14 rfl ?_
  refine x_seq (x_region ?_)
  refine tl_e rfl (e_box rfl (fun b1 => ?_))
  refine tl_y rfl (y_assign rfl) ?_
  refine tl_nil (.then_normal ?_)
  refine x_seq (x_seq (x_region ?_))
  refine tl_y rfl (y_fieldAddr rfl) ?_
  refine tl_y rfl (y_load rfl rfl (.own inferInstance inferInstance)) ?_
  refine tl_y rfl (y_lss rfl rfl) ?_
  refine tl_y rfl (y_move (v := .bool _) rfl) ?_
  refine tl_cases (s := 6) rfl (fun hk1 => ?_) (fun hk1 => ?_)
  ·
    refine tl_skip rfl ?_
    refine tl_skip rfl ?_
    refine tl_skip rfl ?_
    refine tl_y rfl (y_pickT rfl rfl) ?_
    refine tl_nil (.then_normal ?_)
    refine .sub (F' := [(1, _), (10, _)]) (.cons rfl (.cons rfl .nil)) ?_
    refine x_true rfl rfl ?_
    refine x_seq (x_region ?_)
    refine tl_y rfl (y_assign rfl) ?_
    refine tl_nil (.then_normal ?_)
    refine x_ret (.then_ret (.dropTo L inferInstance (ret1 rfl rfl (Le.refl _) ⟨rfl, rfl, by rw [leavesN, if_pos (by omega)]; rfl⟩)))
  ·
    refine tl_y rfl (y_fieldAddr rfl) ?_
    refine tl_y rfl (y_load rfl rfl (.own inferInstance inferInstance)) ?_
    refine tl_y rfl (y_gtr rfl rfl) ?_
    refine tl_y rfl (y_pickF rfl rfl) ?_
    refine tl_nil (.then_normal ?_)
    refine .sub (F' := [(1, _), (10, _)]) (.cons rfl (.cons rfl .nil)) ?_
    refine x_cond rfl (fun hc1 => ?_) (fun hc1 => ?_)
    ·
      refine x_seq (x_region ?_)
      refine tl_y rfl (y_assign rfl) ?_
      refine tl_nil (.then_normal ?_)
      refine x_ret (.then_ret (.dropTo L inferInstance (ret1 rfl rfl (Le.refl _) ⟨rfl, rfl, by rw [leavesN, if_pos (by omega)]; rfl⟩)))
    ·
      obtain ⟨h', hh⟩ : ∃ h' : Nat, t.h = (h' : Int) := ⟨t.h.toNat, by omega⟩
      have hlv : leavesN t.h = pw2 h' := by rw [leavesN, if_neg (by omega), hh, Int.toNat_natCast]
      rw [hlv]
      refine x_skip (.then_normal ?_)
      refine x_seq (x_region ?_)
      refine tl_y rfl (y_fieldAddr rfl) ?_
      refine tl_y rfl (y_load rfl rfl (.own inferInstance inferInstance)) ?_
      rw [hh]
      refine tl_y rfl (y_shl64 (a := 1) rfl rfl) ?_
      rw [show u64v (shl64 1 h') = .int .u64 ((pw2 h' : Nat) : Int) from congrArg (fun (x : Nat) => Value.int .u64 (x : Int)) (shl64_one (by omega))]
      refine tl_y rfl (y_assign (v := .int _ _) rfl) ?_
      refine tl_nil (.then_normal ?_)
      refine .sub (F' := [(2, _)]) (.cons rfl .nil) ?_
      refine x_ret (.dropTo L inferInstance (ret1 rfl rfl (Le.refl _) ⟨rfl, rfl, rfl⟩))
end
end Go.Proofs.YtiimjodbaogjbaaGreatDoor
set_option linter.unusedVariables false
set_option linter.unusedSimpArgs false
namespace Go.Proofs.YtiimjodbaogjbaaGreatDoor
open Go Go.Eng
theorem treeE_some {c : UInt32} (h : treeE c = 0) : ∃ x, treeOf c = some x ∧ treeV c = x := by
  unfold treeE at h
  unfold treeV
  cases e : treeOf c with
  | none => rw [e] at h; exact absurd h (by decide)
  | some x => exact ⟨x, rfl, rfl⟩
theorem treeT_facts (c : UInt32) : (∀ i, i < 20 → okC (treeT c i 5).kind (treeT c i 5).n ∧ 1 ≤ (treeT c i 5).h ∧ (treeT c i 5).h ≤ 25) ∧ (∀ i, i < 16 → okC (treeT c i 4).kind (treeT c i 4).n ∧ 1 ≤ (treeT c i 4).h ∧ (treeT c i 4).h ≤ 25) := by
  have h1 : ∀ i : Fin 20, okC (treeT 0 i.val 5).kind (treeT 0 i.val 5).n ∧ 1 ≤ (treeT 0 i.val 5).h ∧ (treeT 0 i.val 5).h ≤ 25 := by decide +kernel
  have h2 : ∀ i : Fin 16, okC (treeT 0 i.val 4).kind (treeT 0 i.val 4).n ∧ 1 ≤ (treeT 0 i.val 4).h ∧ (treeT 0 i.val 4).h ≤ 25 := by decide +kernel
  exact ⟨fun i hi => h1 ⟨i, hi⟩, fun i hi => h2 ⟨i, hi⟩⟩
theorem treeV_facts {c : UInt32} (h : treeE c = 0) : okC (treeV c).kind (treeV c).n ∧ 1 ≤ (treeV c).h ∧ (treeV c).h ≤ 25 := by
  obtain ⟨x, h1, h2⟩ := treeE_some h
  rw [h2]
  unfold treeOf at h1
  split at h1
  · obtain rfl := Option.some.inj h1; exact (treeT_facts c).1 _ (by omega)
  · split at h1
    · obtain rfl := Option.some.inj h1; exact (treeT_facts c).2 _ (by omega)
    · cases h1
theorem tree_eq {a b : TreeV} (h : (a.code.toNat : Int) = b.code.toNat ∧ a.kind = b.kind ∧ a.n = b.n ∧ a.h = b.h ∧ True) : a = b := by
  obtain ⟨h1, h2, h3, h4, _⟩ := h
  cases a; cases b
  simp only [TreeV.mk.injEq]
  exact ⟨UInt32.toNat_inj.1 (Int.ofNat_inj.1 h1), h2, h3, h4⟩
theorem eq_tree {a b : TreeV} (h : a = b) : (a.code.toNat : Int) = b.code.toNat ∧ a.kind = b.kind ∧ a.n = b.n ∧ a.h = b.h ∧ True := by
  subst h; exact ⟨rfl, rfl, rfl, rfl, trivial⟩
theorem pw2_half {a b : Nat} (h : b < a) : pw2 (a - b) / 2 = pw2 (a - (b + 1)) ∧ pw2 (a - b) = 2 * pw2 (a - (b + 1)) := by
  have : a - b = (a - (b + 1)) + 1 := by omega
  rw [this, pw2, pw2, Nat.pow_succ]
  omega
end Go.Proofs.YtiimjodbaogjbaaGreatDoor
set_option linter.unusedVariables false
set_option linter.unusedSimpArgs false
namespace Go.Proofs.YtiimjodbaogjbaaGreatDoor
open Go Go.Eng
def okS (t : TreeV) (nl : Nat) : Prop := treeE t.code = 0 ∧ treeV t.code = t ∧ nl = 16
instance {t : TreeV} {nl : Nat} : Decidable (okS t nl) := inferInstanceAs (Decidable (_ ∧ _))
def okM (t : TreeV) (nl kl : Nat) : Prop := okS t nl ∧ t.h ≤ 10 ∧ kl = leavesN t.h
instance {t : TreeV} {nl kl : Nat} : Decidable (okM t nl kl) := inferInstanceAs (Decidable (_ ∧ _))
theorem okS_facts {t : TreeV} {nl : Nat} (h : okS t nl) : okC t.kind t.n ∧ ∃ H : Nat, t.h = (H : Int) ∧ 1 ≤ H ∧ H ≤ 25 ∧ leavesN t.h = pw2 H := by
  have hf := treeV_facts h.1
  rw [h.2.1] at hf
  refine ⟨hf.1, t.h.toNat, by omega, by omega, by omega, by rw [leavesN, if_neg (by omega)]⟩
def leafB (t : TreeV) (name : List UInt8) (q : Nat) (key : List UInt8) : List UInt8 := cPart t.kind t.n name (pw2 t.h.toNat + q) 33410 key
def innB (t : TreeV) (name : List UInt8) (place : Nat) (text : List UInt8) : List UInt8 := cPart t.kind t.n name place 33667 text
def leavesB (t : TreeV) (name : List UInt8) (keys : List (List UInt8)) (k : Nat) : List (List UInt8) := (List.range k).map fun q => leafB t name q (keys.getD q [])
def nextB (t : TreeV) (name : List UInt8) (row : List (List UInt8)) (k : Nat) : List (List UInt8) := (List.range k).map fun i => innB t name (row.length / 2 + i) (row.getD (2 * i) [] ++ row.getD (2 * i + 1) [])
def lvl (t : TreeV) (name : List UInt8) (keys : List (List UInt8)) : Nat → List (List UInt8)
  | 0 => leavesB t name keys keys.length
  | h + 1 => nextB t name (lvl t name keys h) ((lvl t name keys h).length / 2)
theorem leavesB_len (t : TreeV) (name : List UInt8) (keys : List (List UInt8)) (k : Nat) : (leavesB t name keys k).length = k := by simp [leavesB]
theorem nextB_len (t : TreeV) (name : List UInt8) (row : List (List UInt8)) (k : Nat) : (nextB t name row k).length = k := by simp [nextB]
theorem leavesB_succ (t : TreeV) (name : List UInt8) (keys : List (List UInt8)) (k : Nat) : leavesB t name keys (k + 1) = leavesB t name keys k ++ [leafB t name k (keys.getD k [])] := by
  rw [leavesB, List.range_succ, List.map_append]; rfl
theorem nextB_succ (t : TreeV) (name : List UInt8) (row : List (List UInt8)) (k : Nat) : nextB t name row (k + 1) = nextB t name row k ++ [innB t name (row.length / 2 + k) (row.getD (2 * k) [] ++ row.getD (2 * k + 1) [])] := by
  rw [nextB, List.range_succ, List.map_append]; rfl
theorem lvl_len (t : TreeV) (name : List UInt8) (keys : List (List UInt8)) {H : Nat} (hk : keys.length = pw2 H) : ∀ h, h ≤ H → (lvl t name keys h).length = pw2 (H - h)
  | 0, _ => by rw [lvl, leavesB_len, hk, Nat.sub_zero]
  | h + 1, hh => by rw [lvl, nextB_len, lvl_len t name keys hk h (by omega), (pw2_half (by omega)).1]
theorem cSum_le (kind n : Int) (text : List UInt8) : (cSum kind n text).length ≤ 32 := by
  unfold cSum
  split
  · rename_i h
    rw [csum_length h _ (sha_length _)]
    rcases h.2 with h | h <;> subst h <;> decide
  · simp
theorem cPart_le (kind n : Int) (name : List UInt8) (q d : Nat) (text : List UInt8) : (cPart kind n name q d text).length ≤ 32 := by
  unfold cPart
  split
  · exact cSum_le _ _ _
  · simp
theorem innB_le (t : TreeV) (name : List UInt8) (q : Nat) (text : List UInt8) : (innB t name q text).length ≤ 32 := cPart_le _ _ _ _ _ _
theorem leafB_le (t : TreeV) (name : List UInt8) (q : Nat) (text : List UInt8) : (leafB t name q text).length ≤ 32 := cPart_le _ _ _ _ _ _
def short32 (row : List (List UInt8)) : Prop := ∀ b ∈ row, b.length ≤ 32
theorem short32.get {row : List (List UInt8)} (h : short32 row) (i : Nat) : (row.getD i []).length ≤ 32 := by
  by_cases hi : i < row.length
  · exact h _ (getD_mem _ _ _ hi)
  · rw [List.getD_eq_getElem?_getD, List.getElem?_eq_none (by omega)]; simp
theorem leavesB_short (t : TreeV) (name : List UInt8) (keys : List (List UInt8)) (k : Nat) : short32 (leavesB t name keys k) := by
  intro b hb
  rw [leavesB, List.mem_map] at hb
  obtain ⟨q, _, rfl⟩ := hb
  exact leafB_le _ _ _ _
theorem nextB_short (t : TreeV) (name : List UInt8) (row : List (List UInt8)) (k : Nat) : short32 (nextB t name row k) := by
  intro b hb
  rw [nextB, List.mem_map] at hb
  obtain ⟨q, _, rfl⟩ := hb
  exact innB_le _ _ _ _
theorem lvl_short (t : TreeV) (name : List UInt8) (keys : List (List UInt8)) : ∀ h, short32 (lvl t name keys h)
  | 0 => leavesB_short _ _ _ _
  | h + 1 => nextB_short _ _ _ _
end Go.Proofs.YtiimjodbaogjbaaGreatDoor
set_option linter.unusedVariables false
set_option linter.unusedSimpArgs false
set_option linter.constructorNameAsVariable false
namespace Go.Proofs.YtiimjodbaogjbaaGreatDoor
open Go Go.Eng
structure MrG (M : Mem) : Prop where
  sha : ShaG M
  kec : KecG M
  set : SetT M
theorem MrG.mono {M M' : Mem} (h : MrG M) (hle : Le M M') : MrG M' := ⟨h.sha.mono hle, h.kec.mono hle, h.set.mono hle⟩
theorem shl32_h {H : Nat} (h : H ≤ 25) : (shl32 1 H).toNat = pw2 H := by
  have h1 := pw2_25 h
  have h2 : pw2 H = 2 ^ H := rfl
  rw [shl32, UInt32.toNat_ofNat', show (1 : UInt32).toNat = 1 from rfl, Nat.one_mul, ← h2, Nat.mod_eq_of_lt (by omega)]
section
variable {G : World} {M : Mem} {L : Own}
theorem mright_spec (hg : MrG M) (t : TreeV) {NA : Option Addr} {nl nc : Nat} :
    Con Tryz.prog 183 #[.agg (List.toArray t.cells), .slice NA nl nc] G M L (fun v M' L' => L = L' ∧ v = .bool (decide (okS t nl))) noPanic := by
  refine enter (args := [_, _]) (fn := Tryz.f183) ⟨Tryz.func183, rfl, by kernel_rfl, by kernel_rfl⟩ 25 rfl ?_
  refine x_seq (x_region ?_)
  refine tl_e rfl (e_box rfl (fun b1 => ?_))
  refine tl_y rfl (y_assign rfl) ?_
  refine tl_nil (.then_normal ?_)
  refine x_seq (x_region ?_)
  refine tl_y rfl (y_fieldAddr rfl) ?_
  refine tl_y rfl (y_load rfl rfl (.own inferInstance inferInstance)) ?_
  refine tl_e rfl (e_call' rfl (Tree_spec hg.set t.code) ?_)
  rintro _ M1 _ hM1 ⟨rfl, rfl⟩
  refine tl_y rfl (y_move (v := .tuple _) rfl) ?_
  refine tl_y rfl (y_extract rfl) ?_
  refine tl_y rfl (y_extract rfl) ?_
  refine tl_e rfl (e_alloc (fun b2 => ?_))
  refine tl_e rfl (e_store rfl rfl (by rfl) (by rfl) inferInstance inferInstance inferInstance ?_)
  refine tl_y rfl (y_assign (v := .int _ _) rfl) ?_
  refine tl_nil (.then_normal ?_)
  refine .sub (F' := [(1, _), (2, _), (5, _), (6, _)]) (.cons rfl (.cons rfl (.cons rfl (.cons rfl .nil)))) ?_
  refine x_join (I := fun F D M2 L2 => ∃ b : Bool, (b = true ↔ okS t nl) ∧ D = [] ∧ M1 = M2 ∧ DropTo L2 L ∧ F = [(4, .bool b)]) ?_ (fun Jq2 => ?_)
  ·
    rintro _ _ _ L2 ⟨b, hb, rfl, rfl, hdr, rfl⟩  -- slots [4]
    refine x_ret (.dropTo L hdr (ret1 rfl rfl hM1 ⟨rfl, by rw [bool_iff hb]⟩))
  ·
    refine x_region ?_
    refine tl_y rfl (y_move (v := .int _ _) rfl) ?_
    refine tl_y rfl (y_eql rfl rfl) ?_
    refine tl_y rfl (y_move (v := .bool _) rfl) ?_
    refine tl_cases (s := 15) rfl (fun hk1 => ?_) (fun hk1 => ?_)
    ·
      refine tl_y rfl (y_loadAgg rfl rfl (.own inferInstance inferInstance)) ?_
      refine tl_y rfl (y_loadAgg rfl rfl (.own inferInstance inferInstance)) ?_
      refine tl_y rfl (y_eqlS rfl rfl eqs29) ?_
      refine tl_y rfl (y_pickT rfl rfl) ?_
      refine tl_y rfl (y_move (v := .bool _) rfl) ?_
      refine tl_cases (s := 20) rfl (fun hk2 => ?_) (fun hk2 => ?_)
      ·
        refine tl_y rfl (y_move (v := .slice _ _ _) rfl) ?_
        refine tl_y rfl (y_len rfl) ?_
        refine tl_y rfl (y_eql rfl rfl) ?_
        refine tl_y rfl (y_pickT rfl rfl) ?_
        refine tl_y rfl (y_assign (v := .bool _) rfl) ?_
        refine tl_nil (.then_normal (.sub (F' := [(4, _)]) (.cons rfl .nil) (Jq2 _ _ _ _ ?_)))
        exact ⟨_, by
          constructor
          · intro ht
            first | (cases ht; done) | (simp at ht; exact ⟨hk1, tree_eq hk2, by omega⟩)
          · rintro ⟨a1, a2, a3⟩
            first | exact absurd a1 hk1 | exact absurd (eq_tree a2) hk2 | (simp; omega) | omega, rfl, rfl, inferInstance, rfl⟩
      ·
        refine tl_skip rfl ?_
        refine tl_skip rfl ?_
        refine tl_skip rfl ?_
        refine tl_y rfl (y_pickF rfl rfl) ?_
        refine tl_y rfl (y_assign (v := .bool _) rfl) ?_
        refine tl_nil (.then_normal (.sub (F' := [(4, _)]) (.cons rfl .nil) (Jq2 _ _ _ _ ?_)))
        exact ⟨_, by
          constructor
          · intro ht
            first | (cases ht; done) | (simp at ht; exact ⟨hk1, tree_eq hk2, by omega⟩)
          · rintro ⟨a1, a2, a3⟩
            first | exact absurd a1 hk1 | exact absurd (eq_tree a2) hk2 | (simp; omega) | omega, rfl, rfl, inferInstance, rfl⟩
    ·
      refine tl_skip rfl ?_
      refine tl_skip rfl ?_
      refine tl_skip rfl ?_
      refine tl_y rfl (y_pickF rfl rfl) ?_
      refine tl_y rfl (y_move (v := .bool _) rfl) ?_
      refine tl_skip rfl ?_
      refine tl_skip rfl ?_
      refine tl_skip rfl ?_
      refine tl_y rfl (y_pickF rfl rfl) ?_
      refine tl_y rfl (y_assign (v := .bool _) rfl) ?_
      refine tl_nil (.then_normal (.sub (F' := [(4, _)]) (.cons rfl .nil) (Jq2 _ _ _ _ ?_)))
      exact ⟨_, by
        constructor
        · intro ht
          first | (cases ht; done) | (simp at ht; exact ⟨hk1, tree_eq hk2, by omega⟩)
        · rintro ⟨a1, a2, a3⟩
          first | exact absurd a1 hk1 | exact absurd (eq_tree a2) hk2 | (simp; omega) | omega, rfl, rfl, inferInstance, rfl⟩
theorem May_spec (hg : MrG M) (t : TreeV) {NA KA : Option Addr} {nl nc kl kc : Nat} (hk : kl ≤ 9223372036854775807) :
    Con Tryz.prog 142 #[.agg (List.toArray t.cells), .slice NA nl nc, .slice KA kl kc] G M L (fun v M' L' => L = L' ∧ v = .bool (decide (okM t nl kl))) noPanic := by
  refine enter (args := [_, _, _]) (fn := Tryz.f142) ⟨Tryz.func142, rfl, by kernel_rfl, by kernel_rfl⟩ 23 rfl ?_
  refine x_seq (x_region ?_)
  refine tl_e rfl (e_box rfl (fun b1 => ?_))
  refine tl_y rfl (y_assign rfl) ?_
  refine tl_nil (.then_normal ?_)
  refine x_join (I := fun F D M2 L2 => ∃ b : Bool, (b = true ↔ okM t nl kl) ∧ D = [] ∧ Le M M2 ∧ DropTo L2 L ∧ F = [(6, .bool b)]) ?_ (fun Jq1 => ?_)
  ·
    rintro _ _ _ L2 ⟨b, hb, rfl, hm, hdr, rfl⟩  -- slots [6]
    refine x_ret (.dropTo L hdr (ret1 rfl rfl hm ⟨rfl, by rw [bool_iff hb]⟩))
  ·
    refine x_region ?_
    refine tl_y rfl (y_loadAgg rfl rfl (.own inferInstance inferInstance)) ?_
    refine tl_y rfl (y_move (v := .slice _ _ _) rfl) ?_
    refine tl_e rfl (e_call' rfl (mright_spec hg t) ?_)
    rintro _ M1 _ hM1 ⟨rfl, rfl⟩
    refine tl_y rfl (y_move (v := .bool _) rfl) ?_
    refine tl_casesb (s := 10) rfl (fun hk1 => ?_) (fun hk1 => ?_)
    ·
      refine tl_y rfl (y_fieldAddr rfl) ?_
      refine tl_y rfl (y_load rfl rfl (.own inferInstance inferInstance)) ?_
      refine tl_y rfl (y_leq rfl rfl) ?_
      refine tl_y rfl (y_pickT rfl rfl) ?_
      refine tl_y rfl (y_move (v := .bool _) rfl) ?_
      refine tl_cases (s := 15) rfl (fun hk2 => ?_) (fun hk2 => ?_)
      ·
        refine tl_y rfl (y_move (v := .slice _ _ _) rfl) ?_
        refine tl_y rfl (y_len rfl) ?_
        refine tl_y rfl (y_convN64 rfl (by omega)) ?_
        refine tl_y rfl (y_loadAgg rfl rfl (.own inferInstance inferInstance)) ?_
        refine tl_e rfl (e_call' rfl (Leaves_spec t) ?_)
        rintro _ _ _ _ ⟨rfl, rfl, rfl⟩
        refine tl_y rfl (y_eql rfl rfl) ?_
        refine tl_y rfl (y_pickT rfl rfl) ?_
        refine tl_y rfl (y_assign (v := .bool _) rfl) ?_
        refine tl_nil (.then_normal (.sub (F' := [(6, _)]) (.cons rfl .nil) (Jq1 _ _ _ _ ?_)))
        exact ⟨_, by
          constructor
          · intro ht
            first | (cases ht; done) | (simp at ht; exact ⟨by simpa using hk1, by omega, by omega⟩)
          · rintro ⟨a1, a2, a3⟩
            first | exact absurd (by simpa using a1) hk1 | exact absurd (decide_eq_true a1) hk1 | (simp [a1] at hk1; done) | (simp; omega) | omega, rfl, hM1, inferInstance, rfl⟩
      ·
        refine tl_skip rfl ?_
        refine tl_skip rfl ?_
        refine tl_skip rfl ?_
        refine tl_skip rfl ?_
        refine tl_skip rfl ?_
        refine tl_skip rfl ?_
        refine tl_y rfl (y_pickF rfl rfl) ?_
        refine tl_y rfl (y_assign (v := .bool _) rfl) ?_
        refine tl_nil (.then_normal (.sub (F' := [(6, _)]) (.cons rfl .nil) (Jq1 _ _ _ _ ?_)))
        exact ⟨_, by
          constructor
          · intro ht
            first | (cases ht; done) | (simp at ht; exact ⟨by simpa using hk1, by omega, by omega⟩)
          · rintro ⟨a1, a2, a3⟩
            first | exact absurd (by simpa using a1) hk1 | exact absurd (decide_eq_true a1) hk1 | (simp [a1] at hk1; done) | (simp; omega) | omega, rfl, hM1, inferInstance, rfl⟩
    ·
      refine tl_skip rfl ?_
      refine tl_skip rfl ?_
      refine tl_skip rfl ?_
      refine tl_y rfl (y_pickF rfl rfl) ?_
      refine tl_y rfl (y_move (v := .bool _) rfl) ?_
      refine tl_skip rfl ?_
      refine tl_skip rfl ?_
      refine tl_skip rfl ?_
      refine tl_skip rfl ?_
      refine tl_skip rfl ?_
      refine tl_skip rfl ?_
      refine tl_y rfl (y_pickF rfl rfl) ?_
      refine tl_y rfl (y_assign (v := .bool _) rfl) ?_
      refine tl_nil (.then_normal (.sub (F' := [(6, _)]) (.cons rfl .nil) (Jq1 _ _ _ _ ?_)))
      exact ⟨_, by
        constructor
        · intro ht
          first | (cases ht; done) | (simp at ht; exact ⟨by simpa using hk1, by omega, by omega⟩)
        · rintro ⟨a1, a2, a3⟩
          first | exact absurd (by simpa using a1) hk1 | exact absurd (decide_eq_true a1) hk1 | (simp [a1] at hk1; done) | (simp; omega) | omega, rfl, hM1, inferInstance, rfl⟩
theorem leaf_spec (hg : MrG M) (t : TreeV) {H : Nat} (hH : t.h = (H : Int)) (hH5 : H ≤ 25) {NA : Option Addr} {nl nc : Nat} {name : List UInt8} (hname : Bytes M NA nl nc name) (q : UInt32) (hq : q.toNat < pw2 H) {A : Option Addr} {m c : Nat} {key : List UInt8} (h : Bytes M A m c key) (hm : m ≤ 1000000000000) :
    Con Tryz.prog 184 #[.agg (List.toArray t.cells), .slice NA nl nc, .int .u32 (q.toNat : Int), .slice A m c] G M L (fun v M' L' => L = L' ∧ ∃ A' m' c', v = .slice A' m' c' ∧ Bytes M' A' m' c' (leafB t name q.toNat key)) noPanic := by
  have hp := pw2_25 hH5
  have hms := h.size
  obtain ⟨x, hx⟩ : ∃ x : UInt32, x.toNat = pw2 H + q.toNat := ⟨UInt32.ofNat (pw2 H + q.toNat), by rw [UInt32.toNat_ofNat', Nat.mod_eq_of_lt (by omega)]⟩
  refine enter (args := [_, _, _, _]) (fn := Tryz.f184) ⟨Tryz.func184, rfl, by kernel_rfl, by kernel_rfl⟩ 22 rfl ?_
  refine x_seq (x_region ?_)
  refine tl_e rfl (e_box rfl (fun b1 => ?_))
  refine tl_y rfl (y_assign rfl) ?_
  refine tl_nil (.then_normal ?_)
  refine x_seq ?_
  have hd : Le M M := Le.refl _
  refine x_draw 14 hmix rfl ?_
  refine to_p 0 rfl (by kernel_rfl) rfl (y_fieldAddr rfl) ?_
  refine to_y 1 rfl (by kernel_rfl) rfl (y_load rfl rfl (.own inferInstance inferInstance)) ?_
  refine to_p 2 rfl (by kernel_rfl) rfl (y_fieldAddr rfl) ?_
  refine to_y 3 rfl (by kernel_rfl) rfl (y_load rfl rfl (.own inferInstance inferInstance)) ?_
  refine to_p 4 rfl (by kernel_rfl) rfl (y_move (v := .slice _ _ _) rfl) ?_
  refine to_p 5 rfl (by kernel_rfl) rfl (y_fieldAddr rfl) ?_
  refine to_y 6 rfl (by kernel_rfl) rfl (y_load rfl rfl (.own inferInstance inferInstance)) ?_
  rw [hH]
  refine to_p 7 rfl (by kernel_rfl) rfl (y_shl32 (a := 1) rfl rfl) ?_
  rw [show u32v (shl32 1 H) = .int .u32 ((pw2 H : Nat) : Int) from congrArg (fun (x : Nat) => Value.int .u32 (x : Int)) (shl32_h hH5)]
  refine to_p 8 rfl (by kernel_rfl) rfl (y_move (v := .int _ _) rfl) ?_
  refine to_p 9 rfl (by kernel_rfl) rfl (y_addN32 rfl rfl (by omega)) ?_
  rw [show ((pw2 H : Nat) : Int) + (q.toNat : Int) = ((x.toNat : Nat) : Int) by rw [hx]; omega]
  refine to_p 10 rfl (by kernel_rfl) rfl (y_move (v := .slice _ _ _) rfl) ?_
  refine to_e 11 rfl (by kernel_rfl) rfl (e_buildSlice rfl (by decide) (fun b2 => ?_))
  refine ⟨⟨hd, Keeps.mem⟩, ?_⟩
  refine .pub b2 inferInstance (fun M1 hM1 hb2 => ?_)
  replace hd := hd.trans hM1
  refine to_e 12 rfl (by kernel_rfl) rfl (e_call' rfl (Part_spec (hg.mono hd).sha (hg.mono hd).kec t.kind t.n (hname.mono hd) x 33410 (by omega) (Row.whole hb2 rfl (by omega)) (.cons (h.mono hd) .nil) (by simp; omega)) ?_)
  rintro _ M2 _ hM2 ⟨rfl, A2, m2, c2, rfl, hA2⟩
  rw [hx, show [key].flatten = key by simp] at hA2
  replace hd := hd.trans hM2
  refine ⟨⟨(by first | exact Le.refl _ | assumption), Keeps.mem⟩, ?_⟩
  refine to_p 13 rfl (by kernel_rfl) rfl (y_assign (v := .slice _ _ _) rfl) ?_
  refine to_nil (by kernel_rfl) (.then_normal ?_)
  refine .sub (F' := [(8, _)]) (.cons rfl .nil) ?_
  refine x_ret (.dropTo L inferInstance (ret1 rfl rfl hd ⟨rfl, _, _, _, rfl, by rw [leafB, hH, Int.toNat_natCast]; exact hA2⟩))
theorem inner_spec (hg : MrG M) (t : TreeV) {NA : Option Addr} {nl nc : Nat} {name : List UInt8} (hname : Bytes M NA nl nc name) (q : UInt32) {A B : Option Addr} {m c m2 c2 : Nat} {x y : List UInt8} (h : Bytes M A m c x) (hm : m ≤ 100000000000) (h2 : Bytes M B m2 c2 y) (hm2 : m2 ≤ 100000000000) :
    Con Tryz.prog 186 #[.agg (List.toArray t.cells), .slice NA nl nc, .int .u32 (q.toNat : Int), .slice A m c, .slice B m2 c2] G M L (fun v M' L' => L = L' ∧ ∃ A' m' c', v = .slice A' m' c' ∧ Bytes M' A' m' c' (innB t name q.toNat (x ++ y))) noPanic := by
  have hms := h.size
  have hms2 := h2.size
  refine enter (args := [_, _, _, _, _]) (fn := Tryz.f186) ⟨Tryz.func186, rfl, by kernel_rfl, by kernel_rfl⟩ 21 rfl ?_
  refine x_seq (x_region ?_)
  refine tl_e rfl (e_box rfl (fun b1 => ?_))
  refine tl_y rfl (y_assign rfl) ?_
  refine tl_nil (.then_normal ?_)
  refine x_seq (x_region ?_)
  refine tl_y rfl (y_fieldAddr rfl) ?_
  refine tl_y rfl (y_load rfl rfl (.own inferInstance inferInstance)) ?_
  refine tl_y rfl (y_fieldAddr rfl) ?_
  refine tl_y rfl (y_load rfl rfl (.own inferInstance inferInstance)) ?_
  refine tl_y rfl (y_move (v := .slice _ _ _) rfl) ?_
  refine tl_y rfl (y_move (v := .int _ _) rfl) ?_
  refine tl_y rfl (y_move (v := .slice _ _ _) rfl) ?_
  refine tl_y rfl (y_move (v := .slice _ _ _) rfl) ?_
  refine tl_e rfl (e_buildSlice rfl (by decide) (fun b2 => ?_))
  refine .pub b2 inferInstance (fun M1 hd hb2 => ?_)
  refine tl_e rfl (e_call' rfl (Part_spec (hg.mono hd).sha (hg.mono hd).kec t.kind t.n (hname.mono hd) q 33667 (by omega) (Row.whole hb2 rfl (by omega)) (.cons (h.mono hd) (.cons (h2.mono hd) .nil)) (by simp; omega)) ?_)
  rintro _ M2 _ hM2 ⟨rfl, A2, m3, c3, rfl, hA2⟩
  rw [show [x, y].flatten = x ++ y by simp] at hA2
  refine tl_y rfl (y_assign (v := .slice _ _ _) rfl) ?_
  refine tl_nil (.then_normal ?_)
  refine .sub (F' := [(10, _)]) (.cons rfl .nil) ?_
  refine x_ret (.dropTo L inferInstance (ret1 rfl rfl (hd.trans hM2) ⟨rfl, _, _, _, rfl, hA2⟩))
end
end Go.Proofs.YtiimjodbaogjbaaGreatDoor
