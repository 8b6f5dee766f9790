/-
Contracts of functions, each proved by a walk through its code.
-/
import Derived.Test.YtiimjodbaogjbaaGreatDoorSetsEtc
import Derived.Test.YtiimjodbaogjbaaGreatDoorRef1Etc
import Derived.Test.YtiimjodbaogjbaaGreatDoorRef4Etc
import Derived.Test.YtiimjodbaogjbaaGreatDoorOctEtc
set_option linter.unusedVariables false
set_option linter.unusedSimpArgs false
set_option linter.constructorNameAsVariable false
namespace Go.Proofs.YtiimjodbaogjbaaGreatDoor
open Go Go.Eng
section
variable {G : World} {M : Mem} {L : Own}
theorem bool_iff {t : Bool} {p : Prop} [Decidable p] (h : t = true ↔ p) : t = decide p := by
 rw [Bool.eq_iff_iff, h]; simp
theorem RSum_spec (kind n : Int) {A : Option Addr} {m c : Nat} {bs : List UInt8} (hb : RowIn M L 1 A m (bs.map bv)) (hm : m ≤ 1099511627776) :
  Con Tryz.prog 139 #[.int .i64 kind, .int .i64 n, .slice A m c] G M L (fun v M' L' => L = L' ∧ ∃ A' m' c', v = .slice A' m' c' ∧ Bytes M' A' m' c' (cSum kind n bs)) noPanic := by
 refine enter (args := [_, _, _]) (fn := Tryz.f139) ⟨Tryz.func139, rfl, by kernel_rfl, by kernel_rfl⟩ 24 rfl <| zr <| as0 rfl rfl <| zq <| x_seq <| x_join (I := fun F D M1 L1 => ∃ t : Bool, (t = true ↔ (n ≠ 24 ∧ n ≠ 32)) ∧ D = [] ∧ M = M1 ∧ L = L1 ∧ F = [(0, .int .i64 kind), (1, .int .i64 n), (2, .slice A m c), (12, .bool t)]) ?_ (fun Jq1 => ?_)
 ·
  rintro _ _ _ _ ⟨t, ht, rfl, rfl, rfl, rfl⟩  -- slots [0, 1, 2, 12]
  refine x_condb rfl (fun hc1 => ?_) (fun hc1 => ?_)
  ·
   refine zr <| as0 rfl rfl <| zq <| .s1 6 rfl <| x_ret (.then_ret (ret1 rfl rfl (Le.refl _) ⟨rfl, _, _, _, rfl, by rw [cSum, if_neg (by have := ht.1 hc1; unfold okC; omega)]; exact Row.nil _ _⟩))
  ·
   have hn : n = 24 ∨ n = 32 := by
    have : ¬ (n ≠ 24 ∧ n ≠ 32) := fun h => by rw [ht.2 h] at hc1; cases hc1
    omega
   obtain ⟨n', rfl⟩ : ∃ n' : Nat, n = n' := ⟨n.toNat, by omega⟩
   refine x_skip <| .then_normal <| zr2 <| mvI rfl rfl <| tl_y rfl (y_eql rfl rfl) <| zq <| x_cond rfl (fun hc2 => ?_) (fun hc2 => ?_)
   ·
    refine zr <| mvS rfl rfl <| tl_e rfl <| e_call' rfl (ROne_spec hb hm) ?_
    rintro _ M1 _ hM1 ⟨rfl, A1, c1, rfl, hA1⟩
    have hle1 := hA1.le
    refine mvI rfl rfl <| tl_y rfl (y_sliceH rfl rfl (by omega) (by omega)) <| asS rfl rfl <| zq <| .s1 6 rfl <| x_ret (.then_ret (ret1 rfl rfl hM1 ⟨rfl, _, _, _, rfl, by rw [cSum, if_pos ⟨.inl hc2, hn⟩, csum, if_pos hc2]; exact Bytes.take hA1 n' (by omega)⟩))
   ·
    refine x_skip <| .then_normal <| zr2 <| mvI rfl rfl <| tl_y rfl (y_eql rfl rfl) <| zq <| .s3 1 2 20 rfl rfl rfl <| x_cond rfl (fun hc3 => ?_) (fun hc3 => ?_)
    ·
     refine zr <| mvS rfl rfl <| mvI rfl rfl <| tl_e rfl <| e_call' rfl (RShSum_spec hb hm n' (by omega)) ?_
     rintro _ M1 L hM1 ⟨A1, c1, rfl, hA1, rfl⟩
     refine asS rfl rfl <| zq <| .s1 6 rfl <| x_ret (.then_ret (ret1 rfl rfl hM1 ⟨rfl, _, _, _, rfl, by rw [cSum, if_pos ⟨.inr hc3, hn⟩, csum, if_neg hc2]; exact hA1⟩))
    ·
     refine x_skip <| .then_normal <| zr <| as0 rfl rfl <| zq <| x_ret (ret1 rfl rfl (Le.refl _) ⟨rfl, _, _, _, rfl, by rw [cSum, if_neg (by unfold okC; omega)]; exact Row.nil _ _⟩)
 ·
  refine x_region <| mvI rfl rfl <| tl_y rfl (y_neq rfl rfl) <| mvB rfl rfl <| tl_cases (s := 9) rfl (fun hk1 => ?_) (fun hk1 => ?_)
  ·
   refine mvI rfl rfl <| tl_y rfl (y_neq rfl rfl) <| tl_y rfl (y_pickT rfl rfl) <| zq <| .sub (F' := [(0, _), (1, _), (2, _), (12, _)]) (.cons rfl (.cons rfl (.cons rfl (.cons rfl .nil)))) <| Jq1 _ _ _ _ ?_
   exact ⟨_, by first | (simp; done) | (simp; omega) | omega, rfl, rfl, rfl, rfl⟩
  ·
   refine tl_skip rfl <| tl_skip rfl <| tl_y rfl (y_pickF rfl rfl) <| zq <| .sub (F' := [(0, _), (1, _), (2, _), (12, _)]) (.cons rfl (.cons rfl (.cons rfl (.cons rfl .nil)))) <| Jq1 _ _ _ _ ?_
   exact ⟨_, by first | (simp; done) | (simp; omega) | omega, rfl, rfl, rfl, rfl⟩
theorem RPutV_spec (v n : Nat) (hv : v < 18446744073709551616) (hn : n ≤ 8) :
  Con Tryz.prog 19 #[.int .u64 (v : Int), .int .i64 (n : Int)] G M L (fun r M' L' => L = L' ∧ ∃ A c, r = .slice A n c ∧ Bytes M' A n c (putB v n)) noPanic := by
 have h := RPut_spec (G := G) (M := M) (L := L) (UInt64.ofNat v) n hn
 rw [UInt64.toNat_ofNat', Nat.mod_eq_of_lt hv] at h
 exact h
theorem RPart_spec (kind n : Int) {NA : Option Addr} {nl nc : Nat} {name : List UInt8} (hname : Bytes M NA nl nc name) (q : UInt32) (d : Nat) (hd : d ≤ 65535) {A : Option Addr} {m c : Nat} {text : List UInt8} (h : Bytes M A m c text) (hm : m ≤ 1000000000000) :
  Con Tryz.prog 162 #[.int .i64 kind, .int .i64 n, .slice NA nl nc, .int .u32 (q.toNat : Int), .int .u16 (d : Int), .slice A m c] G M L (fun v M' L' => L = L' ∧ ∃ A' m' c', v = .slice A' m' c' ∧ Bytes M' A' m' c' (cPart kind n name q.toNat d text)) noPanic := by
 have hnl := hname.size
 have hml := h.size
 have hq := q.toNat_lt
 refine enter (args := [_, _, _, _, _, _]) (fn := Tryz.f162) ⟨Tryz.func162, rfl, by kernel_rfl, by kernel_rfl⟩ 29 rfl <| zr <| as0 rfl rfl <| zq <| zr2 <| mvS rfl rfl <| tl_y rfl (y_len rfl) <| tl_y rfl (y_neq rfl rfl) <| zq <| x_cond rfl (fun hc1 => ?_) (fun hc1 => ?_)
 ·
  refine zr <| as0 rfl rfl <| zq <| .s1 12 rfl <| x_ret (.then_ret (ret1 rfl rfl (Le.refl _) ⟨rfl, _, _, _, rfl, by rw [cPart, if_neg (by omega)]; exact Row.nil _ _⟩))
 ·
  refine x_skip <| .then_normal <| .s6 0 1 2 3 4 5 rfl rfl rfl rfl rfl rfl <| zr <| mvI rfl rfl <| mvI rfl rfl <| mvS rfl rfl <| mvI rfl rfl <| tl_y rfl (y_convN64 rfl (by omega)) <| tl_e rfl <| e_call' rfl (RPutV_spec q.toNat 4 (by omega) (by omega)) ?_
  rintro _ M1 _ hM1 ⟨rfl, A1, c1, rfl, hA1⟩
  refine mvI rfl rfl <| tl_y rfl (y_convN64 rfl (by omega)) <| tl_e rfl <| e_call' rfl (RPutV_spec d 2 (by omega) (by omega)) ?_
  rintro _ M2 _ hM2 ⟨rfl, A2, c2, rfl, hA2⟩
  refine mvS rfl rfl <| tl_e rfl <| e_buildSlice rfl (by decide) <| fun b1 => .pub b1 inferInstance <| fun M3 hM3 hb1 => ?_
  have hm3 := hM1.trans (hM2.trans hM3)
  have hfl : [name, putB q.toNat 4, putB d 2, text].flatten = name ++ (putB q.toNat 4 ++ (putB d 2 ++ text)) := by simp
  have hfll : (name ++ (putB q.toNat 4 ++ (putB d 2 ++ text))).length = nl + 6 + m := by rw [List.length_append, List.length_append, List.length_append, putB_length, putB_length, hnl, hml]; omega
  refine tl_e rfl <| e_call' rfl (RCat_own (Row.whole hb1 rfl (by omega)) (.cons (hname.mono hm3) (.cons (hA1.mono (hM2.trans hM3)) (.cons (hA2.mono hM3) (.cons (h.mono hm3) .nil)))) (by rw [hfl, hfll]; omega)) ?_
  rintro _ _ _ _ ⟨rfl, A4, c4, E4, rfl, hE4, rfl⟩
  rw [hfl, hfll] at hE4
  rw [hfl, hfll]
  refine tl_e rfl <| e_call' rfl (RSum_spec kind n (hE4.in_ inferInstance (by omega)) (by omega)) ?_
  rintro _ M5 _ hM5 ⟨rfl, A5, m5, c5, rfl, hA5⟩
  refine asS rfl rfl <| zq <| .s1 12 rfl <| x_ret (.dropTo L inferInstance (ret1 rfl rfl (hm3.trans hM5) ⟨rfl, _, _, _, rfl, by rw [cPart, if_pos (by omega)]; exact hA5⟩))
theorem RRight_spec (o : OtsV) {NA XA : Option Addr} {nl nc xl xc : Nat} (i : Int) :
    Con Tryz.prog 199 #[.agg (List.toArray o.cells), .slice NA nl nc, .int .i64 i, .slice XA xl xc] G M L (fun v M' L' => M = M' ∧ L = L' ∧ v = .bool (decide (okR o nl i xl))) noPanic := by
  refine enter (args := [_, _, _, _]) (fn := Tryz.f199) ⟨Tryz.func199, rfl, by kernel_rfl, by kernel_rfl⟩ 46 rfl <| zr <| tl_e rfl <| e_box rfl <| fun b1 => as0 rfl rfl <| zq <| zr <| tl_y rfl (y_fieldAddr rfl) <| tl_y rfl (y_ld rfl rfl) <| tl_e rfl <| e_call' rfl (ROts_spec o.code) ?_
  rintro _ _ _ _ ⟨rfl, rfl, rfl⟩
  refine mvU rfl rfl <| zx rfl rfl <| zx rfl rfl <| tl_e rfl <| e_alloc <| fun b2 => tl_e rfl <| e_st rfl rfl (by rfl) (by rfl) <| asI rfl rfl <| zq <| .s6 1 2 3 4 9 10 rfl rfl rfl rfl rfl rfl <| x_join (I := fun F D M1 L1 => ∃ t : Bool, (t = true ↔ okR o nl i xl) ∧ D = [] ∧ M = M1 ∧ DropTo L1 L ∧ F = [(8, .bool t)]) ?_ (fun Jq2 => ?_)
  ·
    rintro _ _ M1 L1 ⟨t, ht, rfl, rfl, hdr, rfl⟩  -- slots [8]
    refine x_ret (.dropTo L hdr (ret1 rfl rfl (Le.refl _) ⟨rfl, rfl, by rw [bool_iff ht]⟩))
  ·
    refine x_region <| mvI rfl rfl <| tl_y rfl (y_eql rfl rfl) <| mvB rfl rfl <| tl_cases (s := 19) rfl (fun hk1 => ?_) (fun hk1 => ?_)
    ·
      refine tl_y rfl (y_lg rfl rfl) <| tl_y rfl (y_lg rfl rfl) <| tl_y rfl (y_eqlS rfl rfl eqs27) <| tl_y rfl (y_pickT rfl rfl) <| mvB rfl rfl <| tl_cases (s := 24) rfl (fun hk2 => ?_) (fun hk2 => ?_)
      ·
        refine mvS rfl rfl <| tl_y rfl (y_len rfl) <| tl_y rfl (y_eql rfl rfl) <| tl_y rfl (y_pickT rfl rfl) <| mvB rfl rfl <| tl_cases (s := 29) rfl (fun hk3 => ?_) (fun hk3 => ?_)
        ·
          refine mvI rfl rfl <| tl_y rfl (y_geq rfl rfl) <| tl_y rfl (y_pickT rfl rfl) <| mvB rfl rfl <| tl_cases (s := 33) rfl (fun hk4 => ?_) (fun hk4 => ?_)
          ·
            refine mvI rfl rfl <| tl_y rfl (y_fieldAddr rfl) <| tl_y rfl (y_ld rfl rfl) <| tl_y rfl (y_lss rfl rfl) <| tl_y rfl (y_pickT rfl rfl) <| mvB rfl rfl <| tl_cases (s := 39) rfl (fun hk5 => ?_) (fun hk5 => ?_)
            ·
              refine mvS rfl rfl <| tl_y rfl (y_len rfl) <| tl_y rfl (y_fieldAddr rfl) <| tl_y rfl (y_ld rfl rfl) <| tl_y rfl (y_eql rfl rfl) <| tl_y rfl (y_pickT rfl rfl) <| asB rfl rfl <| zq <| .sub (F' := [(8, _)]) (.cons rfl .nil) <| Jq2 _ _ _ _ ?_
              exact ⟨_, by
                constructor
                · intro ht
                  first | (cases ht; done) | (simp at ht; exact ⟨hk1, ots_eq hk2, by omega, by omega, by omega, by omega⟩)
                · rintro ⟨a1, a2, a3, a4, a5, a6⟩
                  first | exact absurd a1 hk1 | exact absurd (eq_ots a2) hk2 | (simp; omega) | omega, rfl, rfl, inferInstance, rfl⟩
            ·
              refine tl_skip rfl <| tl_skip rfl <| tl_skip rfl <| tl_skip rfl <| tl_skip rfl <| tl_y rfl (y_pickF rfl rfl) <| asB rfl rfl <| zq <| .sub (F' := [(8, _)]) (.cons rfl .nil) <| Jq2 _ _ _ _ ?_
              exact ⟨_, by
                constructor
                · intro ht
                  first | (cases ht; done) | (simp at ht; exact ⟨hk1, ots_eq hk2, by omega, by omega, by omega, by omega⟩)
                · rintro ⟨a1, a2, a3, a4, a5, a6⟩
                  first | exact absurd a1 hk1 | exact absurd (eq_ots a2) hk2 | (simp; omega) | omega, rfl, rfl, inferInstance, rfl⟩
          ·
            refine tl_skip rfl <| tl_skip rfl <| tl_skip rfl <| tl_skip rfl <| tl_y rfl (y_pickF rfl rfl) <| mvB rfl rfl <| tl_skip rfl <| tl_skip rfl <| tl_skip rfl <| tl_skip rfl ?_
            refine tl_skip rfl <| tl_y rfl (y_pickF rfl rfl) <| asB rfl rfl <| zq <| .sub (F' := [(8, _)]) (.cons rfl .nil) <| Jq2 _ _ _ _ ?_
            exact ⟨_, by
              constructor
              · intro ht
                first | (cases ht; done) | (simp at ht; exact ⟨hk1, ots_eq hk2, by omega, by omega, by omega, by omega⟩)
              · rintro ⟨a1, a2, a3, a4, a5, a6⟩
                first | exact absurd a1 hk1 | exact absurd (eq_ots a2) hk2 | (simp; omega) | omega, rfl, rfl, inferInstance, rfl⟩
        ·
          refine tl_skip rfl <| tl_skip rfl <| tl_y rfl (y_pickF rfl rfl) <| mvB rfl rfl <| tl_skip rfl <| tl_skip rfl <| tl_skip rfl <| tl_skip rfl <| tl_y rfl (y_pickF rfl rfl) <| mvB rfl rfl ?_
          refine tl_skip rfl <| tl_skip rfl <| tl_skip rfl <| tl_skip rfl <| tl_skip rfl <| tl_y rfl (y_pickF rfl rfl) <| asB rfl rfl <| zq <| .sub (F' := [(8, _)]) (.cons rfl .nil) <| Jq2 _ _ _ _ ?_
          exact ⟨_, by
            constructor
            · intro ht
              first | (cases ht; done) | (simp at ht; exact ⟨hk1, ots_eq hk2, by omega, by omega, by omega, by omega⟩)
            · rintro ⟨a1, a2, a3, a4, a5, a6⟩
              first | exact absurd a1 hk1 | exact absurd (eq_ots a2) hk2 | (simp; omega) | omega, rfl, rfl, inferInstance, rfl⟩
      ·
        refine tl_skip rfl <| tl_skip rfl <| tl_skip rfl <| tl_y rfl (y_pickF rfl rfl) <| mvB rfl rfl <| tl_skip rfl <| tl_skip rfl <| tl_y rfl (y_pickF rfl rfl) <| mvB rfl rfl <| tl_skip rfl ?_
        refine tl_skip rfl <| tl_skip rfl <| tl_skip rfl <| tl_y rfl (y_pickF rfl rfl) <| mvB rfl rfl <| tl_skip rfl <| tl_skip rfl <| tl_skip rfl <| tl_skip rfl <| tl_skip rfl ?_
        refine tl_y rfl (y_pickF rfl rfl) <| asB rfl rfl <| zq <| .sub (F' := [(8, _)]) (.cons rfl .nil) <| Jq2 _ _ _ _ ?_
        exact ⟨_, by
          constructor
          · intro ht
            first | (cases ht; done) | (simp at ht; exact ⟨hk1, ots_eq hk2, by omega, by omega, by omega, by omega⟩)
          · rintro ⟨a1, a2, a3, a4, a5, a6⟩
            first | exact absurd a1 hk1 | exact absurd (eq_ots a2) hk2 | (simp; omega) | omega, rfl, rfl, inferInstance, rfl⟩
    ·
      refine tl_skip rfl <| tl_skip rfl <| tl_skip rfl <| tl_y rfl (y_pickF rfl rfl) <| mvB rfl rfl <| tl_skip rfl <| tl_skip rfl <| tl_skip rfl <| tl_y rfl (y_pickF rfl rfl) <| mvB rfl rfl ?_
      refine tl_skip rfl <| tl_skip rfl <| tl_y rfl (y_pickF rfl rfl) <| mvB rfl rfl <| tl_skip rfl <| tl_skip rfl <| tl_skip rfl <| tl_skip rfl <| tl_y rfl (y_pickF rfl rfl) <| mvB rfl rfl ?_
      refine tl_skip rfl <| tl_skip rfl <| tl_skip rfl <| tl_skip rfl <| tl_skip rfl <| tl_y rfl (y_pickF rfl rfl) <| asB rfl rfl <| zq <| .sub (F' := [(8, _)]) (.cons rfl .nil) <| Jq2 _ _ _ _ ?_
      exact ⟨_, by
        constructor
        · intro ht
          first | (cases ht; done) | (simp at ht; exact ⟨hk1, ots_eq hk2, by omega, by omega, by omega, by omega⟩)
        · rintro ⟨a1, a2, a3, a4, a5, a6⟩
          first | exact absurd a1 hk1 | exact absurd (eq_ots a2) hk2 | (simp; omega) | omega, rfl, rfl, inferInstance, rfl⟩
end
end Go.Proofs.YtiimjodbaogjbaaGreatDoor
set_option linter.unusedVariables false
set_option linter.unusedSimpArgs false
set_option linter.constructorNameAsVariable false
namespace Go.Proofs.YtiimjodbaogjbaaGreatDoor
open Go Go.Eng
theorem bytes3 (i j : Nat) (hi : i ≤ 65535) (hj : j ≤ 255) : [UInt8.ofInt ((i : Int) / 256), UInt8.ofInt ((i : Int) % 256), UInt8.ofInt (j : Int)] = putB i 2 ++ putB j 1 := by
 have e : ∀ v : Nat, UInt8.ofInt (v : Int) = UInt8.ofNat v := fun v => by
  apply UInt8.toNat_inj.1
  show (UInt8.ofNat ((v : Int) % 256).toNat).toNat = _
  rw [UInt8.toNat_ofNat', UInt8.toNat_ofNat']; omega
 rw [show (i : Int) / 256 = ((i / 256 : Nat) : Int) by omega, show (i : Int) % 256 = ((i % 256 : Nat) : Int) by omega, e, e, e]
 simp only [putB, List.nil_append, List.cons_append]
 rw [show i / 256 % 256 = i / 256 by omega, show j % 256 = j by omega]
section
variable {G : World} {M : Mem} {L : Own}
theorem RStep_spec9 (o : OtsV) {NA XA : Option Addr} {nl nc xl xc : Nat} {name x : List UInt8} (hname : Bytes M NA nl nc name) (hx : Bytes M XA xl xc x) (q : UInt32) (i j : Int) :
    Con Tryz.prog 200 #[.agg (List.toArray o.cells), .slice NA nl nc, .int .u32 (q.toNat : Int), .int .i64 i, .int .i64 j, .slice XA xl xc] G M L (fun v M' L' => L = L' ∧ ∃ A' m' c', v = .slice A' m' c' ∧ Bytes M' A' m' c' (cStep o name q.toNat i j x)) noPanic := by
  have hnls := hname.size
  have hxls := hx.size
  have hq := q.toNat_lt
  refine enter (args := [_, _, _, _, _, _]) (fn := Tryz.f200) ⟨Tryz.func200, rfl, by kernel_rfl, by kernel_rfl⟩ 48 rfl <| zr <| tl_e rfl <| e_box rfl <| fun b1 => as0 rfl rfl <| zq <| x_seq <| x_join (I := fun F D M1 L1 => ∃ t : Bool, (t = true ↔ ¬ (okR o nl i xl ∧ 0 ≤ j ∧ j ≤ 255)) ∧ D = [] ∧ M = M1 ∧ (b1, .cells (List.toArray o.cells) 27 (0, 0)) :: L = L1 ∧ F = [(1, .slice NA nl nc), (2, .int .u32 (q.toNat : Int)), (3, .int .i64 i), (4, .int .i64 j), (5, .slice XA xl xc), (6, .pointer (some ⟨b1, 0, none⟩)), (26, .bool t)]) ?_ (fun Jq1 => ?_)
  ·
    rintro _ _ _ _ ⟨t, ht, rfl, rfl, rfl, rfl⟩  -- slots [1, 2, 3, 4, 5, 6, 26]
    refine x_condb rfl (fun hc1 => ?_) (fun hc1 => ?_)
    ·
      refine zr <| as0 rfl rfl <| zq <| .s1 12 rfl <| x_ret (.then_ret (.dropTo L inferInstance (ret1 rfl rfl (Le.refl _) ⟨rfl, _, _, _, rfl, by rw [cStep, hnls, hxls, if_neg (ht.1 hc1)]; exact Row.nil _ _⟩)))
    ·
      have hok : okR o nl i xl ∧ 0 ≤ j ∧ j ≤ 255 := Classical.not_not.1 fun h => by rw [ht.2 h] at hc1; cases hc1
      obtain ⟨hoc, hop, w, hw, hww⟩ := okR_facts hok.1
      have hob : nl = 16 ∧ 0 ≤ i ∧ i < o.p ∧ (xl : Int) = o.n := hok.1.2.2
      have hon : o.n = 24 ∨ o.n = 32 := hoc.2
      obtain ⟨i', rfl⟩ : ∃ i' : Nat, i = i' := ⟨i.toNat, by omega⟩
      obtain ⟨j', rfl⟩ : ∃ j' : Nat, j = j' := ⟨j.toNat, by omega⟩
      have hb3 := bytes3 i' j' (by omega) (by omega)
      have hfl : [name, putB q.toNat 4, putB i' 2 ++ putB j' 1, x].flatten = stepT name q.toNat i' j' x := by simp [stepT]
      have hfll : (stepT name q.toNat i' j' x).length = nl + 7 + xl := by
        rw [stepT, List.length_append, List.length_append, List.length_append, List.length_append, putB_length, putB_length, putB_length]; omega
      refine x_skip <| .then_normal <| x_seq <| x_draw 22 hmix rfl <| zp 0 rfl rfl (y_fieldAddr rfl) <| zy 1 rfl rfl (y_ld rfl rfl) <| zp 2 rfl rfl (y_fieldAddr rfl) <| zy 3 rfl rfl (y_ld rfl rfl) <| zp 4 rfl rfl (y_move (v := .slice _ _ _) rfl) <| zp 5 rfl rfl (y_move (v := .int _ _) rfl) <| zp 6 rfl rfl (y_convN64 rfl (by omega)) ?_
      refine zp 8 rfl rfl (y_move (v := .int _ _) rfl) <| zp 9 rfl rfl (y_quoI rfl rfl (by omega)) <| zp 10 rfl rfl (y_of8 rfl) <| zp 11 rfl rfl (y_move (v := .int _ _) rfl) <| zp 12 rfl rfl (y_remI rfl rfl (by omega)) <| zp 13 rfl rfl (y_of8 rfl) <| zp 14 rfl rfl (y_move (v := .int _ _) rfl) <| zp 15 rfl rfl (y_of8 rfl) <| zp 17 rfl rfl (y_move (v := .slice _ _ _) rfl) <| to_two 7 16 (by kernel_rfl) ?_ ?_
      ·
        refine two_e 7 rfl rfl <| e_call' rfl (RPutV_spec q.toNat 4 (by omega) (by omega)) ?_
        rintro _ M1 _ hM1 ⟨rfl, A1, c1, rfl, hA1⟩
        refine ⟨⟨(by first | exact Le.refl _ | assumption), Keeps.mem⟩, ?_⟩
        refine ze 16 rfl rfl <| e_buildSlice rfl (by decide) <| fun bb => ⟨⟨hM1, Keeps.mem⟩, ?_⟩
        refine .pub bb inferInstance <| fun M2 hM2 hbb => ?_
        have hB : Bytes M2 (some ⟨bb, 0, none⟩) 3 3 (putB i' 2 ++ putB j' 1) := by rw [← hb3]; exact Row.whole hbb rfl (by omega)
        have hm2 := hM1.trans hM2
        replace hA1 := hA1.mono hM2
        refine ze 18 rfl rfl <| e_buildSlice rfl (by decide) <| fun bc => ⟨⟨hm2, Keeps.mem⟩, ?_⟩
        refine .pub bc inferInstance <| fun M3 hM3 hbc => ?_
        have hm3 := hm2.trans hM3
        refine ze 19 rfl rfl <| e_call' rfl (RCat_own (Row.whole hbc rfl (by omega)) (.cons (hname.mono hm3) (.cons (hA1.mono hM3) (.cons (hB.mono hM3) (.cons (hx.mono hm3) .nil)))) (by rw [hfl, hfll]; omega)) ?_
        rintro _ _ _ _ ⟨rfl, A4, c4, E4, rfl, hE4, rfl⟩
        rw [hfl, hfll] at hE4
        rw [hfl, hfll]
        refine ⟨⟨hm3, Keeps.mem⟩, ?_⟩
        refine ze 20 rfl rfl <| e_call' rfl (RSum_spec o.kind o.n (hE4.in_ inferInstance (by omega)) (by omega)) ?_
        rintro _ M5 _ hM5 ⟨rfl, A5, m5, c5, rfl, hA5⟩
        refine ⟨⟨hm3.trans hM5, Keeps.mem⟩, ?_⟩
        refine zp 21 rfl rfl (y_assign (v := .slice _ _ _) rfl) <| zz <| .then_normal <| .s1 12 rfl <| x_ret (.dropTo L inferInstance (ret1 rfl rfl (hm3.trans hM5) ⟨rfl, _, _, _, rfl, by rw [cStep, hnls, hxls, if_pos hok]; rw [cSum, if_pos hoc] at hA5; exact hA5⟩))
      ·
        refine two_e 16 rfl rfl <| e_buildSlice rfl (by decide) <| fun bb => ⟨⟨Le.refl _, Keeps.mem⟩, ?_⟩
        refine .pub bb inferInstance <| fun M2 hM2 hbb => ?_
        have hB : Bytes M2 (some ⟨bb, 0, none⟩) 3 3 (putB i' 2 ++ putB j' 1) := by rw [← hb3]; exact Row.whole hbb rfl (by omega)
        refine ze 7 rfl rfl <| e_call' rfl (RPutV_spec q.toNat 4 (by omega) (by omega)) ?_
        rintro _ M1 _ hM1 ⟨rfl, A1, c1, rfl, hA1⟩
        refine ⟨⟨hM2.trans hM1, Keeps.mem⟩, ?_⟩
        have hm2 := hM2.trans hM1
        replace hB := hB.mono hM1
        refine ze 18 rfl rfl <| e_buildSlice rfl (by decide) <| fun bc => ⟨⟨hm2, Keeps.mem⟩, ?_⟩
        refine .pub bc inferInstance <| fun M3 hM3 hbc => ?_
        have hm3 := hm2.trans hM3
        refine ze 19 rfl rfl <| e_call' rfl (RCat_own (Row.whole hbc rfl (by omega)) (.cons (hname.mono hm3) (.cons (hA1.mono hM3) (.cons (hB.mono hM3) (.cons (hx.mono hm3) .nil)))) (by rw [hfl, hfll]; omega)) ?_
        rintro _ _ _ _ ⟨rfl, A4, c4, E4, rfl, hE4, rfl⟩
        rw [hfl, hfll] at hE4
        rw [hfl, hfll]
        refine ⟨⟨hm3, Keeps.mem⟩, ?_⟩
        refine ze 20 rfl rfl <| e_call' rfl (RSum_spec o.kind o.n (hE4.in_ inferInstance (by omega)) (by omega)) ?_
        rintro _ M5 _ hM5 ⟨rfl, A5, m5, c5, rfl, hA5⟩
        refine ⟨⟨hm3.trans hM5, Keeps.mem⟩, ?_⟩
        refine zp 21 rfl rfl (y_assign (v := .slice _ _ _) rfl) <| zz <| .then_normal <| .s1 12 rfl <| x_ret (.dropTo L inferInstance (ret1 rfl rfl (hm3.trans hM5) ⟨rfl, _, _, _, rfl, by rw [cStep, hnls, hxls, if_pos hok]; rw [cSum, if_pos hoc] at hA5; exact hA5⟩))
  ·
    refine x_region <| tl_y rfl (y_lg rfl rfl) <| mvS rfl rfl <| mvI rfl rfl <| mvS rfl rfl <| tl_e rfl <| e_call' rfl (RRight_spec o i) ?_
    rintro _ _ _ _ ⟨rfl, rfl, rfl⟩
    refine tl_y rfl (y_notd rfl) <| mvB rfl rfl <| tl_cases (s := 19) rfl (fun hk1 => ?_) (fun hk1 => ?_)
    ·
      refine tl_skip rfl <| tl_skip rfl <| tl_y rfl (y_pickT rfl rfl) <| mvB rfl rfl <| tl_skip rfl <| tl_skip rfl <| tl_y rfl (y_pickT rfl rfl) <| zq <| .sub (F' := [(1, _), (2, _), (3, _), (4, _), (5, _), (6, _), (26, _)]) (.cons rfl (.cons rfl (.cons rfl (.cons rfl (.cons rfl (.cons rfl (.cons rfl .nil))))))) <| Jq1 _ _ _ _ ?_
      exact ⟨_, by
        constructor
        · intro ht
          first | exact fun h => hk1 h.1 | (simp at ht; exact fun h => by omega)
        · intro hno
          first | rfl | (simp; exact Int.not_le.1 fun h => hno ⟨Classical.not_not.1 hk1, by omega, h⟩) | (simp; omega), rfl, rfl, rfl, rfl⟩
    ·
      refine mvI rfl rfl <| tl_y rfl (y_lss rfl rfl) <| tl_y rfl (y_pickF rfl rfl) <| mvB rfl rfl <| tl_cases (s := 23) rfl (fun hk2 => ?_) (fun hk2 => ?_)
      ·
        refine tl_skip rfl <| tl_skip rfl <| tl_y rfl (y_pickT rfl rfl) <| zq <| .sub (F' := [(1, _), (2, _), (3, _), (4, _), (5, _), (6, _), (26, _)]) (.cons rfl (.cons rfl (.cons rfl (.cons rfl (.cons rfl (.cons rfl (.cons rfl .nil))))))) <| Jq1 _ _ _ _ ?_
        exact ⟨_, by
          constructor
          · intro ht
            first | exact fun h => hk1 h.1 | (simp at ht; exact fun h => by omega)
          · intro hno
            first | rfl | (simp; exact Int.not_le.1 fun h => hno ⟨Classical.not_not.1 hk1, by omega, h⟩) | (simp; omega), rfl, rfl, rfl, rfl⟩
      ·
        refine mvI rfl rfl <| tl_y rfl (y_gtr rfl rfl) <| tl_y rfl (y_pickF rfl rfl) <| zq <| .sub (F' := [(1, _), (2, _), (3, _), (4, _), (5, _), (6, _), (26, _)]) (.cons rfl (.cons rfl (.cons rfl (.cons rfl (.cons rfl (.cons rfl (.cons rfl .nil))))))) <| Jq1 _ _ _ _ ?_
        exact ⟨_, by
          constructor
          · intro ht
            first | exact fun h => hk1 h.1 | (simp at ht; exact fun h => by omega)
          · intro hno
            first | rfl | (simp; exact Int.not_le.1 fun h => hno ⟨Classical.not_not.1 hk1, by omega, h⟩) | (simp; omega), rfl, rfl, rfl, rfl⟩
end
end Go.Proofs.YtiimjodbaogjbaaGreatDoor
set_option linter.unusedVariables false
set_option linter.unusedSimpArgs false
set_option linter.constructorNameAsVariable false
namespace Go.Proofs.YtiimjodbaogjbaaGreatDoor
open Go Go.Eng
section
variable {G : World} {M : Mem} {L : Own}
theorem okR_len {o : OtsV} {nl : Nat} {i : Int} {xl xl' : Nat} (h : okR o nl i xl) (hx : (xl' : Int) = o.n) : okR o nl i xl' := ⟨h.1, h.2.1, h.2.2.1, h.2.2.2.1, h.2.2.2.2.1, hx⟩
theorem upC_step {o : OtsV} {name : List UInt8} {q i f : Nat} {x : List UInt8} (hsha : ∀ t, (sha t).length = 32) (hok : okR o name.length (i : Int) x.length) {k : Nat} (hk : f + k ≤ 255) : cStep o name q (i : Int) ((f + k : Nat) : Int) (upC o name q i f x k) = upC o name q i f x (k + 1) := by
 have h1 := upC_length (okR_facts hok).1 hsha name q i f hok.2.2.2.2.2 k
 rw [cStep, if_pos ⟨okR_len hok h1, by omega, by omega⟩, upC, Int.toNat_natCast, Int.toNat_natCast]
theorem RUp_spec9 (hsha : ∀ t, (sha t).length = 32) (o : OtsV) {NA XA : Option Addr} {nl nc xl xc : Nat} {name x : List UInt8} (hname : Bytes M NA nl nc name) (hx : Bytes M XA xl xc x) (q : UInt32) (i f t : Int) :
    Con Tryz.prog 156 #[.agg (List.toArray o.cells), .slice NA nl nc, .int .u32 (q.toNat : Int), .int .i64 i, .int .i64 f, .int .i64 t, .slice XA xl xc] G M L (fun v M' L' => L = L' ∧ ∃ A' m' c', v = .slice A' m' c' ∧ Bytes M' A' m' c' (cUp o name q.toNat i f t x)) noPanic := by
  have hnls := hname.size
  have hxls := hx.size
  refine enter (args := [_, _, _, _, _, _, _]) (fn := Tryz.f156) ⟨Tryz.func156, rfl, by kernel_rfl, by kernel_rfl⟩ 67 rfl <| zr <| tl_e rfl <| e_box rfl <| fun b1 => as0 rfl rfl <| zq <| zr <| as0 rfl rfl <| zq <| zr2 <| as0 rfl rfl ?_
  refine zq <| x_block ?_
  refine x_loop (I := fun m' F D M2 L2 => ∃ k : Nat, m' = 10 - k ∧ k ≤ 10 ∧ (k = 0 ∨ (k : Int) ≤ o.w) ∧ D = [] ∧ M = M2 ∧ (b1, .cells (List.toArray o.cells) 27 (0, 0)) :: L = L2 ∧ F = [(1, .slice NA nl nc), (2, .int .u32 (q.toNat : Int)), (3, .int .i64 i), (4, .int .i64 f), (5, .int .i64 t), (6, .slice XA xl xc), (7, .pointer (some ⟨b1, 0, none⟩)), (15, .int .i64 (pw2 k : Nat)), (16, .int .i64 k)]) (10) (F0 := [(1, _), (2, _), (3, _), (4, _), (5, _), (6, _), (7, _), (15, _), (16, _)]) ?_ (.cons rfl (.cons rfl (.cons rfl (.cons rfl (.cons rfl (.cons rfl (.cons rfl (.cons rfl (.cons rfl .nil))))))))) ?_  -- slots [1, 2, 3, 4, 5, 6, 7, 15, 16], written [15, 16]
  · exact ⟨0, rfl, by omega, .inl rfl, rfl, rfl, rfl, rfl⟩
  rintro m _ _ _ _ ⟨k, rfl, hk, hkw, rfl, rfl, rfl, rfl⟩
  refine x_seq <| x_join (I := fun F D M2 L2 => ∃ b : Bool, (b = true ↔ ((k : Int) < o.w ∧ k < 10)) ∧ D = [] ∧ M = M2 ∧ (b1, .cells (List.toArray o.cells) 27 (0, 0)) :: L = L2 ∧ F = [(1, .slice NA nl nc), (2, .int .u32 (q.toNat : Int)), (3, .int .i64 i), (4, .int .i64 f), (5, .int .i64 t), (6, .slice XA xl xc), (7, .pointer (some ⟨b1, 0, none⟩)), (15, .int .i64 (pw2 k : Nat)), (16, .int .i64 k), (25, .bool b)]) ?_ (fun Jq3 => ?_)
  ·
    rintro _ _ _ _ ⟨b, hb, rfl, rfl, rfl, rfl⟩  -- slots [1, 2, 3, 4, 5, 6, 7, 15, 16, 25]
    refine x_condb rfl (fun hc1 => ?_) (fun hc1 => ?_)
    ·
      have hlt := hb.1 hc1
      have hpk : pw2 k ≤ pw2 10 := pw2_le hk
      have hp10 : pw2 10 = 1024 := rfl
      refine x_skip <| .then_normal <| x_seq <| x_block <| x_region <| mvI rfl rfl <| tl_y rfl (y_mulI rfl rfl (by omega)) ?_
      rw [pw2_succ]
      refine asI rfl rfl <| tl_nil <| .block_normal <| .then_normal <| x_region <| mvI rfl rfl <| tl_y rfl (y_addI rfl rfl (by omega)) <| asI rfl rfl <| tl_nil <| .loop_next (m' := 10 - (k + 1)) (by omega) (F' := [(1, _), (2, _), (3, _), (4, _), (5, _), (6, _), (7, _), (15, _), (16, _)]) (.cons rfl (.cons rfl (.cons rfl (.cons rfl (.cons rfl (.cons rfl (.cons rfl (.cons rfl (.cons rfl .nil))))))))) ?_
      exact ⟨k + 1, rfl, by omega, .inr (by omega), rfl, rfl, rfl, rfl⟩
    ·
      have hnot : ¬ ((k : Int) < o.w ∧ k < 10) := fun h => by rw [hb.2 h] at hc1; cases hc1
      have hpk : pw2 k ≤ pw2 10 := pw2_le hk
      have hp10 : pw2 10 = 1024 := rfl
      have hwk : okR o nl i xl → o.w.toNat = k ∧ 0 ≤ o.w ∧ o.w ≤ 8 := fun h => by
        obtain ⟨hoc, hop, w, hw, hww⟩ := okR_facts h
        rcases hw with rfl | rfl | rfl | rfl <;> omega
      refine x_exit <| .then_exit <| .loop_exit <| .block_exit <| .then_normal <| x_seq <| x_join (I := fun F D M2 L2 => ∃ b : Bool, (b = true ↔ ¬ (okR o nl i xl ∧ 0 ≤ f ∧ f ≤ t ∧ t ≤ (pw2 k : Nat) - 1)) ∧ D = [] ∧ M = M2 ∧ (b1, .cells (List.toArray o.cells) 27 (0, 0)) :: L = L2 ∧ F = [(1, .slice NA nl nc), (2, .int .u32 (q.toNat : Int)), (3, .int .i64 i), (4, .int .i64 f), (5, .int .i64 t), (6, .slice XA xl xc), (7, .pointer (some ⟨b1, 0, none⟩)), (50, .bool b)]) ?_ (fun Jq6 => ?_)
      ·
        rintro _ _ _ _ ⟨b, hb2, rfl, rfl, rfl, rfl⟩  -- slots [1, 2, 3, 4, 5, 6, 7, 50]
        refine x_condb rfl (fun hc2 => ?_) (fun hc2 => ?_)
        ·
          refine zr <| as0 rfl rfl <| zq <| .s1 14 rfl <| x_ret (.then_ret (.dropTo L inferInstance (ret1 rfl rfl (Le.refl _) ⟨rfl, _, _, _, rfl, by
            rw [cUp, hnls, hxls, if_neg (fun h => hb2.1 hc2 ⟨h.1, h.2.1, h.2.2.1, by have := h.2.2.2; rw [(hwk h.1).1] at this; exact this⟩)]
            exact Row.nil _ _⟩)))
        ·
          have hok' : okR o nl i xl ∧ 0 ≤ f ∧ f ≤ t ∧ t ≤ (pw2 k : Nat) - 1 := Classical.not_not.1 fun h => by rw [hb2.2 h] at hc2; cases hc2
          obtain ⟨hok, hf0, hft, htm⟩ := hok'
          obtain ⟨hoc, hop, w, hw, hww⟩ := okR_facts hok
          have hob : nl = 16 ∧ 0 ≤ i ∧ i < o.p ∧ (xl : Int) = o.n := hok.2.2
          have hon : o.n = 24 ∨ o.n = 32 := hoc.2
          have hkk := hwk hok
          have hpw := pw2_w hw
          obtain rfl : k = w := by omega
          obtain ⟨i', rfl⟩ : ∃ i' : Nat, i = i' := ⟨i.toNat, by omega⟩
          obtain ⟨f', rfl⟩ : ∃ f' : Nat, f = f' := ⟨f.toNat, by omega⟩
          obtain ⟨t', rfl⟩ : ∃ t' : Nat, t = t' := ⟨t.toNat, by omega⟩
          refine x_skip <| .then_normal <| zr2 <| mvI rfl rfl <| asI rfl rfl <| zq <| x_block ?_
          refine x_loop (I := fun m' F D M4 L4 => ∃ (k : Nat) (A4 : Option Addr) (n4 c4 : Nat), m' = t' - f' - k ∧ k ≤ t' - f' ∧ Le M M4 ∧ Bytes M4 A4 n4 c4 (upC o name q.toNat i' f' x k) ∧ D = [] ∧ (b1, .cells (List.toArray o.cells) 27 (0, 0)) :: L = L4 ∧ F = [(1, .slice NA nl nc), (2, .int .u32 (q.toNat : Int)), (3, .int .i64 i'), (5, .int .i64 t'), (6, .slice A4 n4 c4), (7, .pointer (some ⟨b1, 0, none⟩)), (17, .int .i64 ((f' + k : Nat) : Int))]) (t' - f') (F0 := [(1, _), (2, _), (3, _), (5, _), (6, _), (7, _), (17, _)]) ?_ (.cons rfl (.cons rfl (.cons rfl (.cons rfl (.cons rfl (.cons rfl (.cons rfl .nil))))))) ?_  -- slots [1, 2, 3, 5, 6, 7, 17], written [6, 17]
          · exact ⟨0, XA, xl, xc, rfl, by omega, Le.refl _, hx, rfl, rfl, rfl⟩
          rintro m _ _ M4 _ ⟨j, A4, n4, c4, rfl, hj, hM4, hA4, rfl, rfl, rfl⟩
          refine zr2 <| mvI rfl rfl <| mvI rfl rfl <| tl_y rfl (y_lss rfl rfl) <| zq <| x_cond rfl (fun hc3 => ?_) (fun hc3 => ?_)
          ·
            refine x_skip <| .then_normal <| x_seq <| x_block <| x_region <| tl_y rfl (y_lg rfl rfl) <| mvS rfl rfl <| mvI rfl rfl <| mvI rfl rfl <| mvI rfl rfl <| mvS rfl rfl ?_
            refine tl_e rfl <| e_call' rfl (RStep_spec9 o (hname.mono hM4) hA4 q (i' : Int) ((f' + j : Nat) : Int)) ?_
            rintro _ M5 _ hM5 ⟨rfl, A5, m5, c5, rfl, hA5⟩
            rw [upC_step hsha (by rw [hnls, hxls]; exact hok) (by omega)] at hA5
            refine asS rfl rfl <| tl_nil <| .block_normal <| .then_normal <| .s7 1 2 3 5 6 7 17 rfl rfl rfl rfl rfl rfl rfl <| x_region <| mvI rfl rfl <| tl_y rfl (y_addI rfl rfl (by omega)) ?_
            rw [show ((f' + j : Nat) : Int) + 1 = ((f' + (j + 1) : Nat) : Int) by omega]
            refine asI rfl rfl <| tl_nil <| .loop_next (m' := t' - f' - (j + 1)) (by omega) (F' := [(1, _), (2, _), (3, _), (5, _), (6, _), (7, _), (17, _)]) (.cons rfl (.cons rfl (.cons rfl (.cons rfl (.cons rfl (.cons rfl (.cons rfl .nil))))))) ?_
            exact ⟨j + 1, A5, m5, c5, rfl, by omega, hM4.trans hM5, hA5, rfl, rfl, rfl⟩
          ·
            obtain rfl : j = t' - f' := by omega
            have hA4l := hA4.size
            have hul := upC_length hoc hsha name q.toNat i' f' (by rw [hxls]; exact hob.2.2.2) (t' - f')
            refine x_exit <| .then_exit <| .loop_exit <| .block_exit <| .then_normal <| .s1 6 rfl <| zr <| tl_e rfl <| e_buildSlice0 <| fun b2 => mvS rfl rfl <| tl_e rfl <| e_append1 (by decide) rfl rfl OwnRow.made00 (.row hA4) (all_one_bv _) (by omega) (by omega) <| fun A6 c6 E6 hE6 => ?_
            rw [Nat.zero_add, List.nil_append] at hE6; rw [Nat.zero_add]
            refine asS rfl rfl <| zq <| .s1 14 rfl <| x_ret (.pubRow hE6 fun M7 hM7 hr => .dropTo L inferInstance (ret1 rfl rfl (hM4.trans hM7) ⟨rfl, _, _, _, rfl, ?_⟩))
            rw [cUp, hnls, hxls, if_pos ⟨hok, hf0, hft, by rw [hkk.1]; exact htm⟩, Int.toNat_natCast, Int.toNat_natCast, show ((t' : Int) - (f' : Int)).toNat = t' - f' by omega]
            exact hr
      ·
        refine x_region <| tl_y rfl (y_lg rfl rfl) <| mvS rfl rfl <| mvI rfl rfl <| mvS rfl rfl <| tl_e rfl <| e_call' rfl (RRight_spec o i) ?_
        rintro _ _ _ _ ⟨rfl, rfl, rfl⟩
        refine tl_y rfl (y_notd rfl) <| mvB rfl rfl <| tl_cases (s := 36) rfl (fun hk1 => ?_) (fun hk1 => ?_)
        ·
          refine tl_skip rfl <| tl_skip rfl <| tl_y rfl (y_pickT rfl rfl) <| mvB rfl rfl <| tl_skip rfl <| tl_skip rfl <| tl_skip rfl <| tl_y rfl (y_pickT rfl rfl) <| mvB rfl rfl <| tl_skip rfl ?_
          refine tl_skip rfl <| tl_skip rfl <| tl_skip rfl <| tl_y rfl (y_pickT rfl rfl) <| zq <| .sub (F' := [(1, _), (2, _), (3, _), (4, _), (5, _), (6, _), (7, _), (50, _)]) (.cons rfl (.cons rfl (.cons rfl (.cons rfl (.cons rfl (.cons rfl (.cons rfl (.cons rfl .nil)))))))) <| Jq6 _ _ _ _ ?_
          exact ⟨_, by
            constructor
            · intro ht
              first | exact fun h => hk1 h.1 | (simp at ht; exact fun h => by omega) | exact fun h => by omega
            · intro hno
              first | rfl | (simp; exact Int.not_le.1 fun h => hno ⟨Classical.not_not.1 hk1, by omega, by omega, by omega⟩) | (simp; omega), rfl, rfl, rfl, rfl⟩
        ·
          refine mvI rfl rfl <| tl_y rfl (y_lss rfl rfl) <| tl_y rfl (y_pickF rfl rfl) <| mvB rfl rfl <| tl_cases (s := 40) rfl (fun hk2 => ?_) (fun hk2 => ?_)
          ·
            refine tl_skip rfl <| tl_skip rfl <| tl_skip rfl <| tl_y rfl (y_pickT rfl rfl) <| mvB rfl rfl <| tl_skip rfl <| tl_skip rfl <| tl_skip rfl <| tl_skip rfl <| tl_y rfl (y_pickT rfl rfl) ?_
            refine zq <| .sub (F' := [(1, _), (2, _), (3, _), (4, _), (5, _), (6, _), (7, _), (50, _)]) (.cons rfl (.cons rfl (.cons rfl (.cons rfl (.cons rfl (.cons rfl (.cons rfl (.cons rfl .nil)))))))) <| Jq6 _ _ _ _ ?_
            exact ⟨_, by
              constructor
              · intro ht
                first | exact fun h => hk1 h.1 | (simp at ht; exact fun h => by omega) | exact fun h => by omega
              · intro hno
                first | rfl | (simp; exact Int.not_le.1 fun h => hno ⟨Classical.not_not.1 hk1, by omega, by omega, by omega⟩) | (simp; omega), rfl, rfl, rfl, rfl⟩
          ·
            refine mvI rfl rfl <| mvI rfl rfl <| tl_y rfl (y_gtr rfl rfl) <| tl_y rfl (y_pickF rfl rfl) <| mvB rfl rfl <| tl_cases (s := 45) rfl (fun hk3 => ?_) (fun hk3 => ?_)
            ·
              refine tl_skip rfl <| tl_skip rfl <| tl_skip rfl <| tl_skip rfl <| tl_y rfl (y_pickT rfl rfl) <| zq <| .sub (F' := [(1, _), (2, _), (3, _), (4, _), (5, _), (6, _), (7, _), (50, _)]) (.cons rfl (.cons rfl (.cons rfl (.cons rfl (.cons rfl (.cons rfl (.cons rfl (.cons rfl .nil)))))))) <| Jq6 _ _ _ _ ?_
              exact ⟨_, by
                constructor
                · intro ht
                  first | exact fun h => hk1 h.1 | (simp at ht; exact fun h => by omega) | exact fun h => by omega
                · intro hno
                  first | rfl | (simp; exact Int.not_le.1 fun h => hno ⟨Classical.not_not.1 hk1, by omega, by omega, by omega⟩) | (simp; omega), rfl, rfl, rfl, rfl⟩
            ·
              refine mvI rfl rfl <| mvI rfl rfl <| tl_y rfl (y_subI rfl rfl (by omega)) <| tl_y rfl (y_gtr rfl rfl) <| tl_y rfl (y_pickF rfl rfl) <| zq <| .sub (F' := [(1, _), (2, _), (3, _), (4, _), (5, _), (6, _), (7, _), (50, _)]) (.cons rfl (.cons rfl (.cons rfl (.cons rfl (.cons rfl (.cons rfl (.cons rfl (.cons rfl .nil)))))))) <| Jq6 _ _ _ _ ?_
              exact ⟨_, by
                constructor
                · intro ht
                  first | exact fun h => hk1 h.1 | (simp at ht; exact fun h => by omega) | exact fun h => by omega
                · intro hno
                  first | rfl | (simp; exact Int.not_le.1 fun h => hno ⟨Classical.not_not.1 hk1, by omega, by omega, by omega⟩) | (simp; omega), rfl, rfl, rfl, rfl⟩
  ·
    refine x_region <| mvI rfl rfl <| tl_y rfl (y_fieldAddr rfl) <| tl_y rfl (y_ld rfl rfl) <| tl_y rfl (y_lss rfl rfl) <| mvB rfl rfl <| tl_cases (s := 22) rfl (fun hk4 => ?_) (fun hk4 => ?_)
    ·
      refine mvI rfl rfl <| tl_y rfl (y_lss rfl rfl) <| tl_y rfl (y_pickT rfl rfl) <| zq <| .sub (F' := [(1, _), (2, _), (3, _), (4, _), (5, _), (6, _), (7, _), (15, _), (16, _), (25, _)]) (.cons rfl (.cons rfl (.cons rfl (.cons rfl (.cons rfl (.cons rfl (.cons rfl (.cons rfl (.cons rfl (.cons rfl .nil)))))))))) <| Jq3 _ _ _ _ ?_
      exact ⟨_, by first | (simp; done) | (simp; omega) | omega, rfl, rfl, rfl, rfl⟩
    ·
      refine tl_skip rfl <| tl_skip rfl <| tl_y rfl (y_pickF rfl rfl) <| zq <| .sub (F' := [(1, _), (2, _), (3, _), (4, _), (5, _), (6, _), (7, _), (15, _), (16, _), (25, _)]) (.cons rfl (.cons rfl (.cons rfl (.cons rfl (.cons rfl (.cons rfl (.cons rfl (.cons rfl (.cons rfl (.cons rfl .nil)))))))))) <| Jq3 _ _ _ _ ?_
      exact ⟨_, by first | (simp; done) | (simp; omega) | omega, rfl, rfl, rfl, rfl⟩
end
end Go.Proofs.YtiimjodbaogjbaaGreatDoor
set_option linter.unusedVariables false
set_option linter.unusedSimpArgs false
namespace Go.Proofs.YtiimjodbaogjbaaGreatDoor
open Go Go.Eng
def dig (w c k : Nat) : Nat := c / 2 ^ (8 - w * (k + 1)) % 2 ^ w
def dpb (w : Nat) : Nat := 8 / w
def digAt (w : Nat) (bs : List UInt8) (m : Nat) : Nat := dig w (bs.getD (m / dpb w) 0).toNat (m % dpb w)
def digs (w : Nat) (bs : List UInt8) (m : Nat) : List Nat := (List.range m).map (digAt w bs)
def lackN (w : Nat) (bs : List UInt8) (m : Nat) : Nat := ((digs w bs m).map fun d => 2 ^ w - 1 - d).sum
theorem digs_len (w : Nat) (bs : List UInt8) (m : Nat) : (digs w bs m).length = m := by simp [digs]
theorem digs_succ (w : Nat) (bs : List UInt8) (m : Nat) : digs w bs (m + 1) = digs w bs m ++ [digAt w bs m] := by rw [digs, List.range_succ, List.map_append]; rfl
theorem lackN_succ (w : Nat) (bs : List UInt8) (m : Nat) : lackN w bs (m + 1) = lackN w bs m + (2 ^ w - 1 - digAt w bs m) := by
 rw [lackN, digs_succ, List.map_append, List.sum_append]; simp [lackN]
theorem dpb_pos {w : Nat} (h : isW w) : 1 ≤ dpb w ∧ w * dpb w = 8 := by rcases h with rfl | rfl | rfl | rfl <;> decide
theorem digAt_lt (w : Nat) (bs : List UInt8) (m : Nat) : digAt w bs m < 2 ^ w := Nat.mod_lt _ (Nat.two_pow_pos w)
theorem lackN_le (w : Nat) (bs : List UInt8) : ∀ m, lackN w bs m ≤ m * (2 ^ w - 1)
 | 0 => by simp [lackN, digs]
 | m + 1 => by
  have := lackN_le w bs m
  rw [lackN_succ, Nat.succ_mul]
  omega
theorem bit_step (x i : Nat) : 2 * (x / 2 % 2 ^ i) + x % 2 = x % 2 ^ (i + 1) := by
 rw [Nat.pow_succ, Nat.mul_comm (2 ^ i) 2, Nat.mod_mul]; omega
theorem bits_step (c s i : Nat) (h : s + i < 8) : 2 * (c / 2 ^ (8 - s - i) % 2 ^ i) + c / 2 ^ (7 - (s + i)) % 2 = c / 2 ^ (8 - s - (i + 1)) % 2 ^ (i + 1) := by
 have e : c / 2 ^ (8 - s - i) = c / 2 ^ (7 - (s + i)) / 2 := by
  rw [Nat.div_div_eq_div_mul, ← Nat.pow_succ]; congr 2; omega
 rw [e, show 8 - s - (i + 1) = 7 - (s + i) by omega]
 exact bit_step _ i
theorem dig_bits {w : Nat} (hw : isW w) (c k : Nat) (hk : k < dpb w) : c / 2 ^ (8 - w * k - w) % 2 ^ w = dig w c k := by
 rw [dig, Nat.mul_succ, Nat.sub_sub]
theorem lack_fits {n w : Nat} (hn : isN n) (hw : isW w) : shX n w * 2 ^ shS n w < 65536 ∧ shX n w = n * dpb w * (2 ^ w - 1) ∧ shV n w ≤ 2 * dpb w ∧ shU n w = n * dpb w := by
 rcases hn with rfl | rfl <;> rcases hw with rfl | rfl | rfl | rfl <;> decide
def lackX (n w : Nat) (bs : List UInt8) : Nat := lackN w bs (n * dpb w) * 2 ^ shS n w
theorem lackX_lt {n w : Nat} (hn : isN n) (hw : isW w) (bs : List UInt8) : lackX n w bs < 65536 := by
 obtain ⟨h1, h2, _⟩ := lack_fits hn hw
 have h3 := lackN_le w bs (n * dpb w)
 rw [← h2] at h3
 exact Nat.lt_of_le_of_lt (Nat.mul_le_mul_right _ h3) h1
def two (x : Nat) : List UInt8 := [UInt8.ofNat (x / 256), UInt8.ofNat (x % 256)]
def allD (n w : Nat) (bs : List UInt8) : List Nat := digs w bs (n * dpb w) ++ (digs w (two (lackX n w bs)) (2 * dpb w)).take (shV n w)
theorem allD_len {n w : Nat} (hn : isN n) (hw : isW w) (bs : List UInt8) : (allD n w bs).length = shU n w + shV n w := by
 obtain ⟨_, _, h3, h4⟩ := lack_fits hn hw
 rw [allD, List.length_append, digs_len, List.length_take, digs_len, Nat.min_eq_left h3, h4]
theorem allD_lt {n w : Nat} (bs : List UInt8) : ∀ d ∈ allD n w bs, d < 2 ^ w := by
  intro d hd
  rcases List.mem_append.1 hd with h | h
  · obtain ⟨m, _, rfl⟩ := List.mem_map.1 h
    exact digAt_lt _ _ _
  · obtain ⟨m, _, rfl⟩ := List.mem_map.1 (List.mem_of_mem_take h)
    exact digAt_lt _ _ _
end Go.Proofs.YtiimjodbaogjbaaGreatDoor
set_option linter.unusedVariables false
set_option linter.unusedSimpArgs false
set_option linter.constructorNameAsVariable false
namespace Go.Proofs.YtiimjodbaogjbaaGreatDoor
open Go Go.Eng
theorem and_one : ∀ x : Fin 256, IntKind.i64.wrap (((BitVec.ofInt IntKind.i64.bits (x.val : Int) &&& BitVec.ofInt IntKind.i64.bits 1).toNat : Nat) : Int) = ((x.val % 2 : Nat) : Int) := by decide +kernel
theorem and_three : ∀ x : Fin 256, IntKind.i64.wrap (((BitVec.ofInt IntKind.i64.bits (x.val : Int) &&& BitVec.ofInt IntKind.i64.bits 3).toNat : Nat) : Int) = ((x.val % 4 : Nat) : Int) := by decide +kernel
theorem and_15 : ∀ x : Fin 256, IntKind.i64.wrap (((BitVec.ofInt IntKind.i64.bits (x.val : Int) &&& BitVec.ofInt IntKind.i64.bits 15).toNat : Nat) : Int) = ((x.val % 16 : Nat) : Int) := by decide +kernel
theorem and_255 : ∀ x : Fin 256, IntKind.i64.wrap (((BitVec.ofInt IntKind.i64.bits (x.val : Int) &&& BitVec.ofInt IntKind.i64.bits 255).toNat : Nat) : Int) = ((x.val % 256 : Nat) : Int) := by decide +kernel
theorem and_w {w x : Nat} (h : isW w) (hx : x < 256) : IntKind.i64.wrap (((BitVec.ofInt IntKind.i64.bits (x : Int) &&& BitVec.ofInt IntKind.i64.bits (((2 ^ w : Nat) : Int) - 1)).toNat : Nat) : Int) = ((x % 2 ^ w : Nat) : Int) := by
  rcases h with rfl | rfl | rfl | rfl
  · exact and_one ⟨x, hx⟩
  · exact and_three ⟨x, hx⟩
  · exact and_15 ⟨x, hx⟩
  · exact and_255 ⟨x, hx⟩
section
variable {G : World} {M : Mem} {L : Own}
theorem each_spec {A : Option Addr} {n c : Nat} (w : Int) :
  Con Tryz.prog 234 #[.slice A n c, .int .i64 w] G M L (fun v M' L' => M = M' ∧ ∃ x0 x1, L' = (x0, .cells (List.toArray [.slice A n c]) 35 (0, 0)) :: (x1, .cells (List.toArray [.int .i64 w]) 3 (0, 0)) :: L ∧ v = .func (.func 242) (List.toArray []) (List.toArray [.pointer (some ⟨x0, 0, none⟩), .pointer (some ⟨x1, 0, none⟩)])) noPanic := by
 refine enter (args := [_, _]) (fn := Tryz.f234) ⟨Tryz.func234, rfl, by kernel_rfl, by kernel_rfl⟩ 6 rfl <| zr <| tl_e rfl <| e_box rfl <| fun b1 => tl_e rfl <| e_box rfl <| fun b2 => as0 rfl rfl <| zq <| zr <| tl_y rfl (y_makeFunc rfl rfl) <| asF rfl rfl <| zq ?_
 refine .s1 4 rfl <| x_ret (.to ((b1, .cells (List.toArray [.slice A n c]) 35 (0, 0)) :: (b2, .cells (List.toArray [.int .i64 w]) 3 (0, 0)) :: L) inferInstance (ret1 rfl rfl (Le.refl _) ⟨rfl, b1, b2, rfl, rfl⟩))
theorem each1_spec {l x0 x1 : Nat} {A : Option Addr} {n c w : Nat} (hw : isW w) {bs : List UInt8} {X0 : Own} (hb : Bytes M A n c bs) (hn : n ≤ 1000000000000) {Inv : Nat → Mem → Own → Prop} {Dn : Mem → Own → Prop}
    (hy : ∀ m M1 X1, m < n * dpb w → Le M M1 → Inv m M1 X1 → YCon Tryz.prog l [.int .i64 ((digAt w bs m : Nat) : Int)] G M1 X1 (Inv (m + 1)) Dn) (h0 : Inv 0 M X0) :
    Con Tryz.prog 242 #[.func (.yield l) (List.toArray []) (List.toArray []), .pointer (some ⟨x0, 0, none⟩), .pointer (some ⟨x1, 0, none⟩)] G M ((x0, .cells (List.toArray [.slice A n c]) 35 (0, 0)) :: (x1, .cells (List.toArray [.int .i64 (w : Int)]) 3 (0, 0)) :: X0)
      (fun v M' L' => ∃ X', L' = (x0, .cells (List.toArray [.slice A n c]) 35 (0, 0)) :: (x1, .cells (List.toArray [.int .i64 (w : Int)]) 3 (0, 0)) :: X' ∧ (Inv (n * dpb w) M' X' ∨ Dn M' X')) noPanic := by
  have hmx := hb.max
  have hle := hb.le
  have hbl := hb.size
  obtain ⟨hd1, hd8⟩ := dpb_pos hw
  have hw8 : 1 ≤ w ∧ w ≤ 8 := by rcases hw with rfl | rfl | rfl | rfl <;> omega
  have hsh := shl1_w hw
  have h2w : 2 ≤ 2 ^ w ∧ 2 ^ w ≤ 256 := pw2_w hw
  refine enter (args := [_, _, _]) (fn := Tryz.f242) ⟨Tryz.func242, rfl, by kernel_rfl, by kernel_rfl⟩ 32 rfl <| zr <| tl_y rfl (y_ld rfl rfl) <| tl_y rfl (y_len rfl) <| mv0 rfl rfl <| zq <| x_block ?_
  refine x_loop (I := fun m' F D M1 L1 => ∃ (i : Nat) (X1 : Own), m' = n - i ∧ i ≤ n ∧ Le M M1 ∧ Inv (i * dpb w) M1 X1 ∧ D = [] ∧ L1 = (x0, .cells (List.toArray [.slice A n c]) 35 (0, 0)) :: (x1, .cells (List.toArray [.int .i64 (w : Int)]) 3 (0, 0)) :: X1 ∧ F = [(0, .func (.yield l) (List.toArray []) (List.toArray [])), (2, .pointer (some ⟨x1, 0, none⟩)), (7, .slice A n c), (8, .int .i64 (n : Int)), (9, .int .i64 (i : Int))]) (n) (F0 := [(0, _), (2, _), (7, _), (8, _), (9, _)]) ?_ (.cons rfl (.cons rfl (.cons rfl (.cons rfl (.cons rfl .nil))))) ?_  -- slots [0, 2, 7, 8, 9], written [9]
  · exact ⟨0, X0, rfl, by omega, Le.refl _, by rw [Nat.zero_mul]; exact h0, rfl, rfl, rfl⟩
  rintro m _ _ M1 L1 ⟨i, X1, rfl, hi, hM1, hI, rfl, rfl, rfl⟩
  refine zr <| tl_y rfl (y_lss rfl rfl) <| zq <| x_seq <| x_cond rfl (fun hc1 => ?_) (fun hc1 => ?_)
  ·
    have hin : i < n := by omega
    obtain ⟨g, o, rfl, hcell⟩ := (hb.mono hM1).byte (by omega)
    obtain ⟨cc, hcc⟩ : ∃ cc, cc = bs.getD i 0 := ⟨_, rfl⟩
    have hc8 := cc.toNat_lt
    refine x_skip <| .then_normal <| x_seq <| x_block <| zr <| tl_y rfl (y_indexAddrK i rfl rfl (by omega)) <| tl_y rfl (y_load rfl rfl (.at_ (hcell _ i (by omega)) (by omega))) ?_
    rw [← hcc]
    refine asI rfl rfl <| zq <| zr <| tl_y rfl (y_ld rfl rfl) <| tl_y rfl (y_subI rfl rfl (by omega)) <| asI rfl rfl <| zq <| .s7 0 2 5 6 7 8 9 rfl rfl rfl rfl rfl rfl rfl <| x_block ?_
    refine x_loop (I := fun m' F D M2 L2 => ∃ (k : Nat) (X2 : Own), m' = dpb w - k ∧ k ≤ dpb w ∧ Le M M2 ∧ Inv (i * dpb w + k) M2 X2 ∧ D = [] ∧ L2 = (x0, .cells (List.toArray [.slice (some ⟨g, o, none⟩) n c]) 35 (0, 0)) :: (x1, .cells (List.toArray [.int .i64 (w : Int)]) 3 (0, 0)) :: X2 ∧ F = [(0, .func (.yield l) (List.toArray []) (List.toArray [])), (2, .pointer (some ⟨x1, 0, none⟩)), (5, .int .u8 (cc.toNat : Int)), (6, .int .i64 (8 - ((w * (k + 1) : Nat) : Int))), (7, .slice (some ⟨g, o, none⟩) n c), (8, .int .i64 (n : Int)), (9, .int .i64 (i : Int))]) (dpb w) (F0 := [(0, _), (2, _), (5, _), (6, _), (7, _), (8, _), (9, _)]) ?_ (.cons rfl (.cons rfl (.cons rfl (.cons rfl (.cons rfl (.cons rfl (.cons rfl .nil))))))) ?_  -- slots [0, 2, 5, 6, 7, 8, 9], written [6]
    · exact ⟨0, X1, rfl, by omega, hM1, hI, rfl, rfl, by rw [Nat.zero_add, Nat.mul_one]⟩
    rintro m _ _ M2 L2 ⟨k, X2, rfl, hk, hM2, hI2, rfl, rfl, rfl⟩
    have hwk : w * (k + 1) = w * k + w := Nat.mul_succ w k
    have hwk2 : w * (k + 1 + 1) = w * (k + 1) + w := Nat.mul_succ w (k + 1)
    refine zr2 <| mvI rfl rfl <| tl_y rfl (y_geq rfl rfl) <| zq <| x_cond rfl (fun hc2 => ?_) (fun hc2 => ?_)
    ·
      have hkd : k < dpb w := by
        rcases Nat.lt_or_ge k (dpb w) with h | h
        · exact h
        · have := Nat.mul_le_mul_left w h
          omega
      have hwk8 : w * (k + 1) ≤ 8 := by
        have := Nat.mul_le_mul_left w (show k + 1 ≤ dpb w from hkd)
        omega
      have hm : i * dpb w + k < n * dpb w := by
        have := Nat.mul_le_mul_right (dpb w) (show i + 1 ≤ n from hin)
        rw [Nat.succ_mul] at this
        omega
      have hdg : digAt w bs (i * dpb w + k) = cc.toNat / 2 ^ (8 - w * (k + 1)) % 2 ^ w := by
        rw [digAt, dig, hcc, Nat.mul_comm i, Nat.mul_add_div (by omega), Nat.div_eq_of_lt hkd, Nat.add_zero, Nat.mul_add_mod, Nat.mod_eq_of_lt hkd]
      have hq : cc.toNat / 2 ^ (8 - w * (k + 1)) < 256 := Nat.lt_of_le_of_lt (Nat.div_le_self _ _) hc8
      have hfd : Int.fdiv (cc.toNat : Int) (2 ^ (min (8 - ((w * (k + 1) : Nat) : Int)).toNat IntKind.i64.bits)) = ((cc.toNat / 2 ^ (8 - w * (k + 1)) : Nat) : Int) := by
        rw [show (8 - ((w * (k + 1) : Nat) : Int)).toNat = 8 - w * (k + 1) by omega, Nat.min_eq_left (by show _ ≤ 64; omega), Int.fdiv_eq_ediv_of_nonneg _ (by exact Int.pow_nonneg (by decide))]
        rw [Int.natCast_ediv, Int.natCast_pow]; first | rfl | done
      refine x_skip <| .then_normal <| x_seq <| x_block <| x_seq <| x_draw0 11 ([(x1, .cells (List.toArray [.int .i64 (w : Int)]) 3 (0, 0))]) Keeps.mem hmix rfl <| zp 0 rfl rfl (y_move (v := .func _ _ _) rfl) <| zp 1 rfl rfl (y_move (v := .int _ _) rfl) <| zp 2 rfl rfl (y_convI rfl (by omega)) <| zp 3 rfl rfl (y_move (v := .int _ _) rfl) <| zp 4 rfl rfl (y_shr rfl rfl (by omega)) ?_
      rw [hfd]
      refine zy 5 rfl rfl (y_ld rfl rfl) <| zp 6 rfl rfl (y_shl rfl rfl (by omega)) ?_
      rw [hsh]
      refine zp 7 rfl rfl (y_subI rfl rfl (by omega)) <| zp 8 rfl rfl (y_and rfl rfl) ?_
      rw [and_w hw hq, ← hdg]
      refine ze 9 rfl rfl <| e_yieldB (R := [(x0, .cells (List.toArray [.slice (some ⟨g, o, none⟩) n c]) 35 (0, 0)), (x1, .cells (List.toArray [.int .i64 (w : Int)]) 3 (0, 0))]) (X := X2) rfl rfl (hy (i * dpb w + k) M2 X2 hm hM2 hI2) <| fun b M3 X3 hM3 hbb => ?_
      simp only [List.cons_append, List.nil_append]
      refine ⟨⟨(by first | exact Le.refl _ | assumption), Keeps.mem⟩, ?_⟩
      refine zp 10 rfl rfl (y_not rfl) <| zz <| .then_normal <| .s8 0 2 5 6 7 8 9 30 rfl rfl rfl rfl rfl rfl rfl rfl <| x_condb rfl (fun hc3 => ?_) (fun hc3 => ?_)
      ·
        refine x_ret (.block_ret (.then_ret (.loop_ret (.block_ret (.block_ret (.then_ret (.loop_ret (.block_ret (ret0 rfl (hM2.trans hM3) ⟨X3, rfl, by
          rcases hbb with ⟨rfl, _⟩ | ⟨_, hbb⟩
          · simp at hc3
          · exact .inr hbb⟩)))))))))
      ·
        refine x_skip <| .block_normal <| .then_normal <| x_region <| mvI rfl rfl <| tl_y rfl (y_ld rfl rfl) <| tl_y rfl (y_subI rfl rfl (by omega)) ?_
        rw [show (8 - ((w * (k + 1) : Nat) : Int)) - (w : Int) = 8 - ((w * (k + 1 + 1) : Nat) : Int) by omega]
        refine asI rfl rfl <| tl_nil <| .loop_next (m' := dpb w - (k + 1)) (by omega) (F' := [(0, _), (2, _), (5, _), (6, _), (7, _), (8, _), (9, _)]) (.cons rfl (.cons rfl (.cons rfl (.cons rfl (.cons rfl (.cons rfl (.cons rfl .nil))))))) ?_
        exact ⟨k + 1, X3, rfl, by omega, hM2.trans hM3, by
          rcases hbb with ⟨_, hbb⟩ | ⟨rfl, hbb⟩
          · exact hbb
          · simp at hc3, rfl, rfl, rfl⟩
    ·
      have hke : k = dpb w := by
        rcases Nat.lt_or_ge k (dpb w) with h | h
        · have := Nat.mul_le_mul_left w (show k + 1 ≤ dpb w from h)
          omega
        · omega
      refine x_exit <| .then_exit <| .loop_exit <| .block_exit <| .block_normal <| .then_normal <| .s5 0 2 7 8 9 rfl rfl rfl rfl rfl <| x_region <| tl_y rfl (y_addI rfl rfl (by omega)) <| mvI rfl rfl <| tl_nil <| .loop_next (m' := n - (i + 1)) (by omega) (F' := [(0, _), (2, _), (7, _), (8, _), (9, _)]) (.cons rfl (.cons rfl (.cons rfl (.cons rfl (.cons rfl .nil))))) ?_
      exact ⟨i + 1, X2, rfl, by omega, hM2, by rw [Nat.succ_mul, ← hke]; rw [← hke] at hI2; exact hI2, rfl, rfl, rfl⟩
  ·
    refine x_exit (.then_exit (.loop_exit (.block_exit (end0 rfl hM1 ⟨X1, rfl, .inl (by
      obtain rfl : i = n := by omega
      exact hI)⟩))))
end
end Go.Proofs.YtiimjodbaogjbaaGreatDoor
set_option linter.unusedVariables false
set_option linter.unusedSimpArgs false
set_option linter.constructorNameAsVariable false
namespace Go.Proofs.YtiimjodbaogjbaaGreatDoor
open Go Go.Eng
def intsL (xs : List Nat) : List Value := xs.map fun (x : Nat) => Value.int .i64 (x : Int)
theorem intsL_one (xs : List Nat) : (intsL xs).all one = true := by simp [intsL, one, Value.oneCell']
theorem intsL_one' (xs : List Nat) (i j : Nat) : (((intsL xs).drop i).take j).all one = true := by
 rw [List.all_eq_true]
 intro v hv
 exact List.all_eq_true.1 (intsL_one xs) v (List.mem_of_mem_drop (List.mem_of_mem_take hv))
theorem allD_vals (n w v : Nat) (bs : List UInt8) (h : v = shV n w) : intsL (digs w bs (n * dpb w)) ++ ((intsL (digs w (two (lackX n w bs)) (2 * dpb w))).drop (0 * 1)).take ((v - 0) * 1) = intsL (allD n w bs) := by
 rw [allD, Nat.zero_mul, List.drop_zero, Nat.sub_zero, Nat.mul_one, h, intsL, intsL, intsL, List.map_append, List.map_take]
theorem dpb_le {w : Nat} (h : isW w) (n : Nat) (hn : n ≤ 1000000000) : n * dpb w ≤ 8000000000 := by
 have h1 : dpb w ≤ 8 := by rcases h with rfl | rfl | rfl | rfl <;> decide
 exact Nat.le_trans (Nat.mul_le_mul hn h1) (by decide)
theorem two_putB {x : Nat} (h : x < 65536) : putB x 2 = two x := by
 have h1 : putB x 2 = [UInt8.ofNat (x / 256 % 256), UInt8.ofNat (x % 256)] := rfl
 rw [h1, two, Nat.mod_eq_of_lt (show x / 256 < 256 by omega)]
section
variable {G : World} {M : Mem} {L : Own}
theorem Of_spec {A : Option Addr} {n c w : Nat} (hw : isW w) {bs : List UInt8} (hb : Bytes M A n c bs) (hn : n ≤ 1000000000) :
    Con Tryz.prog 219 #[.slice A n c, .int .i64 (w : Int)] G M L (fun v M' L' => ∃ A' c' E, v = .slice A' (n * dpb w) c' ∧ OwnRow 3 1 A' (n * dpb w) c' (intsL (digs w bs (n * dpb w))) E ∧ L' = E ++ L) noPanic := by
  obtain ⟨hd1, hd8⟩ := dpb_pos hw
  have hnd := dpb_le hw n hn
  refine enterM (args := [_, _]) (fn := Tryz.f219) ⟨Tryz.func219, rfl, by kernel_rfl, by kernel_rfl⟩ 19 rfl <| zr <| as0 rfl rfl <| zq <| zr2 <| mvI rfl rfl <| tl_e rfl <| e_call' rfl (dMay_spec _) ?_
  rintro _ M1 _ hM1 ⟨rfl, rfl⟩
  rw [isW_mem hw]
  refine tl_y rfl (y_not rfl) <| zq <| x_false rfl (rfl) <| x_skip <| .then_normal <| .s2 0 1 rfl rfl <| zr <| tl_e rfl <| e_alloc <| fun b1 => zq <| zr2 <| mvS rfl rfl ?_
  refine mvI rfl rfl <| tl_e rfl <| e_call' rfl (each_spec _) ?_
  rintro _ _ _ _ ⟨rfl, x0, x1, rfl, rfl⟩
  refine zq <| .s2 5 12 rfl rfl <| x_block <| x_rangeN rfl rfl <| fun l r0 fn tm lps las lbd hps has hbd htm => ?_
  obtain ⟨xs, hxs⟩ : ∃ xs : LoopState → Option Code → Option Addr → Nat → Nat → Own → Own, ∀ st pd A k c E, xs st pd A k c E = lrec l st pd fn tm lps las lbd r0 :: (r0, .deferred (some [])) :: (b1, .cells (List.toArray [.slice A k c]) 156 (0, 0)) :: (E ++ L) := ⟨_, fun _ _ _ _ _ _ => rfl⟩
  refine Con.postD (Con.to ((x0, .cells (List.toArray [.slice A n c]) 35 (0, 0)) :: (x1, .cells (List.toArray [.int .i64 (w : Int)]) 3 (0, 0)) :: xs .ready none none 0 0 []) (by rw [hxs, List.nil_append]; infer_instance) (each1_spec hw (hb.mono hM1) (by omega) (Inv := fun k M2 X2 => ∃ (A6 : Option Addr) (c6 : Nat) (E6 : Own), Le M1 M2 ∧ OwnRow 3 1 A6 k c6 (intsL (digs w bs k)) E6 ∧ X2 = xs .ready none A6 k c6 E6) (Dn := fun _ _ => False) ?_ ⟨none, 0, [], Le.refl _, .nil, rfl⟩)) ?_
  · rintro k M2 X2 hk2 hM2 ⟨A6, c6, E6, hM12, hE6, rfl⟩
    rw [hxs]
    subst hps
    subst has
    subst hbd
    refine ycon_body htm rfl (by kernel_rfl) <| fun R1 => ?_
    simp only [List.cons_append, List.append_assoc]
    refine x_region <| asI rfl rfl <| tl_nil <| .asg (by kernel_rfl) <| x_block <| x_region <| tl_y rfl (y_ld rfl rfl) <| mvI rfl rfl <| tl_e rfl <| e_buildSlice rfl (by decide) <| fun b7 => .pub b7 inferInstance <| fun M5 hM5 hb7 => .bringE E6 inferInstance ?_
    refine tl_e rfl <| e_append (by decide) rfl rfl hE6 (.row (Row.whole (s := 1) hb7 rfl (by omega))) rfl (by omega) (by omega) <| fun A9 c9 E9 hE9 => ?_
    rw [show intsL (digs w bs k) ++ [Value.int .i64 ((digAt w bs k : Nat) : Int)] = intsL (digs w bs (k + 1)) by rw [digs_succ, intsL, intsL, List.map_append]; rfl] at hE9
    refine tl_e rfl <| e_st rfl rfl (by rfl) (by rfl) <| tl_nil (.block_normal (.on ((r0, .deferred (some [])) :: (b1, .cells (List.toArray [.slice A9 (k + 1) c9]) 156 (0, 0)) :: (E9 ++ (L ++ R1))) inferInstance inferInstance (X := (r0, .deferred (some [])) :: (b1, .cells (List.toArray [.slice A9 (k + 1) c9]) 156 (0, 0)) :: (E9 ++ L)) (by simp) hM5 ⟨A9, c9, E9, hM12.trans hM5, hE9, (hxs _ _ _ _ _ _).symm⟩))
  · rintro v M3 L3 hM3 ⟨X', rfl, hX⟩
    rcases hX with ⟨A6, c6, E6, hM13, hE6, rfl⟩ | hX
    · refine ⟨lrec l .ready none fn tm lps las lbd r0 :: (r0, .deferred (some [])) :: (b1, .cells (List.toArray [.slice A6 (n * dpb w) c6]) 156 (0, 0)) :: (E6 ++ L), by rw [hxs]; infer_instance, .ready, none, _, by simp, rfl, ?_⟩
      refine .block_normal <| .then_normal <| .s1 5 rfl <| zr <| tl_y rfl (y_ld rfl rfl) <| asS rfl rfl <| zq <| x_ret (.retM1 (r := r0) (L1 := E6 ++ L) inferInstance (rv1 rfl (rc_tmp (by rfl))) inferInstance (hM1.trans hM13) ⟨A6, c6, E6, rfl, hE6, rfl⟩)
    · exact hX.elim
theorem Lack_spec {A : Option Addr} {n c w : Nat} (hw : isW w) {bs : List UInt8} (hb : Bytes M A n c bs) (hn : n ≤ 1000000000) :
    Con Tryz.prog 220 #[.slice A n c, .int .i64 (w : Int)] G M L (fun v M' L' => L = L' ∧ v = .int .i64 ((lackN w bs (n * dpb w) : Nat) : Int)) noPanic := by
  obtain ⟨hd1, hd8⟩ := dpb_pos hw
  have hnd := dpb_le hw n hn
  have hsh := shl1_w hw
  have h2w : 2 ≤ 2 ^ w ∧ 2 ^ w ≤ 256 := pw2_w hw
  refine enterM (args := [_, _]) (fn := Tryz.f220) ⟨Tryz.func220, rfl, by kernel_rfl, by kernel_rfl⟩ 22 rfl <| zr <| tl_e rfl <| e_box rfl <| fun b1 => as0 rfl rfl <| zq <| zr2 <| tl_y rfl (y_ld rfl rfl) <| tl_e rfl <| e_call' rfl (dMay_spec _) ?_
  rintro _ M1 _ hM1 ⟨rfl, rfl⟩
  rw [isW_mem hw]
  refine tl_y rfl (y_not rfl) <| zq <| .s3 0 3 9 rfl rfl rfl <| x_false rfl (rfl) <| x_skip <| .then_normal <| zr <| tl_e rfl <| e_alloc <| fun b2 => tl_e rfl <| e_st rfl rfl (by rfl) (by rfl) <| zq <| zr2 ?_
  refine mvS rfl rfl <| tl_y rfl (y_ld rfl rfl) <| tl_e rfl <| e_call' rfl (each_spec _) ?_
  rintro _ _ _ _ ⟨rfl, x0, x1, rfl, rfl⟩
  refine zq <| .s3 3 5 12 rfl rfl rfl <| x_block <| x_rangeN rfl rfl <| fun l r0 fn tm lps las lbd hps has hbd htm => ?_
  obtain ⟨xs, hxs⟩ : ∃ xs : LoopState → Option Code → Nat → Own, ∀ st pd k, xs st pd k = lrec l st pd fn tm lps las lbd r0 :: (r0, .deferred (some [])) :: (b2, .cells (List.toArray [.int .i64 ((lackN w bs k : Nat) : Int)]) 3 (0, 0)) :: (b1, .cells (List.toArray [.int .i64 (w : Int)]) 3 (0, 0)) :: L := ⟨_, fun _ _ _ => rfl⟩
  refine Con.postD (Con.to ((x0, .cells (List.toArray [.slice A n c]) 35 (0, 0)) :: (x1, .cells (List.toArray [.int .i64 (w : Int)]) 3 (0, 0)) :: xs .ready none 0) (by rw [hxs, show ((lackN w bs 0 : Nat) : Int) = 0 by simp [lackN, digs]]; infer_instance) (each1_spec hw (hb.mono hM1) (by omega) (Inv := fun k M2 X2 => M1 = M2 ∧ xs .ready none k = X2) (Dn := fun _ _ => False) ?_ ⟨rfl, rfl⟩)) ?_
  · rintro k _ _ hk2 hM2 ⟨rfl, rfl⟩
    rw [hxs]
    have hlk := lackN_le w bs k
    have hlk2 : k * (2 ^ w - 1) ≤ 8000000000 * 255 := Nat.mul_le_mul (by omega) (by omega)
    have hdl := digAt_lt w bs k
    have hls := lackN_succ w bs k
    subst hps
    subst has
    subst hbd
    refine ycon_body htm rfl (by kernel_rfl) <| fun R1 => ?_
    simp only [List.cons_append, List.append_assoc]
    refine x_region <| asI rfl rfl <| .bring l inferInstance <| tl_nil <| .asg (by kernel_rfl) <| x_block <| x_draw 7 hmix rfl <| zy 0 rfl rfl (y_ld rfl rfl) <| zy 1 rfl rfl (y_ld rfl rfl) <| zp 2 rfl rfl (y_shl rfl rfl (by omega)) ?_
    rw [hsh]
    refine zp 3 rfl rfl (y_subI rfl rfl (by omega)) <| zp 4 rfl rfl (y_move (v := .int _ _) rfl) <| zp 5 rfl rfl (y_subI rfl rfl (by omega)) <| zp 6 rfl rfl (y_addI rfl rfl (by omega)) ?_
    rw [show ((lackN w bs k : Nat) : Int) + (((2 ^ w : Nat) : Int) - 1 - ((digAt w bs k : Nat) : Int)) = ((lackN w bs (k + 1) : Nat) : Int) by omega]
    refine zt 7 rfl rfl <| e_st rfl rfl (by rfl) (by rfl) <| zz (.block_normal (.on ((r0, .deferred (some [])) :: (b2, .cells (List.toArray [.int .i64 ((lackN w bs (k + 1) : Nat) : Int)]) 3 (0, 0)) :: (b1, .cells (List.toArray [.int .i64 (w : Int)]) 3 (0, 0)) :: (L ++ R1)) inferInstance inferInstance (X := (r0, .deferred (some [])) :: (b2, .cells (List.toArray [.int .i64 ((lackN w bs (k + 1) : Nat) : Int)]) 3 (0, 0)) :: (b1, .cells (List.toArray [.int .i64 (w : Int)]) 3 (0, 0)) :: L) (by simp) (Le.refl _) ⟨rfl, hxs _ _ _⟩))
  · rintro v M3 L3 hM3 ⟨X', rfl, hX⟩
    rcases hX with ⟨rfl, rfl⟩ | hX
    · refine ⟨lrec l .ready none fn tm lps las lbd r0 :: (r0, .deferred (some [])) :: (b2, .cells (List.toArray [.int .i64 ((lackN w bs (n * dpb w) : Nat) : Int)]) 3 (0, 0)) :: (b1, .cells (List.toArray [.int .i64 (w : Int)]) 3 (0, 0)) :: L, by rw [hxs]; infer_instance, .ready, none, _, by simp, rfl, ?_⟩
      refine .block_normal <| .then_normal <| .s1 5 rfl <| zr <| tl_y rfl (y_ld rfl rfl) <| asI rfl rfl <| zq <| x_ret (.retM1 (r := r0) (L1 := L) inferInstance (rv1 rfl (rc_tmp (by rfl))) inferInstance hM1 ⟨rfl, rfl⟩)
    · exact hX.elim
theorem All7_spec {A : Option Addr} {n c w : Nat} (hN : isN n) (hw : isW w) {bs : List UInt8} (hb : Bytes M A n c bs) :
  Con Tryz.prog 191 #[.slice A n c, .int .i64 (w : Int)] G M L (fun v M' L' => L = L' ∧ ∃ A' c', v = .slice A' (shU n w + shV n w) c' ∧ Row M' 1 A' (shU n w + shV n w) c' (intsL (allD n w bs))) noPanic := by
 obtain ⟨h1, h2, h3, h4, h5, h6, h7, h8, h9, h10⟩ := shape_fact hN hw
 obtain ⟨k1, k2, k3, k4⟩ := lack_fits hN hw
 have hnb : n ≤ 32 := by rcases hN with rfl | rfl <;> omega
 have hlx := lackX_lt hN hw bs
 have hll := lackN_le w bs (n * dpb w)
 refine enter (args := [_, _]) (fn := Tryz.f191) ⟨Tryz.func191, rfl, by kernel_rfl, by kernel_rfl⟩ 36 rfl <| zr <| as0 rfl rfl <| zq <| zr <| mvS rfl rfl <| tl_y rfl (y_len rfl) <| mvI rfl rfl <| tl_e rfl <| e_call' rfl (Shape_spec hN hw) ?_
 rintro _ M1 _ hM1 ⟨rfl, rfl⟩
 refine mvU rfl rfl <| zx rfl rfl <| zx rfl rfl <| zx rfl rfl <| asI rfl rfl <| asI rfl rfl <| asI rfl rfl <| zq <| .s5 0 1 5 6 7 rfl rfl rfl rfl rfl <| zr2 ?_
 refine mvI rfl rfl <| tl_y rfl (y_eql rfl rfl) <| zq <| x_false rfl (decide_eq_false (by omega)) <| x_skip <| .then_normal <| zr <| mvS rfl rfl <| mvI rfl rfl <| tl_e rfl <| e_call' rfl (Lack_spec hw (hb.mono hM1) (by omega)) ?_
 rintro _ M2 _ hM2 ⟨rfl, rfl⟩
 obtain ⟨y, hy⟩ : ∃ y : UInt64, y.toNat = lackN w bs (n * dpb w) := ⟨UInt64.ofNat (lackN w bs (n * dpb w)), by
  rw [UInt64.toNat_ofNat', Nat.mod_eq_of_lt]
  rw [← k2] at hll; omega⟩
 have hyx : (shl64 y (shS n w)).toNat = lackX n w bs := by
  rw [shl64, UInt64.toNat_ofNat', hy, ← lackX, Nat.mod_eq_of_lt (by omega)]
 refine tl_y rfl (y_convE (b := ((y.toNat : Nat) : Int)) rfl (by rw [hy, wrapU64, ← k2] at *; omega)) <| mvI rfl rfl <| tl_y rfl (y_shl64 rfl rfl) <| tl_e rfl <| e_call' rfl (Put_spec (shl64 y (shS n w)) 2) ?_
 rintro _ M3 _ hM3 ⟨rfl, hp⟩
 rw [if_pos (by omega)] at hp
 obtain ⟨A3, c3, rfl, hA3⟩ := hp
 rw [show (2 : Int).toNat = 2 from rfl, hyx, two_putB hlx] at hA3
 refine mvI rfl rfl <| tl_e rfl <| e_call' rfl (Of_spec hw (n := 2) hA3 (by omega)) ?_
 rintro _ M4 _ hM4 ⟨A4, c4, E4, rfl, hE4, rfl⟩
 refine .pubRow hE4 <| fun M5 hM5 hr5 => ?_
 have hd := hM1.trans (hM2.trans (hM3.trans (hM4.trans hM5)))
 have hc4 := hr5.le
 refine asS rfl rfl <| zq <| .s4 0 1 6 8 rfl rfl rfl rfl <| x_seq ?_
 have he : Le M5 M5 := Le.refl _
 refine x_draw 7 hmix rfl <| zp 0 rfl rfl (y_move (v := .slice _ _ _) rfl) <| zp 1 rfl rfl (y_move (v := .int _ _) rfl) <| zp 3 rfl rfl (y_move (v := .slice _ _ _) rfl) <| zp 4 rfl rfl (y_move (v := .int _ _) rfl) <| zp 5 rfl rfl (y_move (v := .int _ _) rfl) <| zp 6 rfl rfl (y_slice3 rfl rfl rfl (by omega) (by omega)) <| ze 2 rfl rfl <| e_call' rfl (Of_spec hw (hb.mono hd) (by omega)) ?_
 rintro _ M6 _ hM6 ⟨A6, c6, E6, rfl, hE6, rfl⟩
 refine ⟨⟨(by first | exact Le.refl _ | assumption), Keeps.mem⟩, ?_⟩
 refine zt 7 rfl rfl <| e_append (by decide) rfl rfl hE6 (.row (Row.slice (l := 0) (h := shV n w) (m := shV n w) (hr5.mono hM6) (by omega) (by omega) (by omega) (by omega))) (intsL_one' _ _ _) (by omega) (by omega) <| fun A9 c9 E9 hE9 => ?_
 rw [allD_vals n w _ bs rfl] at hE9
 refine .pubRow hE9 <| fun M7 hM7 hr7 => zp 8 rfl rfl (y_assign (v := .slice _ _ _) rfl) <| zz <| .then_normal <| .s1 4 rfl <| x_ret (ret1 rfl rfl (hd.trans (hM6.trans hM7)) ⟨rfl, A9, c9, by rw [k4]; rfl, by rw [k4]; exact hr7⟩)
end
end Go.Proofs.YtiimjodbaogjbaaGreatDoor
set_option linter.unusedVariables false
set_option linter.unusedSimpArgs false
namespace Go.Proofs.YtiimjodbaogjbaaGreatDoor
open Go Go.Eng
def okO (o : OtsV) : Prop := otsE o.code = 0 ∧ otsV o.code = o
instance {o : OtsV} : Decidable (okO o) := inferInstanceAs (Decidable (_ ∧ _))
def okY (o : OtsV) (nl sl : Nat) : Prop := okO o ∧ nl = 16 ∧ (sl : Int) = o.n
instance {o : OtsV} {nl sl : Nat} : Decidable (okY o nl sl) := inferInstanceAs (Decidable (_ ∧ _))
structure OF (o : OtsV) (n w p : Nat) : Prop where
 ok : okO o
 c : okC o.kind o.n
 hn : o.n = (n : Int)
 hw : o.w = (w : Int)
 hp : o.p = (p : Int)
 isn : isN n
 isw : isW w
 up : p = shU n w + shV n w
 p1 : 26 ≤ p
 p2 : p ≤ 265
theorem okO_facts {o : OtsV} (h : okO o) : ∃ n w p, OF o n w p := by
  obtain ⟨k, hk, e1, e2, _⟩ := otsE_some h.1
  have h2 := h.2
  rw [e2] at h2
  obtain ⟨h3, h4, h5, w, hw, hw2⟩ := otsT_facts hk
  rw [h2] at h3 h4 h5
  refine ⟨szN (k / 4), 2 ^ (k % 4), shU (szN (k / 4)) (2 ^ (k % 4)) + shV (szN (k / 4)) (2 ^ (k % 4)), h, h3, by rw [← h2]; rfl, by rw [← h2]; rfl, by rw [← h2]; rfl, szN_is _, w_is _, rfl, ?_, ?_⟩
  · have : o.p = ((shU (szN (k / 4)) (2 ^ (k % 4)) + shV (szN (k / 4)) (2 ^ (k % 4)) : Nat) : Int) := by rw [← h2]; rfl
    omega
  · have : o.p = ((shU (szN (k / 4)) (2 ^ (k % 4)) + shV (szN (k / 4)) (2 ^ (k % 4)) : Nat) : Int) := by rw [← h2]; rfl
    omega
theorem OF.n32 {o : OtsV} {n w p : Nat} (h : OF o n w p) : 24 ≤ n ∧ n ≤ 32 := by rcases h.isn with rfl | rfl <;> omega
theorem OF.w2 {o : OtsV} {n w p : Nat} (h : OF o n w p) : 2 ≤ pw2 w ∧ pw2 w ≤ 256 := pw2_w h.isw
def hidB (o : OtsV) (name sec : List UInt8) (q d : Nat) : List UInt8 := cSum o.kind o.n (name ++ (putB q 4 ++ (putB d 2 ++ (255 :: sec))))
def topN (o : OtsV) : Int := ((pw2 o.w.toNat : Nat) : Int) - 1
def catR (rows : Nat → List UInt8) (k : Nat) : List UInt8 := ((List.range k).map rows).flatten
theorem catR_zero (rows : Nat → List UInt8) : catR rows 0 = [] := rfl
theorem catR_succ (rows : Nat → List UInt8) (k : Nat) : catR rows (k + 1) = catR rows k ++ rows k := by
 rw [catR, List.range_succ, List.map_append, List.flatten_append]; simp [catR]
theorem catR_le {rows : Nat → List UInt8} (h : ∀ i, (rows i).length ≤ 32) : ∀ k, (catR rows k).length ≤ k * 32
 | 0 => by rw [catR_zero]; exact Nat.zero_le _
 | k + 1 => by
  rw [catR_succ, List.length_append]
  have := catR_le h k
  have := h k
  omega
theorem csumC_le (kind n : Int) (h : okC kind n) (text : List UInt8) : (csum kind n text).length ≤ 32 := by
 rw [csum_length h _ (sha_length _)]
 rcases h.2 with h | h <;> rw [h] <;> decide
theorem cPartO_le (kind n : Int) (name : List UInt8) (q d : Nat) (text : List UInt8) : (cPart kind n name q d text).length ≤ 32 := by
  unfold cPart
  split
  · unfold cSum
    split
    · rename_i h; exact csumC_le _ _ h _
    · simp
  · simp
theorem cPartO_len {o : OtsV} {n w p : Nat} (h : OF o n w p) {name : List UInt8} (hn : name.length = 16) (q d : Nat) (text : List UInt8) : (cPart o.kind o.n name q d text).length = n := by
 rw [cPart, if_pos hn, cSum, if_pos h.c, csum_length h.c _ (sha_length _), h.hn, Int.toNat_natCast]
theorem cUp_le (o : OtsV) (name : List UInt8) (q : Nat) (i f t : Int) (x : List UInt8) (hx : x.length ≤ 32) : (cUp o name q i f t x).length ≤ 32 := by
  unfold cUp
  split
  · rename_i h
    have hc := (okR_facts h.1).1
    have := upC_length hc sha_length name q i.toNat f.toNat (x := x) (h.1.2.2.2.2.2) (t - f).toNat
    have hx2 := h.1.2.2.2.2.2
    omega
  · simp
def digO (o : OtsV) (name : List UInt8) (q : Nat) (salt text : List UInt8) : List Nat := allD o.n.toNat o.w.toNat (cPart o.kind o.n name q 33153 (salt ++ text))
def staR (o : OtsV) (name : List UInt8) (q : Nat) (d : List Nat) (y : List UInt8) (i : Nat) : List UInt8 := cUp o name q (i : Int) ((d.getD i 0 : Nat) : Int) (topN o) ((y.drop (i * o.n.toNat)).take o.n.toNat)
def staB (o : OtsV) (name : List UInt8) (q : Nat) (text sig : List UInt8) : List UInt8 :=
 cPart o.kind o.n name q 32896 (catR (staR o name q (digO o name q ((sig.drop 4).take o.n.toNat) text) (sig.drop (4 + o.n.toNat))) o.p.toNat)
def sizeN (o : OtsV) : Nat := 4 + o.n.toNat * (o.p.toNat + 1)
theorem staR_le {o : OtsV} {n w p : Nat} (h : OF o n w p) (name : List UInt8) (q : Nat) (d : List Nat) (y : List UInt8) (i : Nat) : (staR o name q d y i).length ≤ 32 := by
 refine cUp_le _ _ _ _ _ _ _ ?_
 have := h.n32
 rw [List.length_take, h.hn, Int.toNat_natCast]; omega
end Go.Proofs.YtiimjodbaogjbaaGreatDoor
set_option linter.unusedVariables false
set_option linter.unusedSimpArgs false
set_option linter.constructorNameAsVariable false
namespace Go.Proofs.YtiimjodbaogjbaaGreatDoor
open Go Go.Eng
theorem f9 : ∃ o : OtsV, otsV 7 = o ∧ otsE 7 = 0 ∧ o.n = 24 ∧ o.kind = 0 ∧ o.w = 4 ∧ o.p = 51 ∧ otsE o.code = 0 ∧ otsV o.code = o := by
 refine ⟨otsV 7, rfl, ?_⟩
 decide +kernel
structure ChG (M : Mem) : Prop where
 sha : ShaG M
 kec : KecG M
 set : SetG M
theorem ChG.mono {M M' : Mem} (h : ChG M) (hle : Le M M') : ChG M' := ⟨h.sha.mono hle, h.kec.mono hle, h.set.mono hle⟩
section
variable {G : World} {M : Mem} {L : Own}
end
end Go.Proofs.YtiimjodbaogjbaaGreatDoor
