/-
Contracts of functions, each proved by a walk through its code.
-/
import Derived.Test.YtiimjodbaogjbaaGreatDoorRef13Etc
import Derived.Test.YtiimjodbaogjbaaGreatDoorHss1Etc
import Derived.Test.YtiimjodbaogjbaaGreatDoorEngXEtc
import Derived.Test.YtiimjodbaogjbaaGreatDoorShakeEtc
import Derived.Test.YtiimjodbaogjbaaGreatDoorDig1Etc
import Derived.Test.YtiimjodbaogjbaaGreatDoorOnce3Etc
set_option linter.unusedVariables false
set_option linter.unusedSimpArgs false
set_option linter.constructorNameAsVariable false
namespace Go.Proofs.YtiimjodbaogjbaaGreatDoor
open Go Go.Eng
section
variable {G : World} {M : Mem} {L : Own} {NA SA TA : Option Addr} {nl nc sl sc tl tc : Nat} {name sec text : List UInt8}
theorem lsigE_may {x : PairV} {nl sl q tl : Nat} (h : mayC x nl sl ≠ 0) : lsigE x nl sl q tl = mayC x nl sl := by rw [lsigE, if_pos h]
theorem way_le {x : PairV} (name sec : List UInt8) (q k : Nat) : (wayB (treeV x.t) name (keysX x name sec) q k).flatten.length ≤ k * 32 := by
  rw [way_flat]
  exact catR_le (fun i => (lvl_short _ _ _ _).get _) k
theorem Sign1_lspec (hg : LmG M) (x : PairV) (hname : Bytes M NA nl nc name) (hsec : Bytes M SA sl sc sec) (q : UInt32) (htext : Bytes M TA tl tc text) {bp bs bq bt : Nat}
    [i1 : Has L bp (.cells (List.toArray x.cells) 24 (0, 0))] [i2 : Has L bs (.cells (List.toArray (seedC NA nl nc SA sl sc)) 49 (0, 0))] [i3 : Has L bq (.cells (List.toArray [.int .u32 (q.toNat : Int)]) 22 (0, 0))] [i4 : Has L bt (.cells (List.toArray [.slice TA tl tc]) 35 (0, 0))] :
    Con Tryz.prog 92 #[.pointer (some ⟨bp, 0, none⟩), .pointer (some ⟨bs, 0, none⟩), .pointer (some ⟨bt, 0, none⟩), .pointer (some ⟨bq, 0, none⟩)] G M L (fun v M' L' => L' = L ∧ ∃ A m c, v = .slice A m c ∧ lsigE x nl sl q.toNat tl = 0 ∧ Bytes M' A m c (lsigB x name sec q.toNat text)) (fun ch M' L' => L' = L ∧ ∃ e, (lsigE x nl sl q.toNat tl ≠ 0 ∧ e = lsigE x nl sl q.toNat tl) ∧ ch = lwrong e) := by
  have hql := q.toNat_lt
  refine enter (args := [_, _, _, _]) (fn := Tryz.f92) ⟨Tryz.func92, rfl, by kernel_rfl, by kernel_rfl⟩ 45 rfl ?_
  refine x_seq (x_region ?_)
  refine tl_y rfl (y_assign rfl) ?_
  refine tl_nil (.then_normal ?_)
  refine x_seq (x_region ?_)
  refine tl_y rfl (y_loadAgg rfl rfl (.own inferInstance inferInstance)) ?_
  refine tl_y rfl (y_loadAgg rfl rfl (.own inferInstance inferInstance)) ?_
  refine tl_e rfl (e_call rfl (made_spec hg x) (by
    rintro _ M1 _ hM1 ⟨rfl, hno, rfl⟩
    exact .retA rfl hM1 ⟨rfl, _, ⟨by rw [lsigE_may hno]; exact hno, rfl⟩, by rw [lsigE_may hno]⟩) ?_)
  rintro _ M1 L hM1 ⟨rfl, hmay, rfl⟩
  obtain ⟨hok, hH10, hy⟩ := mayC_zero hmay
  obtain ⟨n, w, p, H, hx⟩ := okP_facts hok
  obtain ⟨z1, z2, z3, z4, z5⟩ := hx.sizes
  have hn32 := hx.o.n32
  have hnl := hy.2.1
  have hnn := hname.size
  have hpw := pw2_25 hx.h2
  have hHh := hx.th
  have hd : Le M M1 := hM1
  refine tl_e rfl (e_alloc (fun b1 => ?_))
  refine tl_e rfl (e_store rfl rfl (by rfl) (by rfl) inferInstance inferInstance inferInstance ?_)
  refine tl_nil (.then_normal ?_)
  refine .sub (F' := [(0, _), (1, _), (2, _), (3, _), (5, _)]) (.cons rfl (.cons rfl (.cons rfl (.cons rfl (.cons rfl .nil))))) ?_
  refine x_seq (x_region ?_)
  refine tl_y rfl (y_load rfl rfl (.own inferInstance inferInstance)) ?_
  refine tl_y rfl (y_len rfl) ?_
  refine tl_y rfl (y_leq rfl rfl) ?_
  refine tl_e rfl (e_call rfl (lmust_spec _ _) (by
    rintro _ _ _ _ ⟨rfl, rfl, ht, rfl⟩
    have e : lsigE x nl sl q.toNat tl = 1 := by rw [lsigE, if_neg (fun h => h hmay), if_pos (by simp at ht; omega)]
    exact TP.dropTo L inferInstance (.retA rfl hd ⟨rfl, _, ⟨by rw [e]; decide, rfl⟩, by rw [e]⟩)) ?_)
  rintro _ _ _ _ ⟨rfl, rfl, ht⟩
  have htl : tl ≤ 65536 := by simp at ht; omega
  refine tl_nil (.then_normal ?_)
  refine .sub (F' := [(0, _), (1, _), (2, _), (3, _), (5, _)]) (.cons rfl (.cons rfl (.cons rfl (.cons rfl (.cons rfl .nil))))) ?_
  refine x_seq ?_
  refine x_draw 7 hmix rfl ?_
  refine to_y 0 rfl (by kernel_rfl) rfl (y_load rfl rfl (.own inferInstance inferInstance)) ?_
  refine to_p 1 rfl (by kernel_rfl) rfl (y_convN64 rfl (by omega)) ?_
  refine to_p 2 rfl (by kernel_rfl) rfl (y_fieldAddr rfl) ?_
  refine to_y 3 rfl (by kernel_rfl) rfl (y_loadAgg rfl rfl (.own inferInstance inferInstance)) ?_
  refine to_e 4 rfl (by kernel_rfl) rfl (e_call' rfl (Leaves_spec (treeV x.t)) ?_)
  rintro _ _ _ _ ⟨rfl, rfl, rfl⟩
  rw [hx.lv]
  refine ⟨⟨(by first | exact Le.refl _ | assumption), Keeps.mem⟩, ?_⟩
  refine to_p 5 rfl (by kernel_rfl) rfl (y_lss rfl rfl) ?_
  refine to_e 6 rfl (by kernel_rfl) rfl (e_call rfl (lmust_spec _ _) (by
    rintro _ _ _ _ ⟨rfl, rfl, ht, rfl⟩
    have e : lsigE x nl sl q.toNat tl = 9 := by rw [lsigE, if_neg (fun h => h hmay), if_neg (by omega), hx.lv, if_pos (by simp at ht; omega)]
    exact TP.dropTo L inferInstance (.retA rfl hd ⟨rfl, _, ⟨by rw [e]; decide, rfl⟩, by rw [e]⟩)) ?_)
  rintro _ _ _ _ ⟨rfl, rfl, ht⟩
  have hq : q.toNat < pw2 H := by simp at ht; omega
  have hE0 : lsigE x nl sl q.toNat tl = 0 := by rw [lsigE, if_neg (fun h => h hmay), if_neg (by omega), hx.lv, if_neg (by omega)]
  refine ⟨⟨(by first | exact Le.refl _ | assumption), Keeps.mem⟩, ?_⟩
  refine to_nil (by kernel_rfl) (.then_normal ?_)
  refine .sub (F' := [(0, _), (1, _), (2, _), (3, _), (5, _)]) (.cons rfl (.cons rfl (.cons rfl (.cons rfl (.cons rfl .nil))))) ?_
  refine x_seq ?_
  have he : Le M1 M1 := Le.refl _
  refine x_draw 10 hmix rfl ?_
  refine to_p 0 rfl (by kernel_rfl) rfl (y_fieldAddr rfl) ?_
  refine to_y 1 rfl (by kernel_rfl) rfl (y_loadAgg rfl rfl (.own inferInstance inferInstance)) ?_
  refine to_p 2 rfl (by kernel_rfl) rfl (y_fieldAddr rfl) ?_
  refine to_y 3 rfl (by kernel_rfl) rfl (y_load rfl rfl (.own inferInstance inferInstance)) ?_
  refine to_y 4 rfl (by kernel_rfl) rfl (y_loadAgg rfl rfl (.own inferInstance inferInstance)) ?_
  refine to_y 5 rfl (by kernel_rfl) rfl (y_loadAgg rfl rfl (.own inferInstance inferInstance)) ?_
  refine to_y 7 rfl (by kernel_rfl) rfl (y_load rfl rfl (.own inferInstance inferInstance)) ?_
  refine to_e 6 rfl (by kernel_rfl) rfl (e_call' rfl (lkeys_spec (hg.mono hd) hx hy (hname.mono hd) (hsec.mono hd)) ?_)
  rintro _ M4 _ hM4 ⟨rfl, A4, c4, kvs, rfl, hrow, hB⟩
  replace hd := hd.trans hM4
  replace he := he.trans hM4
  refine ⟨⟨he, Keeps.mem⟩, ?_⟩
  refine to_e 8 rfl (by kernel_rfl) rfl (e_call' rfl (Way_spec (hg.mono hd).mr (treeV x.t) (hname.mono hd) hrow hB (keysB_le _ _ _ _) q) ?_)
  rintro _ M5 _ hM5 ⟨rfl, AW, mW, cW, wvs, rfl, hwr, hwB⟩
  rw [if_pos ⟨⟨by rw [hnl]; exact hx.s, hH10, hx.lv.symm⟩, hq⟩] at hwB
  replace hd := hd.trans hM5
  replace he := he.trans hM5
  refine ⟨⟨he, Keeps.mem⟩, ?_⟩
  refine to_p 9 rfl (by kernel_rfl) rfl (y_assign (v := .slice _ _ _) rfl) ?_
  refine to_nil (by kernel_rfl) (.then_normal ?_)
  refine .sub (F' := [(0, _), (1, _), (2, _), (3, _), (5, _), (6, _)]) (.cons rfl (.cons rfl (.cons rfl (.cons rfl (.cons rfl (.cons rfl .nil)))))) ?_
  refine x_seq ?_
  have he : Le M5 M5 := Le.refl _
  obtain ⟨sgl, _, _, _⟩ := sig_parts hx.o (name := name) (by omega) sec q.toNat text
  have hwfl := way_le (x := x) name sec q.toNat (treeV x.t).h.toNat
  have hHN : (treeV x.t).h.toNat ≤ 25 := by rw [hHh]; exact hx.h2
  refine x_draw 16 hmix rfl ?_
  refine to_y 0 rfl (by kernel_rfl) rfl (y_load rfl rfl (.own inferInstance inferInstance)) ?_
  refine to_p 2 rfl (by kernel_rfl) rfl (y_fieldAddr rfl) ?_
  refine to_y 3 rfl (by kernel_rfl) rfl (y_loadAgg rfl rfl (.own inferInstance inferInstance)) ?_
  refine to_y 4 rfl (by kernel_rfl) rfl (y_loadAgg rfl rfl (.own inferInstance inferInstance)) ?_
  refine to_y 5 rfl (by kernel_rfl) rfl (y_load rfl rfl (.own inferInstance inferInstance)) ?_
  refine to_y 6 rfl (by kernel_rfl) rfl (y_load rfl rfl (.own inferInstance inferInstance)) ?_
  refine to_p 8 rfl (by kernel_rfl) rfl (y_fieldAddr rfl) ?_
  refine to_y 9 rfl (by kernel_rfl) rfl (y_load rfl rfl (.own inferInstance inferInstance)) ?_
  refine to_p 11 rfl (by kernel_rfl) rfl (y_move (v := .slice _ _ _) rfl) ?_
  refine to_e 1 rfl (by kernel_rfl) rfl (e_call' rfl (lcode_spec q) ?_)
  rintro _ M6 _ hM6 ⟨rfl, AQ, cQ, rfl, hAQ⟩
  replace hd := hd.trans hM6
  replace he := he.trans hM6
  replace hwr := hwr.mono hM6
  replace hwB := hwB.mono hM6
  try replace hAS := hAS.mono hM6
  try replace hAT := hAT.mono hM6
  try replace hAF := hAF.mono hM6
  refine ⟨⟨he, Keeps.mem⟩, ?_⟩
  refine to_e 7 rfl (by kernel_rfl) rfl (e_call' rfl (oSign_spec (hg.mono hd).ch (otsV x.o) (hname.mono hd) (hsec.mono hd) q (htext.mono hd)) ?_)
  rintro _ M7 _ hM7 ⟨rfl, AS, mS, cS, rfl, hAS⟩
  rw [if_pos ⟨hy, htl⟩] at hAS
  replace hd := hd.trans hM7
  replace he := he.trans hM7
  replace hwr := hwr.mono hM7
  replace hwB := hwB.mono hM7
  try replace hAQ := hAQ.mono hM7
  try replace hAT := hAT.mono hM7
  try replace hAF := hAF.mono hM7
  refine ⟨⟨he, Keeps.mem⟩, ?_⟩
  refine to_e 10 rfl (by kernel_rfl) rfl (e_call' rfl (lcode_spec x.t) ?_)
  rintro _ M8 _ hM8 ⟨rfl, AT, cT, rfl, hAT⟩
  replace hd := hd.trans hM8
  replace he := he.trans hM8
  replace hwr := hwr.mono hM8
  replace hwB := hwB.mono hM8
  try replace hAQ := hAQ.mono hM8
  try replace hAS := hAS.mono hM8
  try replace hAF := hAF.mono hM8
  refine ⟨⟨he, Keeps.mem⟩, ?_⟩
  refine to_e 12 rfl (by kernel_rfl) rfl (e_call' rfl (Cat_spec hwr hwB (by omega)) ?_)
  rintro _ M9 _ hM9 ⟨rfl, AF, cF, rfl, hAF⟩
  replace hd := hd.trans hM9
  replace he := he.trans hM9
  replace hwr := hwr.mono hM9
  replace hwB := hwB.mono hM9
  try replace hAQ := hAQ.mono hM9
  try replace hAS := hAS.mono hM9
  try replace hAT := hAT.mono hM9
  refine ⟨⟨he, Keeps.mem⟩, ?_⟩
  refine to_e 13 rfl (by kernel_rfl) rfl (e_buildSlice rfl (by decide) (fun b7 => ?_))
  refine ⟨⟨he, Keeps.mem⟩, ?_⟩
  refine .pub b7 inferInstance (fun M10 hM10 hb7 => ?_)
  have hd6 := hd.trans hM10
  have he6 := he.trans hM10
  have hfl : [putB q.toNat 4, sigB (otsV x.o) name sec q.toNat text, putB x.t.toNat 4, (wayB (treeV x.t) name (keysX x name sec) q.toNat (treeV x.t).h.toNat).flatten].flatten = lsigB x name sec q.toNat text := by simp [lsigB]
  have hfll : (lsigB x name sec q.toNat text).length ≤ 20000 := by
    rw [lsigB, List.length_append, List.length_append, List.length_append, putB_length, putB_length, sgl]; omega
  refine to_e 14 rfl (by kernel_rfl) rfl (e_call' rfl (Cat_spec (Row.whole hb7 rfl (by omega)) (.cons (hAQ.mono hM10) (.cons (hAS.mono hM10) (.cons (hAT.mono hM10) (.cons (hAF.mono hM10) .nil)))) (by rw [hfl]; omega)) ?_)
  rintro _ M11 _ hM11 ⟨rfl, A7, c7, rfl, hA7⟩
  rw [hfl] at hA7
  rw [hfl]
  replace hd6 := hd6.trans hM11
  replace he6 := he6.trans hM11
  refine ⟨⟨he6, Keeps.mem⟩, ?_⟩
  refine to_p 15 rfl (by kernel_rfl) rfl (y_assign (v := .slice _ _ _) rfl) ?_
  refine to_nil (by kernel_rfl) (.then_normal ?_)
  refine .sub (F' := [(4, _)]) (.cons rfl .nil) ?_
  refine x_ret (.dropTo L inferInstance (ret1 rfl rfl hd6 ⟨rfl, _, _, _, rfl, hE0, hA7⟩))
theorem Sign_lspec (hg : LmG M) (x : PairV) (hname : Bytes M NA nl nc name) (hsec : Bytes M SA sl sc sec) (q : UInt32) (htext : Bytes M TA tl tc text) :
    Con Tryz.prog 37 #[.agg (List.toArray x.cells), .agg (List.toArray (seedC NA nl nc SA sl sc)), .int .u32 (q.toNat : Int), .slice TA tl tc] G M L (fun v M' L' => L' = L ∧ ∃ A m c, v = .tuple #[.slice A m c, .int .i64 (lsigE x nl sl q.toNat tl)] ∧ Bytes M' A m c (lsigV x nl sl name sec q.toNat tl text)) noPanic := by
  refine enter (args := [_, _, _, _]) (fn := Tryz.f37) ⟨Tryz.func37, rfl, by kernel_rfl, by kernel_rfl⟩ 14 rfl ?_
  refine x_seq (x_region ?_)
  refine tl_e rfl (e_box rfl (fun b1 => ?_))
  refine tl_e rfl (e_box rfl (fun b2 => ?_))
  refine tl_e rfl (e_box rfl (fun b3 => ?_))
  refine tl_e rfl (e_box rfl (fun b4 => ?_))
  refine tl_y rfl (y_assign rfl) ?_
  refine tl_y rfl (y_assign rfl) ?_
  refine tl_nil (.then_normal ?_)
  refine .sub (F' := [(4, _), (5, _), (6, _), (7, _)]) (.cons rfl (.cons rfl (.cons rfl (.cons rfl .nil)))) ?_
  refine x_seq (x_region ?_)
  refine tl_y rfl (y_makeFunc rfl rfl) ?_
  refine tl_e rfl (e_call' rfl (caughtB_spec (K := fun A m c M' => lsigE x nl sl q.toNat tl = 0 ∧ Bytes M' A m c (lsigB x name sec q.toNat text)) (Kp := fun e => lsigE x nl sl q.toNat tl ≠ 0 ∧ e = lsigE x nl sl q.toNat tl) (first := []) (cap := [.pointer (some ⟨b1, 0, none⟩), .pointer (some ⟨b2, 0, none⟩), .pointer (some ⟨b4, 0, none⟩), .pointer (some ⟨b3, 0, none⟩)]) (fun p' q' => Sign1_lspec hg x hname hsec q htext)) ?_)
  rintro v M1 _ hM1 ⟨rfl, hv⟩
  obtain ⟨A2, m2, c2, rfl, hA⟩ : ∃ A m c, v = .tuple #[.slice A m c, .int .i64 (lsigE x nl sl q.toNat tl)] ∧ Bytes M1 A m c (lsigV x nl sl name sec q.toNat tl text) := by
    rcases hv with ⟨A, m, c, rfl, h0, hb⟩ | ⟨e, rfl, hno, rfl⟩
    · exact ⟨A, m, c, by rw [h0], by rw [lsigV, if_pos h0]; exact hb⟩
    · exact ⟨none, 0, 0, rfl, by rw [lsigV, if_neg hno]; exact Row.nil _ _⟩
  refine tl_y rfl (y_extract rfl) ?_
  refine tl_y rfl (y_extract rfl) ?_
  refine tl_y rfl (y_assign (v := .slice _ _ _) rfl) ?_
  refine tl_y rfl (y_assign (v := .int _ _) rfl) ?_
  refine tl_nil (.then_normal ?_)
  refine .sub (F' := [(8, _), (9, _)]) (.cons rfl (.cons rfl .nil)) ?_
  refine x_ret (.dropTo L inferInstance (ret2 rfl rfl rfl hM1 ⟨rfl, _, _, _, rfl, hA⟩))
end
end Go.Proofs.YtiimjodbaogjbaaGreatDoor
set_option linter.unusedVariables false
set_option linter.unusedSimpArgs false
set_option linter.constructorNameAsVariable false
namespace Go.Proofs.YtiimjodbaogjbaaGreatDoor
open Go Go.Eng
structure SlV where
  a : Option Addr
  n : Nat
  c : Nat
abbrev SlV.v (x : SlV) : Value := .slice x.a x.n x.c
section
variable {G : World} {M : Mem} {L : Own}
end
end Go.Proofs.YtiimjodbaogjbaaGreatDoor
set_option linter.unusedVariables false
set_option linter.unusedSimpArgs false
set_option linter.constructorNameAsVariable false
namespace Go.Proofs.YtiimjodbaogjbaaGreatDoor
open Go Go.Eng
section
variable {G : World} {M : Mem} {L : Own} {NA SA TA : Option Addr} {nl nc sl_ sc tl tc : Nat} {name sec text : List UInt8}
theorem caughtHB1_ret {b c : Nat} {x : Int} {cs : List Value} : ConD Tryz.prog 169 #[.pointer (some ⟨b, 0, none⟩), .pointer (some ⟨c, 0, none⟩)] .returning G M ((c, .cells (List.toArray [.int .i64 x]) 38 (0, 0)) :: (b, .cells cs.toArray 35 (0, 0)) :: L) (fun u' M' L' => u' = .returning ∧ M' = M ∧ L' = (c, .cells (List.toArray [.int .i64 x]) 38 (0, 0)) :: (b, .cells cs.toArray 35 (0, 0)) :: L) := by
  refine enterRec (args := [_, _]) (fn := Tryz.f169) ⟨Tryz.func169, rfl, by kernel_rfl, by kernel_rfl⟩ 15 rfl rfl ?_
  refine x_block ?_
  refine x_seq (x_region ?_)
  refine tl_y rfl (y_eqNilIface rfl rfl) ?_
  refine tl_nil (.then_normal ?_)
  refine x_true rfl (rfl) ?_
  refine x_region ?_
  refine tl_y rfl (y_assign rfl) ?_
  refine tl_nil (.block_normal (.rec_normal (Le.refl _) ⟨rfl, rfl, rfl⟩))
theorem caughtHB1_wrong {b c : Nat} {x e : Int} : ConD Tryz.prog 169 #[.pointer (some ⟨b, 0, none⟩), .pointer (some ⟨c, 0, none⟩)] (.panicking (hwrong e)) G M ((c, .cells (List.toArray [.int .i64 x]) 38 (0, 0)) :: (b, .cells (List.toArray [.slice none 0 0]) 35 (0, 0)) :: L)
    (fun u' M' L' => u' = .panicking [{ v := hwrongv e, recovered := true }] ∧ M' = M ∧ L' = (c, .cells (List.toArray [.int .i64 e]) 38 (0, 0)) :: (b, .cells (List.toArray [.slice none 0 0]) 35 (0, 0)) :: L) := by
  refine enterRec (args := [_, _]) (fn := Tryz.f169) ⟨Tryz.func169, rfl, by kernel_rfl, by kernel_rfl⟩ 15 rfl rfl ?_
  refine x_block ?_
  refine x_seq (x_region ?_)
  refine tl_y rfl (y_eqIfaceNil rfl rfl) ?_
  refine tl_nil (.then_normal ?_)
  refine x_false rfl (rfl) ?_
  refine x_seq (x_region ?_)
  refine tl_y rfl (y_assertOk rfl (by intro _ h; cases h)) ?_
  refine tl_y rfl (y_extract rfl) ?_
  refine tl_y rfl (y_extract rfl) ?_
  refine tl_nil (.then_normal ?_)
  refine x_true rfl (rfl) ?_
  refine x_seq (x_region ?_)
  refine tl_e rfl (e_alloc (fun b7 => ?_))
  refine tl_e rfl (e_store rfl rfl (by rfl) (by rfl) inferInstance inferInstance inferInstance ?_)
  refine tl_nil (.then_normal ?_)
  refine .sub (F' := [(0, _), (1, _), (3, _)]) (.cons rfl (.cons rfl (.cons rfl .nil))) ?_
  refine x_seq (x_region ?_)
  refine tl_y rfl (y_assign rfl) ?_
  refine tl_nil (.then_normal ?_)
  refine x_draw0 4 ((b7, .cells (List.toArray [.int .i64 e]) 164 (0, 0)) :: []) Keeps.mem hmix rfl ?_
  refine to_p 0 rfl (by kernel_rfl) rfl (y_move (v := .slice _ _ _) rfl) ?_
  refine to_p 1 rfl (by kernel_rfl) rfl (y_fieldAddr rfl) ?_
  refine to_y 2 rfl (by kernel_rfl) rfl (y_load rfl rfl (.own inferInstance inferInstance)) ?_
  refine to_e 3 rfl (by kernel_rfl) rfl (e_store rfl rfl (by rfl) (by rfl) inferInstance inferInstance inferInstance ?_)
  refine ⟨⟨(by first | exact Le.refl _ | assumption), Keeps.mem⟩, ?_⟩
  refine to_t 4 rfl (by kernel_rfl) (by kernel_rfl) rfl (e_store rfl rfl (by rfl) (by rfl) inferInstance inferInstance inferInstance ?_)
  refine to_nil (by kernel_rfl) (.block_normal (.dropTo ((c, .cells (List.toArray [.int .i64 e]) 38 (0, 0)) :: (b, .cells (List.toArray [.slice none 0 0]) 35 (0, 0)) :: L) inferInstance (.rec_normal (Le.refl _) ⟨rfl, rfl, rfl⟩)))
theorem caughtHB_spec {wf : FuncId} {first cap : List Value} {K : Option Addr → Nat → Nat → Mem → Prop} {Kp : Int → Prop}
    (hw : ∀ p q, Con Tryz.prog wf (first ++ [] ++ cap).toArray G M (p :: q :: L) (fun v M' L' => L' = p :: q :: L ∧ ∃ A n c, v = .slice A n c ∧ K A n c M') (fun ch M' L' => L' = p :: q :: L ∧ ∃ e, Kp e ∧ ch = hwrong e)) :
    Con Tryz.prog 112 #[.func (.func wf) first.toArray cap.toArray] G M L (fun v M' L' => L' = L ∧ ((∃ A n c, v = .tuple #[.slice A n c, .int .i64 0] ∧ K A n c M') ∨ (∃ e, v = .tuple #[.slice none 0 0, .int .i64 e] ∧ Kp e))) noPanic := by
  refine enterD (args := [_]) (fn := Tryz.f112) ⟨Tryz.func112, rfl, by kernel_rfl, by kernel_rfl⟩ 7 rfl ?_
  refine x_seq (x_region ?_)
  refine tl_e rfl (e_alloc (fun b1 => ?_))
  refine tl_e rfl (e_alloc (fun b2 => ?_))
  refine tl_nil (.then_normal ?_)
  refine x_seq (x_region ?_)
  refine tl_y rfl (y_makeFunc rfl rfl) ?_
  refine tl_e rfl (e_defer rfl rfl rfl ?_)
  refine tl_nil (.then_normal ?_)
  refine x_seq (x_region ?_)
  refine tl_y rfl (y_move (v := .func _ _ _) rfl) ?_
  refine tl_e rfl (e_callv rfl rfl (hw _ _) (by
    rintro _ M1 _ hM1 ⟨rfl, e, hr, rfl⟩
    refine .retD (cap := [_, _]) (args := []) caughtHB1_wrong ?_
    rintro _ M2 _ hM2 ⟨rfl, rfl, rfl⟩
    exact .inl ⟨rfl, _, L, rv2 rfl (rc_cell (by rfl) rfl (.own inferInstance inferInstance)) (rc_cell (by rfl) rfl (.own inferInstance inferInstance)), inferInstance, hM1, rfl, .inr ⟨e, rfl, hr⟩⟩) ?_)
  rintro _ M1 _ hM1 ⟨rfl, A, n, c, rfl, hk⟩
  refine tl_e rfl (e_store rfl rfl (by rfl) (by rfl) inferInstance inferInstance inferInstance ?_)
  refine tl_e rfl (e_store rfl rfl (by rfl) (by rfl) inferInstance inferInstance inferInstance ?_)
  refine tl_nil (.then_normal ?_)
  refine .sub (F' := [(2, _), (3, _)]) (.cons rfl (.cons rfl .nil)) ?_
  refine x_ret (.retD (cap := [_, _]) (args := []) (caughtHB1_ret (cs := [.slice A n c])) ?_)
  rintro _ M2 _ hM2 ⟨rfl, rfl, rfl⟩
  exact .inl ⟨rfl, _, L, rv2 rfl (rc_cell (by rfl) rfl (.own inferInstance inferInstance)) (rc_cell (by rfl) rfl (.own inferInstance inferInstance)), inferInstance, hM1, rfl, .inl ⟨A, n, c, rfl, hk⟩⟩
theorem hwell_spec (e : Int) :
    Con Tryz.prog 170 #[.int .i64 e] G M L (fun v M' L' => M = M' ∧ L = L' ∧ e = 0) (fun ch M' L' => M = M' ∧ L = L' ∧ e ≠ 0 ∧ ch = hwrong e) := by
  refine enter (args := [_]) (fn := Tryz.f170) ⟨Tryz.func170, rfl, by kernel_rfl, by kernel_rfl⟩ 6 rfl ?_
  refine x_region ?_
  refine tl_y rfl (y_move (v := .int _ _) rfl) ?_
  refine tl_y rfl (y_eql rfl rfl) ?_
  refine tl_y rfl (y_move (v := .int _ _) rfl) ?_
  refine tl_e rfl (e_call rfl (hmust_spec _ _) (by
    rintro _ _ _ _ ⟨rfl, rfl, ht, rfl⟩
    exact .retA rfl (Le.refl _) ⟨rfl, rfl, by simpa using ht, rfl⟩) ?_)
  rintro _ _ _ _ ⟨rfl, rfl, ht⟩
  refine tl_nil (end0 rfl (Le.refl _) ⟨rfl, rfl, by simpa using ht⟩)
theorem below_spec (hg : LmG M) (x : PairV) (hname : Bytes M NA nl nc name) (hsec : Bytes M SA sl_ sc sec) (q : UInt32) :
    Con Tryz.prog 79 #[.agg (List.toArray x.cells), .agg (List.toArray (seedC NA nl nc SA sl_ sc)), .int .u32 (q.toNat : Int)] G M L (fun v M' L' => L' = L ∧ ∃ y z : SlV, v = .agg (List.toArray [y.v, z.v]) ∧ belE x nl sl_ = 0 ∧ Bytes M' y.a y.n y.c (belN x name sec q.toNat) ∧ Bytes M' z.a z.n z.c (belS x name sec q.toNat)) (fun ch M' L' => L' = L ∧ belE x nl sl_ ≠ 0 ∧ ch = hwrong (belE x nl sl_)) := by
  refine enter (args := [_, _, _]) (fn := Tryz.f79) ⟨Tryz.func79, rfl, by kernel_rfl, by kernel_rfl⟩ 32 rfl ?_
  refine x_seq (x_region ?_)
  refine tl_e rfl (e_box rfl (fun b1 => ?_))
  refine tl_e rfl (e_box rfl (fun b2 => ?_))
  refine tl_e rfl (e_alloc (fun b3 => ?_))
  refine tl_nil (.then_normal ?_)
  refine x_seq (x_region ?_)
  refine tl_y rfl (y_loadAgg rfl rfl (.own inferInstance inferInstance)) ?_
  refine tl_e rfl (e_call' rfl (lMay_spec hg.hs x) ?_)
  rintro _ M1 _ hM1 ⟨rfl, rfl⟩
  have hd := hM1
  refine tl_e rfl (e_call rfl (hmust_spec _ _) (by
    rintro _ _ _ _ ⟨rfl, rfl, ht, rfl⟩
    have e : belE x nl sl_ = 4 := by rw [belE, if_pos (by simpa using ht)]
    exact TP.dropTo L inferInstance (.retA rfl hd ⟨rfl, by rw [e]; decide, by rw [e]⟩)) ?_)
  rintro _ _ _ _ ⟨rfl, rfl, ht⟩
  have hok : okP x := by simpa using ht
  obtain ⟨n, w, p, H, hx⟩ := okP_facts hok
  have hn32 := hx.o.n32
  refine tl_nil (.then_normal ?_)
  refine .sub (F' := [(2, _), (3, _), (4, _), (6, _)]) (.cons rfl (.cons rfl (.cons rfl (.cons rfl .nil)))) ?_
  refine x_seq (x_region ?_)
  refine tl_y rfl (y_fieldAddr rfl) ?_
  refine tl_y rfl (y_load rfl rfl (.own inferInstance inferInstance)) ?_
  refine tl_e rfl (e_call' rfl (Ots_spec (hg.mono hd).ch.set x.o) ?_)
  rintro _ M2 _ hM2 ⟨rfl, rfl⟩
  replace hd := hd.trans hM2
  refine tl_y rfl (y_move (v := .tuple _) rfl) ?_
  refine tl_y rfl (y_extract rfl) ?_
  refine tl_y rfl (y_extract rfl) ?_
  refine tl_e rfl (e_alloc (fun b4 => ?_))
  refine tl_e rfl (e_store rfl rfl (by rfl) (by rfl) inferInstance inferInstance inferInstance ?_)
  refine tl_y rfl (y_assign (v := .int _ _) rfl) ?_
  refine tl_nil (.then_normal ?_)
  refine .sub (F' := [(2, _), (4, _), (6, _), (7, _)]) (.cons rfl (.cons rfl (.cons rfl (.cons rfl .nil)))) ?_
  refine x_seq (x_region ?_)
  refine tl_y rfl (y_loadAgg rfl rfl (.own inferInstance inferInstance)) ?_
  refine tl_y rfl (y_loadAgg rfl rfl (.own inferInstance inferInstance)) ?_
  refine tl_e rfl (e_call' rfl (oMay_spec (hg.mono hd).ch.set (otsV x.o)) ?_)
  rintro _ M3 _ hM3 ⟨rfl, rfl⟩
  replace hd := hd.trans hM3
  refine tl_e rfl (e_call rfl (hmust_spec _ _) (by
    rintro _ _ _ _ ⟨rfl, rfl, ht, rfl⟩
    have e : belE x nl sl_ = 1 := by rw [belE, if_neg (fun h => h hok), if_pos (by simpa using ht)]
    exact TP.dropTo L inferInstance (.retA rfl hd ⟨rfl, by rw [e]; decide, by rw [e]⟩)) ?_)
  rintro _ _ _ _ ⟨rfl, rfl, ht⟩
  have hy : okY (otsV x.o) nl sl_ := by simpa using ht
  have he0 : belE x nl sl_ = 0 := by rw [belE, if_neg (fun h => h hok), if_neg (fun h => h hy)]
  have hll := hidB_len hx.o name sec q.toNat 65535
  refine tl_nil (.then_normal ?_)
  refine .sub (F' := [(2, _), (4, _), (6, _), (7, _)]) (.cons rfl (.cons rfl (.cons rfl (.cons rfl .nil)))) ?_
  refine x_seq ?_
  have he : Le M3 M3 := Le.refl _
  refine x_draw 10 hmix rfl ?_
  refine to_y 0 rfl (by kernel_rfl) rfl (y_loadAgg rfl rfl (.own inferInstance inferInstance)) ?_
  refine to_y 1 rfl (by kernel_rfl) rfl (y_loadAgg rfl rfl (.own inferInstance inferInstance)) ?_
  refine to_p 2 rfl (by kernel_rfl) rfl (y_move (v := .int _ _) rfl) ?_
  refine to_y 5 rfl (by kernel_rfl) rfl (y_loadAgg rfl rfl (.own inferInstance inferInstance)) ?_
  refine to_y 6 rfl (by kernel_rfl) rfl (y_loadAgg rfl rfl (.own inferInstance inferInstance)) ?_
  refine to_p 7 rfl (by kernel_rfl) rfl (y_move (v := .int _ _) rfl) ?_
  refine to_e 3 rfl (by kernel_rfl) rfl (e_call' rfl (oSecret_spec (hg.mono hd).ch (otsV x.o) (hname.mono hd) (hsec.mono hd) q 65535 (by omega)) ?_)
  rintro _ M4 _ hM4 ⟨rfl, A4, m4, c4, rfl, hA4⟩
  rw [if_pos hy] at hA4
  have hm4 := hA4.size
  have hc4 := hA4.le
  replace hd := hd.trans hM4
  replace he := he.trans hM4
  try replace hA5 := hA5.mono hM4
  refine ⟨⟨he, Keeps.mem⟩, ?_⟩
  refine to_p 4 rfl (by kernel_rfl) rfl (y_slice3 rfl rfl rfl (by omega) (by omega)) ?_
  refine to_e 8 rfl (by kernel_rfl) rfl (e_call' rfl (oSecret_spec (hg.mono hd).ch (otsV x.o) (hname.mono hd) (hsec.mono hd) q 65534 (by omega)) ?_)
  rintro _ M5 _ hM5 ⟨rfl, A5, m5, c5, rfl, hA5⟩
  rw [if_pos hy] at hA5
  replace hd := hd.trans hM5
  replace he := he.trans hM5
  try replace hA4 := hA4.mono hM5
  refine ⟨⟨he, Keeps.mem⟩, ?_⟩
  refine to_p 9 rfl (by kernel_rfl) rfl (y_build rfl) ?_
  refine to_t 10 rfl (by kernel_rfl) (by kernel_rfl) rfl (e_store rfl rfl (by rfl) (by rfl) inferInstance inferInstance inferInstance ?_)
  refine to_nil (by kernel_rfl) (.then_normal ?_)
  refine .sub (F' := [(6, _)]) (.cons rfl .nil) ?_
  refine x_ret (retRV (L' := L) (rv1 rfl (rc_cellAgg (by rfl) rfl (.own inferInstance inferInstance))) inferInstance hd ⟨rfl, ⟨_, _, _⟩, ⟨_, _, _⟩, rfl, he0, Bytes.take3 hA4 16 16 (by omega) (Nat.le_refl _) (by omega), hA5⟩)
theorem hpublic_spec (hg : LmG M) (x : PairV) (hname : Bytes M NA nl nc name) (hsec : Bytes M SA sl_ sc sec) :
    Con Tryz.prog 116 #[.agg (List.toArray x.cells), .agg (List.toArray (seedC NA nl nc SA sl_ sc))] G M L (fun v M' L' => L' = L ∧ mayC x nl sl_ = 0 ∧ ∃ A m c, v = .slice A m c ∧ Bytes M' A m c (pubB x name sec)) (fun ch M' L' => L' = L ∧ mayC x nl sl_ ≠ 0 ∧ ch = hwrong (mayC x nl sl_)) := by
  refine enter (args := [_, _]) (fn := Tryz.f116) ⟨Tryz.func116, rfl, by kernel_rfl, by kernel_rfl⟩ 16 rfl ?_
  refine x_seq (x_region ?_)
  refine tl_e rfl (e_box rfl (fun b1 => ?_))
  refine tl_e rfl (e_box rfl (fun b2 => ?_))
  refine tl_y rfl (y_assign rfl) ?_
  refine tl_nil (.then_normal ?_)
  refine x_seq (x_region ?_)
  refine tl_y rfl (y_loadAgg rfl rfl (.own inferInstance inferInstance)) ?_
  refine tl_y rfl (y_loadAgg rfl rfl (.own inferInstance inferInstance)) ?_
  refine tl_e rfl (e_call' rfl (Public_lspec hg x hname hsec) ?_)
  rintro _ M1 _ hM1 ⟨rfl, A1, m1, c1, rfl, hA1⟩
  refine tl_y rfl (y_move (v := .tuple _) rfl) ?_
  refine tl_y rfl (y_extract rfl) ?_
  refine tl_y rfl (y_extract rfl) ?_
  refine tl_y rfl (y_assign (v := .slice _ _ _) rfl) ?_
  refine tl_y rfl (y_assign (v := .int _ _) rfl) ?_
  refine tl_nil (.then_normal ?_)
  refine .sub (F' := [(5, _), (6, _)]) (.cons rfl (.cons rfl .nil)) ?_
  refine x_seq (x_region ?_)
  refine tl_y rfl (y_move (v := .int _ _) rfl) ?_
  refine tl_e rfl (e_call rfl (hwell_spec _) (by
    rintro _ _ _ _ ⟨rfl, rfl, hne, rfl⟩
    exact TP.dropTo L inferInstance (.retA rfl hM1 ⟨rfl, hne, rfl⟩)) ?_)
  rintro _ _ _ _ ⟨rfl, rfl, h0⟩
  rw [pubV, if_pos h0] at hA1
  refine tl_nil (.then_normal ?_)
  refine x_seq (x_region ?_)
  refine tl_y rfl (y_move (v := .slice _ _ _) rfl) ?_
  refine tl_y rfl (y_assign (v := .slice _ _ _) rfl) ?_
  refine tl_nil (.then_normal ?_)
  refine .sub (F' := [(4, _)]) (.cons rfl .nil) ?_
  refine x_ret (.dropTo L inferInstance (ret1 rfl rfl hM1 ⟨rfl, h0, _, _, _, rfl, hA1⟩))
theorem makes_spec (hg : LmG M) {A : Option Addr} {n c : Nat} {l : List PairV} (h : Row M 2 A n c (prow l)) :
    Con Tryz.prog 114 #[.slice A n c, .agg (List.toArray (seedC NA nl nc SA sl_ sc))] G M L (fun v M' L' => L' = L ∧ canE l nl sl_ = 0) (fun ch M' L' => L' = L ∧ canE l nl sl_ ≠ 0 ∧ ch = hwrong (canE l nl sl_)) := by
  have hmx := h.max
  have hle := h.le
  have hln : l.length = n := by have := h.len; rw [prow, flat_len pcl] at this; omega
  refine enter (args := [_, _]) (fn := Tryz.f114) ⟨Tryz.func114, rfl, by kernel_rfl, by kernel_rfl⟩ 37 rfl ?_
  refine x_seq (x_region ?_)
  refine tl_e rfl (e_box rfl (fun b1 => ?_))
  refine tl_nil (.then_normal ?_)
  refine x_seq (x_region ?_)
  refine tl_y rfl (y_move (v := .slice _ _ _) rfl) ?_
  refine tl_e rfl (e_call rfl (trees_spec hg.hs h) (by
    rintro _ M1 _ hM1 ⟨rfl, hno, rfl⟩
    have e : canE l nl sl_ = 4 := by rw [canE, if_pos hno]
    exact TP.dropTo L inferInstance (.retA rfl hM1 ⟨rfl, by rw [e]; decide, by rw [e]⟩)) ?_)
  rintro _ M1 _ hM1 ⟨rfl, hok, AT, cT, rfl, hrow⟩
  have hn8 := hok.1.2
  refine tl_y rfl (y_assign (v := .slice _ _ _) rfl) ?_
  refine tl_nil (.then_normal ?_)
  refine x_seq (x_region ?_)
  refine tl_y rfl (y_move (v := .slice _ _ _) rfl) ?_
  refine tl_y rfl (y_len rfl) ?_
  refine tl_y rfl (y_move rfl) ?_
  refine tl_nil (.then_normal ?_)
  refine .sub (F' := [(0, _), (3, _), (11, _), (12, _), (13, _)]) (.cons rfl (.cons rfl (.cons rfl (.cons rfl (.cons rfl .nil))))) ?_
  refine x_block ?_
  refine x_loop (I := fun m' F D M2 L2 => ∃ (k : Nat), m' = n - k ∧ k ≤ n ∧ Le M1 M2 ∧ (∀ p ∈ l.take k, (tv p).h ≤ 10 ∧ okY (otsV p.o) nl sl_) ∧ D = [] ∧ L2 = (b1, .cells (List.toArray (seedC NA nl nc SA sl_ sc)) 49 (0, 0)) :: L ∧ F = [(0, .slice A n c), (3, .pointer (some ⟨b1, 0, none⟩)), (11, .slice AT n cT), (12, .int .i64 n), (13, .int .i64 k)]) (n) (F0 := [(0, _), (3, _), (11, _), (12, _), (13, _)]) ?_ (.cons rfl (.cons rfl (.cons rfl (.cons rfl (.cons rfl .nil))))) ?_  -- slots [0, 3, 11, 12, 13], written [13]
  · exact ⟨0, rfl, by omega, Le.refl _, fun p hp => by simp at hp, rfl, rfl, rfl⟩
  rintro m _ _ M2 _ ⟨k, rfl, hk, hM2, hgd, rfl, rfl, rfl⟩
  refine x_seq (x_region ?_)
  refine tl_y rfl (y_lss rfl rfl) ?_
  refine tl_nil (.then_normal ?_)
  refine x_seq ?_
  refine x_cond rfl (fun hc1 => ?_) (fun hc1 => ?_)
  ·
    have hkn : k < n := by omega
    obtain ⟨p, hp⟩ : ∃ p, l[k]? = some p := ⟨_, List.getElem?_eq_getElem (by omega)⟩
    have hmem : p ∈ l := List.mem_of_getElem? hp
    have htk : l.take (k + 1) = l.take k ++ [p] := by
      rw [List.take_add_one, hp]; rfl
    have hpt : (l.map tv)[k]? = some (tv p) := by rw [List.getElem?_map, hp]; rfl
    have hd := hM1.trans hM2
    obtain ⟨g, o, rfl, hcell⟩ := (hrow.mono hM2).cellsN (by omega)
    have hc2 := fun L => hcell L (k * 4) 4 (by rw [trow, flat_len tcl, List.length_map]; omega)
    simp only [trow, flat_take tcl _ k _ hpt] at hc2
    obtain ⟨g2, o2, rfl, hcell2⟩ := (h.mono hd).addr (by omega)
    have hv0 := fun L => hcell2 L (k * 2 + 0) (.int .u32 (p.o.toNat : Int)) (by rw [prow, flat_get pcl _ k p hp 0 (by omega)]; rfl)
    refine x_skip (.then_normal ?_)
    refine x_seq ?_
    refine x_block ?_
    refine x_seq (x_region ?_)
    refine tl_y rfl (y_move (v := .int _ _) rfl) ?_
    refine tl_y rfl (y_indexAddr rfl rfl (by omega)) ?_
    refine tl_y rfl (y_loadAgg rfl rfl (.at_ (hc2 _) (by omega))) ?_
    refine tl_e rfl (e_alloc (fun b2 => ?_))
    refine tl_y rfl (y_assign (v := .int _ _) rfl) ?_
    refine tl_e rfl (e_store rfl rfl (by rfl) (by rfl) inferInstance inferInstance inferInstance ?_)
    refine tl_nil (.then_normal ?_)
    refine .sub (F' := [(0, _), (3, _), (5, _), (6, _), (11, _), (12, _), (13, _)]) (.cons rfl (.cons rfl (.cons rfl (.cons rfl (.cons rfl (.cons rfl (.cons rfl .nil))))))) ?_
    refine x_seq (x_region ?_)
    refine tl_y rfl (y_move (v := .slice _ _ _) rfl) ?_
    refine tl_y rfl (y_move (v := .int _ _) rfl) ?_
    refine tl_y rfl (y_indexAddr rfl rfl (by omega)) ?_
    refine tl_y rfl (y_fieldAddr rfl) ?_
    refine tl_y rfl (y_load rfl rfl (.at_ (hv0 _) (by omega))) ?_
    refine tl_e rfl (e_call' rfl (Ots_spec (hg.mono hd).ch.set p.o) ?_)
    rintro _ M3 _ hM3 ⟨rfl, rfl⟩
    replace hd := hd.trans hM3
    refine tl_y rfl (y_move (v := .tuple _) rfl) ?_
    refine tl_y rfl (y_extract rfl) ?_
    refine tl_y rfl (y_extract rfl) ?_
    refine tl_e rfl (e_alloc (fun b3 => ?_))
    refine tl_e rfl (e_store rfl rfl (by rfl) (by rfl) inferInstance inferInstance inferInstance ?_)
    refine tl_y rfl (y_assign (v := .int _ _) rfl) ?_
    refine tl_nil (.then_normal ?_)
    refine .sub (F' := [(0, _), (3, _), (6, _), (7, _), (11, _), (12, _), (13, _)]) (.cons rfl (.cons rfl (.cons rfl (.cons rfl (.cons rfl (.cons rfl (.cons rfl .nil))))))) ?_
    refine x_region ?_
    refine tl_y rfl (y_fieldAddr rfl) ?_
    refine tl_y rfl (y_load rfl rfl (.own inferInstance inferInstance)) ?_
    refine tl_y rfl (y_leq rfl rfl) ?_
    refine tl_y rfl (y_move (v := .bool _) rfl) ?_
    refine tl_cases (s := 30) rfl (fun hk1 => ?_) (fun hk1 => ?_)
    ·
      refine tl_y rfl (y_loadAgg rfl rfl (.own inferInstance inferInstance)) ?_
      refine tl_y rfl (y_loadAgg rfl rfl (.own inferInstance inferInstance)) ?_
      refine tl_e rfl (e_call' rfl (oMay_spec (hg.mono hd).ch.set (otsV p.o)) ?_)
      rintro _ M4 _ hM4 ⟨rfl, rfl⟩
      replace hd := hd.trans hM4
      refine tl_y rfl (y_pickT rfl rfl) ?_
      refine tl_e rfl (e_call rfl (hmust_spec _ _) (by
        rintro _ _ _ _ ⟨rfl, rfl, ht, rfl⟩
        have e : canE l nl sl_ = 1 := by rw [canE, if_neg (fun h => h hok), if_pos (fun h => by have := (h p hmem).2; simp [this] at ht)]
        exact TP.dropTo L inferInstance (.retA rfl hd ⟨rfl, by rw [e]; decide, by rw [e]⟩)) ?_)
      rintro _ _ _ _ ⟨rfl, rfl, ht⟩
      refine tl_nil (.block_normal (.then_normal ?_))
      refine .sub (F' := [(0, _), (3, _), (11, _), (12, _), (13, _)]) (.cons rfl (.cons rfl (.cons rfl (.cons rfl (.cons rfl .nil))))) ?_
      refine x_region ?_
      refine tl_y rfl (y_addI rfl rfl (by omega)) ?_
      refine tl_y rfl (y_move (v := .int _ _) rfl) ?_
      refine .dropTo ((b1, .cells (List.toArray (seedC NA nl nc SA sl_ sc)) 49 (0, 0)) :: L) inferInstance ?_
      refine tl_nil (.loop_next (m' := n - (k + 1)) (by omega) (F' := [(0, _), (3, _), (11, _), (12, _), (13, _)]) (.cons rfl (.cons rfl (.cons rfl (.cons rfl (.cons rfl .nil))))) ?_)
      exact ⟨k + 1, rfl, by omega, hM2.trans (hM3.trans hM4), fun p' hp' => by
        rw [htk, List.mem_append, List.mem_singleton] at hp'
        rcases hp' with hp' | rfl
        · exact hgd p' hp'
        · exact ⟨hk1, by simpa using ht⟩, rfl, rfl, rfl⟩
    ·
      refine tl_skip rfl ?_
      refine tl_skip rfl ?_
      refine tl_skip rfl ?_
      refine tl_y rfl (y_pickF rfl rfl) ?_
      refine tl_e rfl (e_call rfl (hmust_spec _ _) (by
        rintro _ _ _ _ ⟨rfl, rfl, ht, rfl⟩
        have e : canE l nl sl_ = 1 := by rw [canE, if_neg (fun h => h hok), if_pos (fun h => hk1 (h p hmem).1)]
        exact TP.dropTo L inferInstance (.retA rfl hd ⟨rfl, by rw [e]; decide, by rw [e]⟩)) ?_)
      rintro _ _ _ _ ⟨rfl, rfl, ht⟩
      refine tl_nil (.block_normal (.then_normal ?_))
      refine .sub (F' := [(0, _), (3, _), (11, _), (12, _), (13, _)]) (.cons rfl (.cons rfl (.cons rfl (.cons rfl (.cons rfl .nil))))) ?_
      refine x_region ?_
      refine tl_y rfl (y_addI rfl rfl (by omega)) ?_
      refine tl_y rfl (y_move (v := .int _ _) rfl) ?_
      refine tl_nil (.loop_next (m' := n - (k + 1)) (by omega) (F' := [(0, _), (3, _), (11, _), (12, _), (13, _)]) (.cons rfl (.cons rfl (.cons rfl (.cons rfl (.cons rfl .nil))))) ?_)
      exact absurd ht (by simp)
  ·
    obtain rfl : k = n := by omega
    rw [List.take_of_length_le (by omega)] at hgd
    refine x_exit (.then_exit (.loop_exit (.block_exit (.dropTo L inferInstance (end0 rfl (hM1.trans hM2) ⟨rfl, canE_ok hok hgd⟩)))))
theorem Public1_hspec (hg : LmG M) {A : Option Addr} {n c : Nat} {l : List PairV} (h : Row M 2 A n c (prow l)) (hname : Bytes M NA nl nc name) (hsec : Bytes M SA sl_ sc sec) {bl bs : Nat}
    [i1 : Has L bl (.cells (List.toArray [.slice A n c]) 46 (0, 0))] [i2 : Has L bs (.cells (List.toArray (seedC NA nl nc SA sl_ sc)) 49 (0, 0))] :
    Con Tryz.prog 113 #[.pointer (some ⟨bl, 0, none⟩), .pointer (some ⟨bs, 0, none⟩)] G M L (fun v M' L' => L' = L ∧ ∃ A m c, v = .slice A m c ∧ canE l nl sl_ = 0 ∧ Bytes M' A m c (hpubB l name sec)) (fun ch M' L' => L' = L ∧ ∃ e, (canE l nl sl_ ≠ 0 ∧ e = canE l nl sl_) ∧ ch = hwrong e) := by
  have hln : l.length = n := by have := h.len; rw [prow, flat_len pcl] at this; omega
  have hns := hname.size
  have hss := hsec.size
  refine enter (args := [_, _]) (fn := Tryz.f113) ⟨Tryz.func113, rfl, by kernel_rfl, by kernel_rfl⟩ 17 rfl ?_
  refine x_seq (x_region ?_)
  refine tl_y rfl (y_assign rfl) ?_
  refine tl_nil (.then_normal ?_)
  refine x_seq (x_region ?_)
  refine tl_y rfl (y_load rfl rfl (.own inferInstance inferInstance)) ?_
  refine tl_y rfl (y_loadAgg rfl rfl (.own inferInstance inferInstance)) ?_
  refine tl_e rfl (e_call rfl (makes_spec hg h) (by
    rintro _ M1 _ hM1 ⟨rfl, hno, rfl⟩
    exact .retA rfl hM1 ⟨rfl, _, ⟨hno, rfl⟩, rfl⟩) ?_)
  rintro _ M1 L hM1 ⟨rfl, h0⟩
  have hd : Le M M1 := hM1
  obtain ⟨hok, hcan⟩ := canE_zero h0
  have hn8 := hok.1
  obtain ⟨hp0, hm0, he0, _⟩ := okL_get hok (i := 0) (by omega)
  have hmay : mayC (l.getD 0 p0) nl sl_ = 0 := by
    have := (seedR_may hok hcan [] hns hss (i := 0) (j := 0) (by omega) (by omega)).2
    rw [seedR, hns, hss] at this
    exact this
  obtain ⟨n', w', p', H', hx⟩ := okP_facts hp0
  have hn32 := hx.o.n32
  have hn16 : name.length = 16 := by rw [hns]; exact (hcan _ hm0).2.2.1
  obtain ⟨pp1, _, _, _, _⟩ := pub_parts hx hn16 sec
  obtain ⟨g, o, rfl, hcell⟩ := (h.mono hd).cellsN (by omega)
  have hc2 := fun L => hcell L (0 * 2) 2 (by rw [prow, flat_len pcl]; omega)
  simp only [prow, flat_take pcl l 0 _ he0] at hc2
  refine tl_nil (.then_normal ?_)
  refine .sub (F' := [(0, _), (1, _)]) (.cons rfl (.cons rfl .nil)) ?_
  refine x_seq ?_
  have he : Le M1 M1 := Le.refl _
  refine x_draw 12 hmix rfl ?_
  refine to_y 0 rfl (by kernel_rfl) rfl (y_load rfl rfl (.own inferInstance inferInstance)) ?_
  refine to_p 1 rfl (by kernel_rfl) rfl (y_len rfl) ?_
  refine to_p 2 rfl (by kernel_rfl) rfl (y_convN64 rfl (by omega)) ?_
  refine to_y 4 rfl (by kernel_rfl) rfl (y_load rfl rfl (.own inferInstance inferInstance)) ?_
  refine to_p 5 rfl (by kernel_rfl) rfl (y_indexAddr rfl rfl (by omega)) ?_
  refine to_y 6 rfl (by kernel_rfl) rfl (y_loadAgg rfl rfl (.at_ (hc2 _) (by omega))) ?_
  refine to_y 7 rfl (by kernel_rfl) rfl (y_loadAgg rfl rfl (.own inferInstance inferInstance)) ?_
  refine to_e 3 rfl (by kernel_rfl) rfl (e_call' rfl (PutV_spec n 4 (by omega) (by omega)) ?_)
  rintro _ M2 _ hM2 ⟨rfl, A2, c2, rfl, hA2⟩
  replace hd := hd.trans hM2
  replace he := he.trans hM2
  try replace hA3 := hA3.mono hM2
  refine ⟨⟨he, Keeps.mem⟩, ?_⟩
  refine to_e 8 rfl (by kernel_rfl) rfl (e_call rfl (hpublic_spec (hg.mono hd) (l.getD 0 p0) (hname.mono hd) (hsec.mono hd)) (by
    rintro _ M3 _ hM3 ⟨rfl, hno, rfl⟩
    exact absurd hmay hno) ?_)
  rintro _ M3 L hM3 ⟨rfl, _, A3, m3, c3, rfl, hA3⟩
  replace hd := hd.trans hM3
  replace he := he.trans hM3
  try replace hA2 := hA2.mono hM3
  refine ⟨⟨he, Keeps.mem⟩, ?_⟩
  refine to_e 9 rfl (by kernel_rfl) rfl (e_buildSlice rfl (by decide) (fun b7 => ?_))
  refine ⟨⟨he, Keeps.mem⟩, ?_⟩
  refine .pub b7 inferInstance (fun M6 hM6 hb7 => ?_)
  have hd6 := hd.trans hM6
  have he6 := he.trans hM6
  have hfl : [putB n 4, pubB (l.getD 0 p0) name sec].flatten = hpubB l name sec := by simp [hpubB, hln]
  have hfll : (hpubB l name sec).length ≤ 100 := by rw [hpubB, List.length_append, putB_length, pp1]; omega
  refine to_e 10 rfl (by kernel_rfl) rfl (e_call' rfl (Cat_spec (Row.whole hb7 rfl (by omega)) (.cons (hA2.mono hM6) (.cons (hA3.mono hM6) .nil)) (by rw [hfl]; omega)) ?_)
  rintro _ M7 _ hM7 ⟨rfl, A7, c7, rfl, hA7⟩
  rw [hfl] at hA7
  rw [hfl]
  replace hd6 := hd6.trans hM7
  replace he6 := he6.trans hM7
  refine ⟨⟨he6, Keeps.mem⟩, ?_⟩
  refine to_p 11 rfl (by kernel_rfl) rfl (y_assign (v := .slice _ _ _) rfl) ?_
  refine to_nil (by kernel_rfl) (.then_normal ?_)
  refine .sub (F' := [(2, _)]) (.cons rfl .nil) ?_
  refine x_ret (.dropTo L inferInstance (ret1 rfl rfl hd6 ⟨rfl, _, _, _, rfl, h0, hA7⟩))
theorem Public_hspec (hg : LmG M) {A : Option Addr} {n c : Nat} {l : List PairV} (h : Row M 2 A n c (prow l)) (hname : Bytes M NA nl nc name) (hsec : Bytes M SA sl_ sc sec) :
    Con Tryz.prog 50 #[.slice A n c, .agg (List.toArray (seedC NA nl nc SA sl_ sc))] G M L (fun v M' L' => L' = L ∧ ∃ A m c, v = .tuple #[.slice A m c, .int .i64 (canE l nl sl_)] ∧ Bytes M' A m c (hpubV l nl sl_ name sec)) noPanic := by
  refine enter (args := [_, _]) (fn := Tryz.f50) ⟨Tryz.func50, rfl, by kernel_rfl, by kernel_rfl⟩ 10 rfl ?_
  refine x_seq (x_region ?_)
  refine tl_e rfl (e_box rfl (fun b1 => ?_))
  refine tl_e rfl (e_box rfl (fun b2 => ?_))
  refine tl_y rfl (y_assign rfl) ?_
  refine tl_y rfl (y_assign rfl) ?_
  refine tl_nil (.then_normal ?_)
  refine .sub (F' := [(2, _), (3, _)]) (.cons rfl (.cons rfl .nil)) ?_
  refine x_seq (x_region ?_)
  refine tl_y rfl (y_makeFunc rfl rfl) ?_
  refine tl_e rfl (e_call' rfl (caughtHB_spec (K := fun A m c M' => canE l nl sl_ = 0 ∧ Bytes M' A m c (hpubB l name sec)) (Kp := fun e => canE l nl sl_ ≠ 0 ∧ e = canE l nl sl_) (first := []) (cap := [.pointer (some ⟨b1, 0, none⟩), .pointer (some ⟨b2, 0, none⟩)]) (fun p' q' => Public1_hspec hg h hname hsec)) ?_)
  rintro v M1 _ hM1 ⟨rfl, hv⟩
  obtain ⟨A2, m2, c2, rfl, hA⟩ : ∃ A m c, v = .tuple #[.slice A m c, .int .i64 (canE l nl sl_)] ∧ Bytes M1 A m c (hpubV l nl sl_ name sec) := by
    rcases hv with ⟨A, m, c, rfl, h0, hb⟩ | ⟨e, rfl, hno, rfl⟩
    · exact ⟨A, m, c, by rw [h0], by rw [hpubV, if_pos h0]; exact hb⟩
    · exact ⟨none, 0, 0, rfl, by rw [hpubV, if_neg hno]; exact Row.nil _ _⟩
  refine tl_y rfl (y_extract rfl) ?_
  refine tl_y rfl (y_extract rfl) ?_
  refine tl_y rfl (y_assign (v := .slice _ _ _) rfl) ?_
  refine tl_y rfl (y_assign (v := .int _ _) rfl) ?_
  refine tl_nil (.then_normal ?_)
  refine .sub (F' := [(4, _), (5, _)]) (.cons rfl (.cons rfl .nil)) ?_
  refine x_ret (.dropTo L inferInstance (ret2 rfl rfl rfl hM1 ⟨rfl, _, _, _, rfl, hA⟩))
end
end Go.Proofs.YtiimjodbaogjbaaGreatDoor
set_option linter.unusedVariables false
set_option linter.unusedSimpArgs false
set_option linter.constructorNameAsVariable false
namespace Go.Proofs.YtiimjodbaogjbaaGreatDoor
open Go Go.Eng
inductive PtRows (M : Mem) : List Value → List PartB → Prop
  | nil : PtRows M [] []
  | cons {x : PartB} {KA SA NA : Option Addr} {kl kc sl_ sc nl nc : Nat} {vs : List Value} {ps : List PartB} : Bytes M KA kl kc x.key → Bytes M SA sl_ sc x.sig → Bytes M NA nl nc x.next → (x.next = [] → NA = none) → PtRows M vs ps → PtRows M (.slice KA kl kc :: .slice SA sl_ sc :: .slice NA nl nc :: vs) (x :: ps)
theorem PtRows.mono {M M' : Mem} (hle : Le M M') {vs : List Value} {ps : List PartB} (h : PtRows M vs ps) : PtRows M' vs ps := by
  induction h with
  | nil => exact .nil
  | cons h1 h2 h3 h4 _ ih => exact .cons (h1.mono hle) (h2.mono hle) (h3.mono hle) h4 ih
theorem PtRows.len {M : Mem} {vs : List Value} {ps : List PartB} (h : PtRows M vs ps) : vs.length = ps.length * 3 := by
  induction h with
  | nil => rfl
  | cons _ _ _ _ _ ih => simp only [List.length_cons, ih]; omega
theorem PtRows.snoc {M : Mem} {vs : List Value} {ps : List PartB} (h : PtRows M vs ps) {x : PartB} {KA SA NA : Option Addr} {kl kc sl_ sc nl nc : Nat} (h1 : Bytes M KA kl kc x.key) (h2 : Bytes M SA sl_ sc x.sig) (h3 : Bytes M NA nl nc x.next) (h4 : x.next = [] → NA = none) :
    PtRows M (vs ++ [.slice KA kl kc, .slice SA sl_ sc, .slice NA nl nc]) (ps ++ [x]) := by
  induction h with
  | nil => exact .cons h1 h2 h3 h4 .nil
  | cons a1 a2 a3 a4 _ ih => exact .cons a1 a2 a3 a4 ih
theorem PtRows.get {M : Mem} {vs : List Value} {ps : List PartB} (h : PtRows M vs ps) : ∀ i x, ps[i]? = some x → ∃ KA SA NA kl kc sl_ sc nl nc, (vs.drop (i * 3)).take 3 = [.slice KA kl kc, .slice SA sl_ sc, .slice NA nl nc] ∧ Bytes M KA kl kc x.key ∧ Bytes M SA sl_ sc x.sig ∧ Bytes M NA nl nc x.next ∧ (x.next = [] → NA = none) := by
  induction h with
  | nil => intro i x hi; simp at hi
  | @cons y KA SA NA kl kc sl_ sc nl nc vs ps h1 h2 h3 h4 _ ih =>
    intro i x hi
    cases i with
    | zero =>
      obtain rfl : y = x := by simpa using hi
      exact ⟨KA, SA, NA, kl, kc, sl_, sc, nl, nc, rfl, h1, h2, h3, h4⟩
    | succ i =>
      have := ih i x (by simpa using hi)
      rwa [show (i + 1) * 3 = i * 3 + 3 by omega]
section
variable {G : World} {M : Mem} {L : Own} {A : Option Addr} {m c : Nat} {bs : List UInt8}
end
end Go.Proofs.YtiimjodbaogjbaaGreatDoor
set_option linter.unusedVariables false
set_option linter.unusedSimpArgs false
set_option linter.constructorNameAsVariable false
namespace Go.Proofs.YtiimjodbaogjbaaGreatDoor
open Go Go.Eng
section
variable {G : World} {M : Mem} {L : Own} {PA TA A : Option Addr} {pl pc tl tc m c : Nat} {pub text sig : List UInt8}
abbrev bx (b : Nat) (A : Option Addr) (m c : Nat) : Nat × Obj := (b, .cells (List.toArray [.slice A m c]) 35 (0, 0))
end
end Go.Proofs.YtiimjodbaogjbaaGreatDoor
set_option linter.unusedVariables false
set_option linter.unusedSimpArgs false
set_option linter.constructorNameAsVariable false
namespace Go.Proofs.YtiimjodbaogjbaaGreatDoor
open Go Go.Eng
def hfit (pub text sig : List UInt8) : Prop := (readP pub sig).1 = 0 ∧ ∀ x ∈ (readP pub sig).2, partF text x
instance {pub text sig : List UInt8} : Decidable (hfit pub text sig) := inferInstanceAs (Decidable (_ ∧ _))
section
variable {G : World} {M : Mem} {L : Own} {PA TA A : Option Addr} {pl pc tl tc m c : Nat} {pub text sig : List UInt8}
end
end Go.Proofs.YtiimjodbaogjbaaGreatDoor
set_option linter.unusedVariables false
set_option linter.unusedSimpArgs false
set_option linter.constructorNameAsVariable false
namespace Go.Proofs.YtiimjodbaogjbaaGreatDoor
open Go Go.Eng
theorem seedR_bel {l : List PairV} {nl sl : Nat} (hok : okL l) (hc : canB l nl sl) (at_ : List Nat) {name sec : List UInt8} (hn : name.length = nl) (hs : sec.length = sl) {i : Nat} (hi : i < l.length) :
    belE (l.getD i p0) (seedR l at_ name sec i).1.length (seedR l at_ name sec i).2.length = 0 := by
  obtain ⟨h1, h2, h3, h4⟩ := okL_get hok hi
  have h5 := (seedR_may hok hc at_ hn hs (i := i) (j := i) (by omega) hi).1
  rw [belE, if_neg (fun h => h h1), if_neg (fun h => h h5)]
abbrev levC (p : PairV) (NA : Option Addr) (nl nc : Nat) (SA : Option Addr) (sl sc : Nat) (q : Nat) : List Value := [.int .u32 (p.o.toNat : Int), .int .u32 (p.t.toNat : Int), .slice NA nl nc, .slice SA sl sc, .int .u32 (q : Int)]
section
variable {G : World} {M : Mem} {L : Own} {NA SA TA : Option Addr} {nl nc sl_ sc tl tc : Nat} {name sec text : List UInt8}
theorem levels_spec {A B : Option Addr} {n c m d : Nat} :
    Con Tryz.prog 120 #[.slice A n c, .agg (List.toArray (seedC NA nl nc SA sl_ sc)), .slice B m d] G M L (fun v M' L' => M = M' ∧ ∃ x1 x2 x3, L' = (x3, .cells (List.toArray [.slice B m d]) 50 (0, 0)) :: (x2, .cells (List.toArray (seedC NA nl nc SA sl_ sc)) 49 (0, 0)) :: (x1, .cells (List.toArray [.slice A n c]) 46 (0, 0)) :: L ∧ v = .func (.func 171) (List.toArray []) (List.toArray [.pointer (some ⟨x1, 0, none⟩), .pointer (some ⟨x2, 0, none⟩), .pointer (some ⟨x3, 0, none⟩)])) noPanic := by
  refine enter (args := [_, _, _]) (fn := Tryz.f120) ⟨Tryz.func120, rfl, by kernel_rfl, by kernel_rfl⟩ 8 rfl ?_
  refine x_seq (x_region ?_)
  refine tl_e rfl (e_box rfl (fun b1 => ?_))
  refine tl_e rfl (e_box rfl (fun b2 => ?_))
  refine tl_e rfl (e_box rfl (fun b3 => ?_))
  refine tl_y rfl (y_assign rfl) ?_
  refine tl_nil (.then_normal ?_)
  refine .sub (F' := [(3, _), (4, _), (5, _)]) (.cons rfl (.cons rfl (.cons rfl .nil))) ?_
  refine x_seq (x_region ?_)
  refine tl_y rfl (y_makeFunc rfl rfl) ?_
  refine tl_y rfl (y_assign (v := .func _ _ _) rfl) ?_
  refine tl_nil (.then_normal ?_)
  refine .sub (F' := [(6, _)]) (.cons rfl .nil) ?_
  refine x_ret (ret1 rfl rfl (Le.refl _) ⟨rfl, b1, b2, b3, rfl, rfl⟩)
theorem levels1_spec (hg : LmG M) {l0 x1 x2 x3 : Nat} {A B : Option Addr} {n c d : Nat} {l : List PairV} (h : Row M 2 A n c (prow l)) {at_ : List Nat} (hat : Row M 1 B n d (u32r at_)) (hlt : ∀ k, k < n → at_.getD k 0 < 4294967296) (hok : okL l) (hcan : canB l nl sl_) (hname : Bytes M NA nl nc name) (hsec : Bytes M SA sl_ sc sec) {X0 : Own} {Inv : Nat → Mem → Own → Prop} {Dn : Mem → Own → Prop} (hmono : ∀ k M1 M2 X, Le M1 M2 → Inv k M1 X → Inv k M2 X)
    (hy : ∀ k M1 X1 A1 n1 c1 A2 n2 c2, k < n → Bytes M1 A1 n1 c1 (seedR l at_ name sec k).1 → Bytes M1 A2 n2 c2 (seedR l at_ name sec k).2 → Le M M1 → Inv k M1 X1 → YCon Tryz.prog l0 [.int .i64 (k : Nat), .agg (List.toArray (levC (l.getD k p0) A1 n1 c1 A2 n2 c2 (at_.getD k 0)))] G M1 X1 (Inv (k + 1)) Dn) (h0 : Inv 0 M X0) :
    Con Tryz.prog 171 #[.func (.yield l0) (List.toArray []) (List.toArray []), .pointer (some ⟨x1, 0, none⟩), .pointer (some ⟨x2, 0, none⟩), .pointer (some ⟨x3, 0, none⟩)] G M ((x3, .cells (List.toArray [.slice B n d]) 50 (0, 0)) :: (x2, .cells (List.toArray (seedC NA nl nc SA sl_ sc)) 49 (0, 0)) :: (x1, .cells (List.toArray [.slice A n c]) 46 (0, 0)) :: X0)
      (fun v M' L' => ∃ X', DropTo L' X' ∧ (Inv n M' X' ∨ Dn M' X')) noPanic := by
  have hmx := h.max
  have hle := h.le
  have hln : l.length = n := by have := h.len; rw [prow, flat_len pcl] at this; omega
  have hal : at_.length = n := by have := hat.len; simp [u32r] at this; omega
  have hnl := hname.size
  have hsl := hsec.size
  have hn8 := hok.1.2
  refine enter (args := [_, _, _, _]) (fn := Tryz.f171) ⟨Tryz.func171, rfl, by kernel_rfl, by kernel_rfl⟩ 33 rfl ?_
  refine x_seq (x_region ?_)
  refine tl_y rfl (y_load rfl rfl (.own inferInstance inferInstance)) ?_
  refine tl_y rfl (y_len rfl) ?_
  refine tl_y rfl (y_move rfl) ?_
  refine tl_nil (.then_normal ?_)
  refine x_block ?_
  refine x_loop (I := fun m' F D M1 L1 => ∃ (k : Nat) (X1 : Own) (A1 : Option Addr) (n1 c1 : Nat) (A2 : Option Addr) (n2 c2 : Nat), m' = n - k ∧ k ≤ n ∧ Le M M1 ∧ Bytes M1 A1 n1 c1 (seedR l at_ name sec k).1 ∧ Bytes M1 A2 n2 c2 (seedR l at_ name sec k).2 ∧ Inv k M1 X1 ∧ D = [] ∧ L1 = (x3, .cells (List.toArray [.slice B n d]) 50 (0, 0)) :: (x2, .cells (List.toArray (seedC A1 n1 c1 A2 n2 c2)) 49 (0, 0)) :: (x1, .cells (List.toArray [.slice A n c]) 46 (0, 0)) :: X1 ∧ F = [(0, .func (.yield l0) (List.toArray []) (List.toArray [])), (2, .pointer (some ⟨x2, 0, none⟩)), (3, .pointer (some ⟨x3, 0, none⟩)), (7, .slice A n c), (8, .int .i64 n), (9, .int .i64 k)]) (n) (F0 := [(0, _), (2, _), (3, _), (7, _), (8, _), (9, _)]) ?_ (.cons rfl (.cons rfl (.cons rfl (.cons rfl (.cons rfl (.cons rfl .nil)))))) ?_  -- slots [0, 2, 3, 7, 8, 9], written [9]
  · exact ⟨0, X0, _, _, _, _, _, _, rfl, by omega, Le.refl _, hname, hsec, h0, rfl, rfl, rfl⟩
  rintro m _ _ M1 L1 ⟨k, X1, A1, n1, c1, A2, n2, c2, rfl, hk, hM1, hb1, hb2, hI, rfl, rfl, rfl⟩
  refine x_seq (x_region ?_)
  refine tl_y rfl (y_lss rfl rfl) ?_
  refine tl_nil (.then_normal ?_)
  refine x_seq ?_
  refine x_cond rfl (fun hc1 => ?_) (fun hc1 => ?_)
  ·
    have hkn : k < n := by omega
    have hs1 := hb1.size
    have hs2 := hb2.size
    have hp : l[k]? = some (l.getD k p0) := (okL_get hok (i := k) (by omega)).2.2.1
    have hbel := seedR_bel hok hcan at_ hnl hsl (i := k) (by omega)
    rw [hs1, hs2] at hbel
    have haq : at_[k]? = some (at_.getD k 0) := by rw [List.getD_eq_getElem?_getD, List.getElem?_eq_getElem (by omega)]; rfl
    obtain ⟨q, hq⟩ : ∃ q : UInt32, q.toNat = at_.getD k 0 := ⟨UInt32.ofNat (at_.getD k 0), by rw [UInt32.toNat_ofNat', Nat.mod_eq_of_lt (by have := hlt k hkn; omega)]⟩
    obtain ⟨g, o, rfl, hcell⟩ := (h.mono hM1).cellsN (by omega)
    have hc2 := fun L => hcell L (k * 2) 2 (by rw [prow, flat_len pcl]; omega)
    simp only [prow, flat_take pcl l k _ hp] at hc2
    obtain ⟨g2, o2, rfl, hcell2⟩ := (hat.mono hM1).addr (by omega)
    refine x_skip (.then_normal ?_)
    refine x_seq ?_
    refine x_block ?_
    refine x_seq (x_region ?_)
    refine tl_y rfl (y_move (v := .int _ _) rfl) ?_
    refine tl_y rfl (y_indexAddr rfl rfl (by omega)) ?_
    refine tl_y rfl (y_loadAgg rfl rfl (.at_ (hc2 _) (by omega))) ?_
    refine tl_e rfl (e_alloc (fun b1 => ?_))
    refine tl_y rfl (y_assign (v := .int _ _) rfl) ?_
    refine tl_e rfl (e_store rfl rfl (by rfl) (by rfl) inferInstance inferInstance inferInstance ?_)
    refine tl_nil (.then_normal ?_)
    refine .sub (F' := [(0, _), (2, _), (3, _), (5, _), (6, _), (7, _), (8, _), (9, _)]) (.cons rfl (.cons rfl (.cons rfl (.cons rfl (.cons rfl (.cons rfl (.cons rfl (.cons rfl .nil)))))))) ?_
    refine x_seq (x_seq ?_)
    refine x_draw0 11 ([(b1, .cells (List.toArray (l.getD k p0).cells) 24 (0, 0)), (x3, .cells (List.toArray [.slice (some ⟨g2, o2, none⟩) n d]) 50 (0, 0)), (x2, .cells (List.toArray (seedC A1 n1 c1 A2 n2 c2)) 49 (0, 0))]) Keeps.mem hmix rfl ?_
    refine to_p 0 rfl (by kernel_rfl) rfl (y_move (v := .func _ _ _) rfl) ?_
    refine to_p 1 rfl (by kernel_rfl) rfl (y_move (v := .int _ _) rfl) ?_
    refine to_y 2 rfl (by kernel_rfl) rfl (y_loadAgg rfl rfl (.own inferInstance inferInstance)) ?_
    refine to_y 3 rfl (by kernel_rfl) rfl (y_loadAgg rfl rfl (.own inferInstance inferInstance)) ?_
    refine to_y 4 rfl (by kernel_rfl) rfl (y_load rfl rfl (.own inferInstance inferInstance)) ?_
    refine to_p 5 rfl (by kernel_rfl) rfl (y_move (v := .int _ _) rfl) ?_
    refine to_p 6 rfl (by kernel_rfl) rfl (y_indexAddr rfl rfl (by omega)) ?_
    refine to_y 7 rfl (by kernel_rfl) rfl (y_load rfl rfl (.at_ (hcell2 _ k _ (u32r_get haq)) (by omega))) ?_
    refine to_p 8 rfl (by kernel_rfl) rfl (y_build rfl) ?_
    refine to_e 9 rfl (by kernel_rfl) rfl (e_yieldB (R := [(b1, .cells (List.toArray (l.getD k p0).cells) 24 (0, 0)), (x3, .cells (List.toArray [.slice (some ⟨g2, o2, none⟩) n d]) 50 (0, 0)), (x2, .cells (List.toArray (seedC A1 n1 c1 A2 n2 c2)) 49 (0, 0)), (x1, .cells (List.toArray [.slice (some ⟨g, o, none⟩) n c]) 46 (0, 0))]) (X := X1) rfl rfl (hy k M1 X1 _ _ _ _ _ _ hkn hb1 hb2 hM1 hI) (fun b M2 X2 hM2 hb => ?_))
    simp only [List.cons_append, List.nil_append]
    refine ⟨⟨(by first | exact Le.refl _ | assumption), Keeps.mem⟩, ?_⟩
    refine to_p 10 rfl (by kernel_rfl) rfl (y_not rfl) ?_
    refine to_nil (by kernel_rfl) (.then_normal ?_)
    refine .sub (F' := [(0, _), (2, _), (3, _), (5, _), (6, _), (7, _), (8, _), (9, _), (24, _)]) (.cons rfl (.cons rfl (.cons rfl (.cons rfl (.cons rfl (.cons rfl (.cons rfl (.cons rfl (.cons rfl .nil))))))))) ?_
    refine x_condb rfl (fun hc2 => ?_) (fun hc2 => ?_)
    ·
      refine x_ret (.then_ret (.block_ret (.then_ret (.loop_ret (.block_ret (ret0 rfl (hM1.trans hM2) ⟨X2, inferInstance, by
        rcases hb with ⟨rfl, _⟩ | ⟨_, hb⟩
        · simp at hc2
        · exact .inr hb⟩))))))
    ·
      replace hb : Inv (k + 1) M2 X2 := by
        rcases hb with ⟨_, hb⟩ | ⟨rfl, hb⟩
        · exact hb
        · simp at hc2
      have hd := hM1.trans hM2
      have he : Le M2 M2 := Le.refl _
      obtain ⟨g3, o3, e3, hcell3⟩ := (hat.mono hd).addr (by omega)
      obtain ⟨rfl, rfl⟩ : g2 = g3 ∧ o2 = o3 := by simp at e3; omega
      refine x_skip (.then_normal ?_)
      refine x_draw 7 hmix rfl ?_
      refine to_y 0 rfl (by kernel_rfl) rfl (y_loadAgg rfl rfl (.own inferInstance inferInstance)) ?_
      refine to_y 1 rfl (by kernel_rfl) rfl (y_loadAgg rfl rfl (.own inferInstance inferInstance)) ?_
      refine to_y 2 rfl (by kernel_rfl) rfl (y_load rfl rfl (.own inferInstance inferInstance)) ?_
      refine to_p 3 rfl (by kernel_rfl) rfl (y_move (v := .int _ _) rfl) ?_
      refine to_p 4 rfl (by kernel_rfl) rfl (y_indexAddr rfl rfl (by omega)) ?_
      refine to_y 5 rfl (by kernel_rfl) rfl (y_load (v := .int .u32 ((q.toNat : Nat) : Int)) rfl rfl (by rw [hq]; exact .at_ (hcell3 _ k _ (u32r_get haq)) (by omega))) ?_
      refine to_e 6 rfl (by kernel_rfl) rfl (e_call rfl (below_spec (hg.mono hd) (l.getD k p0) (hb1.mono hM2) (hb2.mono hM2) q) (by
        rintro _ M3 _ hM3 ⟨rfl, hno, rfl⟩
        exact absurd hbel hno) ?_)
      rintro _ M3 _ hM3 ⟨rfl, y, z, rfl, h0', hy', hz'⟩
      rw [hq] at hy' hz'
      replace he := he.trans hM3
      refine ⟨⟨(by first | exact Le.refl _ | assumption), Keeps.mem⟩, ?_⟩
      refine to_t 7 rfl (by kernel_rfl) (by kernel_rfl) rfl (e_store rfl rfl (by rfl) (by rfl) inferInstance inferInstance inferInstance ?_)
      refine to_nil (by kernel_rfl) (.block_normal (.then_normal ?_))
      refine .sub (F' := [(0, _), (2, _), (3, _), (7, _), (8, _), (9, _)]) (.cons rfl (.cons rfl (.cons rfl (.cons rfl (.cons rfl (.cons rfl .nil)))))) ?_
      refine x_region ?_
      refine tl_y rfl (y_addI rfl rfl (by omega)) ?_
      refine tl_y rfl (y_move (v := .int _ _) rfl) ?_
      refine .dropTo ((x3, .cells (List.toArray [.slice (some ⟨g2, o2, none⟩) n d]) 50 (0, 0)) :: (x2, .cells (List.toArray (seedC y.a y.n y.c z.a z.n z.c)) 49 (0, 0)) :: (x1, .cells (List.toArray [.slice (some ⟨g, o, none⟩) n c]) 46 (0, 0)) :: X2) inferInstance ?_
      refine tl_nil (.loop_next (m' := n - (k + 1)) (by omega) (F' := [(0, _), (2, _), (3, _), (7, _), (8, _), (9, _)]) (.cons rfl (.cons rfl (.cons rfl (.cons rfl (.cons rfl (.cons rfl .nil)))))) ?_)
      exact ⟨k + 1, X2, _, _, _, _, _, _, rfl, by omega, hd.trans hM3, hy', hz', hmono _ _ _ _ hM3 hb, rfl, rfl, rfl⟩
  ·
    refine x_exit (.then_exit (.loop_exit (.block_exit (end0 rfl hM1 ⟨X1, inferInstance, .inl (by
      obtain rfl : k = n := by omega
      exact hI)⟩))))
theorem lsign_spec (hg : LmG M) (x : PairV) (hname : Bytes M NA nl nc name) (hsec : Bytes M SA sl_ sc sec) (q : UInt32) (htext : Bytes M TA tl tc text) (h0 : lsigE x nl sl_ q.toNat tl = 0) :
    Con Tryz.prog 121 #[.agg (List.toArray (levC x NA nl nc SA sl_ sc q.toNat)), .slice TA tl tc] G M L (fun v M' L' => L' = L ∧ ∃ A m c, v = .slice A m c ∧ Bytes M' A m c (lsigB x name sec q.toNat text)) noPanic := by
  refine enter (args := [_, _]) (fn := Tryz.f121) ⟨Tryz.func121, rfl, by kernel_rfl, by kernel_rfl⟩ 21 rfl ?_
  refine x_seq (x_region ?_)
  refine tl_e rfl (e_box rfl (fun b1 => ?_))
  refine tl_y rfl (y_assign rfl) ?_
  refine tl_nil (.then_normal ?_)
  refine x_seq (x_region ?_)
  refine tl_y rfl (y_fieldAddr rfl) ?_
  refine tl_y rfl (y_loadAgg rfl rfl (.own inferInstance inferInstance)) ?_
  refine tl_y rfl (y_fieldAddr rfl) ?_
  refine tl_y rfl (y_loadAgg rfl rfl (.own inferInstance inferInstance)) ?_
  refine tl_y rfl (y_fieldAddr rfl) ?_
  refine tl_y rfl (y_load rfl rfl (.own inferInstance inferInstance)) ?_
  refine tl_y rfl (y_move (v := .slice _ _ _) rfl) ?_
  refine tl_e rfl (e_call' rfl (Sign_lspec hg x hname hsec q htext) ?_)
  rintro _ M1 _ hM1 ⟨rfl, A1, m1, c1, rfl, hA1⟩
  rw [lsigV, if_pos h0] at hA1
  refine tl_y rfl (y_move (v := .tuple _) rfl) ?_
  refine tl_y rfl (y_extract rfl) ?_
  refine tl_y rfl (y_extract rfl) ?_
  refine tl_y rfl (y_assign (v := .slice _ _ _) rfl) ?_
  refine tl_y rfl (y_assign (v := .int _ _) rfl) ?_
  refine tl_nil (.then_normal ?_)
  refine .sub (F' := [(5, _), (6, _)]) (.cons rfl (.cons rfl .nil)) ?_
  refine x_seq (x_region ?_)
  refine tl_y rfl (y_move (v := .int _ _) rfl) ?_
  refine tl_e rfl (e_call rfl (hwell_spec _) (by
    rintro _ _ _ _ ⟨rfl, rfl, hne, rfl⟩
    exact absurd h0 hne) ?_)
  rintro _ _ _ _ ⟨rfl, rfl, _⟩
  refine tl_nil (.then_normal ?_)
  refine x_seq (x_region ?_)
  refine tl_y rfl (y_move (v := .slice _ _ _) rfl) ?_
  refine tl_y rfl (y_assign (v := .slice _ _ _) rfl) ?_
  refine tl_nil (.then_normal ?_)
  refine .sub (F' := [(4, _)]) (.cons rfl .nil) ?_
  refine x_ret (.dropTo L inferInstance (ret1 rfl rfl hM1 ⟨rfl, _, _, _, rfl, hA1⟩))
end
end Go.Proofs.YtiimjodbaogjbaaGreatDoor
