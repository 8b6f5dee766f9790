/-
Contracts of functions, each proved by a walk through its code.
-/
import Derived.Test.YtiimjodbaogjbaaGreatDoorRef13Etc
import Derived.Test.YtiimjodbaogjbaaGreatDoorOctEtc
import Derived.Test.YtiimjodbaogjbaaGreatDoorRef9Etc
import Derived.Test.YtiimjodbaogjbaaGreatDoorOncePureEtc
set_option linter.unusedVariables false
set_option linter.unusedSimpArgs false
set_option linter.constructorNameAsVariable false
namespace Go.Proofs.YtiimjodbaogjbaaGreatDoor
open Go Go.Eng
section
variable {G : World} {M : Mem} {L : Own} {NA SA TA : Option Addr} {nl nc sl_ sc tl tc : Nat} {name sec text : List UInt8}
theorem caughtHB1_ret {b c : Nat} {x : Int} {cs : List Value} : ConD Tryz.prog 169 #[.pointer (some ⟨b, 0, none⟩), .pointer (some ⟨c, 0, none⟩)] .returning G M ((c, .cells (List.toArray [.int .i64 x]) 38 (0, 0)) :: (b, .cells cs.toArray 35 (0, 0)) :: L) (fun u' M' L' => u' = .returning ∧ M' = M ∧ L' = (c, .cells (List.toArray [.int .i64 x]) 38 (0, 0)) :: (b, .cells cs.toArray 35 (0, 0)) :: L) := by
 refine enterRec (args := [_, _]) (fn := Tryz.f169) ⟨Tryz.func169, rfl, by kernel_rfl, by kernel_rfl⟩ 15 rfl rfl <| x_block <| zr <| tl_y rfl (y_eqNilIface rfl rfl) <| zq <| x_true rfl (rfl) <| x_region <| as0 rfl rfl <| tl_nil (.block_normal (.rec_normal (Le.refl _) ⟨rfl, rfl, rfl⟩))
theorem caughtHB1_wrong {b c : Nat} {x e : Int} : ConD Tryz.prog 169 #[.pointer (some ⟨b, 0, none⟩), .pointer (some ⟨c, 0, none⟩)] (.panicking (hwrong e)) G M ((c, .cells (List.toArray [.int .i64 x]) 38 (0, 0)) :: (b, .cells (List.toArray [.slice none 0 0]) 35 (0, 0)) :: L)
  (fun u' M' L' => u' = .panicking [{ v := hwrongv e, recovered := true }] ∧ M' = M ∧ L' = (c, .cells (List.toArray [.int .i64 e]) 38 (0, 0)) :: (b, .cells (List.toArray [.slice none 0 0]) 35 (0, 0)) :: L) := by
 refine enterRec (args := [_, _]) (fn := Tryz.f169) ⟨Tryz.func169, rfl, by kernel_rfl, by kernel_rfl⟩ 15 rfl rfl <| x_block <| zr <| tl_y rfl (y_eqIfaceNil rfl rfl) <| zq <| x_false rfl (rfl) <| zr <| tl_y rfl (y_assertOk rfl (by intro _ h; cases h)) <| zx rfl rfl <| zx rfl rfl ?_
 refine zq <| x_true rfl (rfl) <| zr <| tl_e rfl <| e_alloc <| fun b7 => tl_e rfl <| e_st rfl rfl (by rfl) (by rfl) <| zq <| .s3 0 1 3 rfl rfl rfl <| zr <| as0 rfl rfl <| zq ?_
 refine x_draw0 4 ((b7, .cells (List.toArray [.int .i64 e]) 164 (0, 0)) :: []) Keeps.mem hmix rfl <| zp 0 rfl rfl (y_move (v := .slice _ _ _) rfl) <| zp 1 rfl rfl (y_fieldAddr rfl) <| zy 2 rfl rfl (y_ld rfl rfl) <| ze 3 rfl rfl <| e_st rfl rfl (by rfl) (by rfl) <| ⟨⟨(by first | exact Le.refl _ | assumption), Keeps.mem⟩, ?_⟩
 refine zt 4 rfl rfl <| e_st rfl rfl (by rfl) (by rfl) <| zz (.block_normal (.dropTo ((c, .cells (List.toArray [.int .i64 e]) 38 (0, 0)) :: (b, .cells (List.toArray [.slice none 0 0]) 35 (0, 0)) :: L) inferInstance (.rec_normal (Le.refl _) ⟨rfl, rfl, rfl⟩)))
theorem caughtHB_spec {wf : FuncId} {first cap : List Value} {K : Option Addr → Nat → Nat → Mem → Prop} {Kp : Int → Prop}
  (hw : ∀ p q, Con Tryz.prog wf (first ++ [] ++ cap).toArray G M (p :: q :: L) (fun v M' L' => L' = p :: q :: L ∧ ∃ A n c, v = .slice A n c ∧ K A n c M') (fun ch M' L' => L' = p :: q :: L ∧ ∃ e, Kp e ∧ ch = hwrong e)) :
  Con Tryz.prog 112 #[.func (.func wf) first.toArray cap.toArray] G M L (fun v M' L' => L' = L ∧ ((∃ A n c, v = .tuple #[.slice A n c, .int .i64 0] ∧ K A n c M') ∨ (∃ e, v = .tuple #[.slice none 0 0, .int .i64 e] ∧ Kp e))) noPanic := by
 refine enterD (args := [_]) (fn := Tryz.f112) ⟨Tryz.func112, rfl, by kernel_rfl, by kernel_rfl⟩ 7 rfl <| zr <| tl_e rfl <| e_alloc <| fun b1 => tl_e rfl <| e_alloc <| fun b2 => zq <| zr <| tl_y rfl (y_makeFunc rfl rfl) <| tl_e rfl <| e_defer rfl rfl rfl <| zq <| zr ?_
 refine mvF rfl rfl <| tl_e rfl (e_callv rfl rfl (hw _ _) (by
  rintro _ M1 _ hM1 ⟨rfl, e, hr, rfl⟩
  refine .retD (cap := [_, _]) (args := []) caughtHB1_wrong ?_
  rintro _ M2 _ hM2 ⟨rfl, rfl, rfl⟩
  exact .inl ⟨rfl, _, L, rv2 rfl (rc_cell (by rfl) rfl (.own inferInstance inferInstance)) (rc_cell (by rfl) rfl (.own inferInstance inferInstance)), inferInstance, hM1, rfl, .inr ⟨e, rfl, hr⟩⟩) ?_)
 rintro _ M1 _ hM1 ⟨rfl, A, n, c, rfl, hk⟩
 refine tl_e rfl <| e_st rfl rfl (by rfl) (by rfl) <| tl_e rfl <| e_st rfl rfl (by rfl) (by rfl) <| zq <| .s2 2 3 rfl rfl <| x_ret <| .retD (cap := [_, _]) (args := []) (caughtHB1_ret (cs := [.slice A n c])) ?_
 rintro _ M2 _ hM2 ⟨rfl, rfl, rfl⟩
 exact .inl ⟨rfl, _, L, rv2 rfl (rc_cell (by rfl) rfl (.own inferInstance inferInstance)) (rc_cell (by rfl) rfl (.own inferInstance inferInstance)), inferInstance, hM1, rfl, .inl ⟨A, n, c, rfl, hk⟩⟩
theorem hwell_spec (e : Int) :
  Con Tryz.prog 170 #[.int .i64 e] G M L (fun v M' L' => M = M' ∧ L = L' ∧ e = 0) (fun ch M' L' => M = M' ∧ L = L' ∧ e ≠ 0 ∧ ch = hwrong e) := by
 refine enter (args := [_]) (fn := Tryz.f170) ⟨Tryz.func170, rfl, by kernel_rfl, by kernel_rfl⟩ 6 rfl <| x_region <| mvI rfl rfl <| tl_y rfl (y_eql rfl rfl) <| mvI rfl rfl <| tl_e rfl (e_call rfl (hmust_spec _ _) (by
  rintro _ _ _ _ ⟨rfl, rfl, ht, rfl⟩
  exact .retA rfl (Le.refl _) ⟨rfl, rfl, by simpa using ht, rfl⟩) ?_)
 rintro _ _ _ _ ⟨rfl, rfl, ht⟩
 refine tl_nil (end0 rfl (Le.refl _) ⟨rfl, rfl, by simpa using ht⟩)
def belNV (x : PairV) (nl sl : Nat) (name sec : List UInt8) (q : Nat) : List UInt8 := if belE x nl sl = 0 then belN x name sec q else []
def belSV (x : PairV) (nl sl : Nat) (name sec : List UInt8) (q : Nat) : List UInt8 := if belE x nl sl = 0 then belS x name sec q else []
theorem below_spec (hg : LmG M) (x : PairV) (hname : Bytes M NA nl nc name) (hsec : Bytes M SA sl_ sc sec) (q : UInt32) :
  Con Tryz.prog 79 #[.agg (List.toArray x.cells), .agg (List.toArray (seedC NA nl nc SA sl_ sc)), .int .u32 (q.toNat : Int)] G M L (fun v M' L' => L' = L ∧ ∃ y z : SlV, v = .agg (List.toArray [y.v, z.v]) ∧ belE x nl sl_ = 0 ∧ Bytes M' y.a y.n y.c (belN x name sec q.toNat) ∧ Bytes M' z.a z.n z.c (belS x name sec q.toNat)) (fun ch M' L' => L' = L ∧ belE x nl sl_ ≠ 0 ∧ ch = hwrong (belE x nl sl_)) := by
 refine enter (args := [_, _, _]) (fn := Tryz.f79) ⟨Tryz.func79, rfl, by kernel_rfl, by kernel_rfl⟩ 32 rfl <| zr <| tl_e rfl <| e_box rfl <| fun b1 => tl_e rfl <| e_box rfl <| fun b2 => tl_e rfl <| e_alloc <| fun b3 => zq <| zr <| tl_y rfl (y_lg rfl rfl) <| tl_e rfl <| e_call' rfl (lMay_spec hg.hs x) ?_
 rintro _ M1 _ hM1 ⟨rfl, rfl⟩
 have hd := hM1
 refine tl_e rfl (e_call rfl (hmust_spec _ _) (by
  rintro _ _ _ _ ⟨rfl, rfl, ht, rfl⟩
  have e : belE x nl sl_ = 4 := by rw [belE, if_pos (by simpa using ht)]
  exact TP.dropTo L inferInstance (.retA rfl hd ⟨rfl, by rw [e]; decide, by rw [e]⟩)) ?_)
 rintro _ _ _ _ ⟨rfl, rfl, ht⟩
 have hok : okP x := by simpa using ht
 obtain ⟨n, w, p, H, hx⟩ := okP_facts hok
 have hn32 := hx.o.n32
 refine zq <| .s4 2 3 4 6 rfl rfl rfl rfl <| zr <| tl_y rfl (y_fieldAddr rfl) <| tl_y rfl (y_ld rfl rfl) <| tl_e rfl <| e_call' rfl (Ots_spec (hg.mono hd).ch.set x.o) ?_
 rintro _ M2 _ hM2 ⟨rfl, rfl⟩
 replace hd := hd.trans hM2
 refine mvU rfl rfl <| zx rfl rfl <| zx rfl rfl <| tl_e rfl <| e_alloc <| fun b4 => tl_e rfl <| e_st rfl rfl (by rfl) (by rfl) <| asI rfl rfl <| zq <| .s4 2 4 6 7 rfl rfl rfl rfl <| zr <| tl_y rfl (y_lg rfl rfl) ?_
 refine tl_y rfl (y_lg rfl rfl) <| tl_e rfl <| e_call' rfl (oMay_spec (hg.mono hd).ch.set (otsV x.o)) ?_
 rintro _ M3 _ hM3 ⟨rfl, rfl⟩
 replace hd := hd.trans hM3
 refine tl_e rfl (e_call rfl (hmust_spec _ _) (by
  rintro _ _ _ _ ⟨rfl, rfl, ht, rfl⟩
  have e : belE x nl sl_ = 1 := by rw [belE, if_neg (fun h => h hok), if_pos (by simpa using ht)]
  exact TP.dropTo L inferInstance (.retA rfl hd ⟨rfl, by rw [e]; decide, by rw [e]⟩)) ?_)
 rintro _ _ _ _ ⟨rfl, rfl, ht⟩
 have hy : okY (otsV x.o) nl sl_ := by simpa using ht
 have he0 : belE x nl sl_ = 0 := by rw [belE, if_neg (fun h => h hok), if_neg (fun h => h hy)]
 have hll := hidB_len hx.o name sec q.toNat 65535
 refine zq <| .s4 2 4 6 7 rfl rfl rfl rfl <| x_seq ?_
 have he : Le M3 M3 := Le.refl _
 refine x_draw 10 hmix rfl <| zy 0 rfl rfl (y_lg rfl rfl) <| zy 1 rfl rfl (y_lg rfl rfl) <| zp 2 rfl rfl (y_move (v := .int _ _) rfl) <| zy 5 rfl rfl (y_lg rfl rfl) <| zy 6 rfl rfl (y_lg rfl rfl) <| zp 7 rfl rfl (y_move (v := .int _ _) rfl) <| ze 3 rfl rfl <| e_call' rfl (oSecret_spec (hg.mono hd).ch (otsV x.o) (hname.mono hd) (hsec.mono hd) q 65535 (by omega)) ?_
 rintro _ M4 _ hM4 ⟨rfl, A4, m4, c4, rfl, hA4⟩
 rw [if_pos hy] at hA4
 have hm4 := hA4.size
 have hc4 := hA4.le
 replace hd := hd.trans hM4
 replace he := he.trans hM4
 try replace hA5 := hA5.mono hM4
 refine ⟨⟨he, Keeps.mem⟩, ?_⟩
 refine zp 4 rfl rfl (y_slice3 rfl rfl rfl (by omega) (by omega)) <| ze 8 rfl rfl <| e_call' rfl (oSecret_spec (hg.mono hd).ch (otsV x.o) (hname.mono hd) (hsec.mono hd) q 65534 (by omega)) ?_
 rintro _ M5 _ hM5 ⟨rfl, A5, m5, c5, rfl, hA5⟩
 rw [if_pos hy] at hA5
 replace hd := hd.trans hM5
 replace he := he.trans hM5
 try replace hA4 := hA4.mono hM5
 refine ⟨⟨he, Keeps.mem⟩, ?_⟩
 refine zp 9 rfl rfl (y_build rfl) <| zt 10 rfl rfl <| e_st rfl rfl (by rfl) (by rfl) <| zz <| .then_normal <| .s1 6 rfl <| x_ret (retRV (L' := L) (rv1 rfl (rc_cellAgg (by rfl) rfl (.own inferInstance inferInstance))) inferInstance hd ⟨rfl, ⟨_, _, _⟩, ⟨_, _, _⟩, rfl, he0, Bytes.take3 hA4 16 16 (by omega) (Nat.le_refl _) (by omega), hA5⟩)
theorem hpublic_spec (hg : LmG M) (x : PairV) (hname : Bytes M NA nl nc name) (hsec : Bytes M SA sl_ sc sec) :
  Con Tryz.prog 116 #[.agg (List.toArray x.cells), .agg (List.toArray (seedC NA nl nc SA sl_ sc))] G M L (fun v M' L' => L' = L ∧ mayC x nl sl_ = 0 ∧ ∃ A m c, v = .slice A m c ∧ Bytes M' A m c (pubB x name sec)) (fun ch M' L' => L' = L ∧ mayC x nl sl_ ≠ 0 ∧ ch = hwrong (mayC x nl sl_)) := by
 refine enter (args := [_, _]) (fn := Tryz.f116) ⟨Tryz.func116, rfl, by kernel_rfl, by kernel_rfl⟩ 16 rfl <| zr <| tl_e rfl <| e_box rfl <| fun b1 => tl_e rfl <| e_box rfl <| fun b2 => as0 rfl rfl <| zq <| zr <| tl_y rfl (y_lg rfl rfl) <| tl_y rfl (y_lg rfl rfl) <| tl_e rfl <| e_call' rfl (Public_lspec hg x hname hsec) ?_
 rintro _ M1 _ hM1 ⟨rfl, A1, m1, c1, rfl, hA1⟩
 refine mvU rfl rfl <| zx rfl rfl <| zx rfl rfl <| asS rfl rfl <| asI rfl rfl <| zq <| .s2 5 6 rfl rfl <| zr <| mvI rfl rfl <| tl_e rfl (e_call rfl (hwell_spec _) (by
  rintro _ _ _ _ ⟨rfl, rfl, hne, rfl⟩
  exact TP.dropTo L inferInstance (.retA rfl hM1 ⟨rfl, hne, rfl⟩)) ?_)
 rintro _ _ _ _ ⟨rfl, rfl, h0⟩
 rw [pubV, if_pos h0] at hA1
 refine zq <| zr <| mvS rfl rfl <| asS rfl rfl <| zq <| .s1 4 rfl <| x_ret (.dropTo L inferInstance (ret1 rfl rfl hM1 ⟨rfl, h0, _, _, _, rfl, hA1⟩))
theorem makes_spec (hg : LmG M) {A : Option Addr} {n c : Nat} {l : List PairV} (h : Row M 2 A n c (prow l)) :
    Con Tryz.prog 114 #[.slice A n c, .agg (List.toArray (seedC NA nl nc SA sl_ sc))] G M L (fun v M' L' => L' = L ∧ canE l nl sl_ = 0) (fun ch M' L' => L' = L ∧ canE l nl sl_ ≠ 0 ∧ ch = hwrong (canE l nl sl_)) := by
  have hmx := h.max
  have hle := h.le
  have hln : l.length = n := by have := h.len; rw [prow, flat_len pcl] at this; omega
  refine enter (args := [_, _]) (fn := Tryz.f114) ⟨Tryz.func114, rfl, by kernel_rfl, by kernel_rfl⟩ 37 rfl <| zr <| tl_e rfl <| e_box rfl <| fun b1 => zq <| zr <| mvS rfl rfl <| tl_e rfl (e_call rfl (trees_spec hg.hs h) (by
    rintro _ M1 _ hM1 ⟨rfl, hno, rfl⟩
    have e : canE l nl sl_ = 4 := by rw [canE, if_pos hno]
    exact TP.dropTo L inferInstance (.retA rfl hM1 ⟨rfl, by rw [e]; decide, by rw [e]⟩)) ?_)
  rintro _ M1 _ hM1 ⟨rfl, hok, AT, cT, rfl, hrow⟩
  have hn8 := hok.1.2
  refine asS rfl rfl <| zq <| zr <| mvS rfl rfl <| tl_y rfl (y_len rfl) <| mv0 rfl rfl <| zq <| .s5 0 3 11 12 13 rfl rfl rfl rfl rfl <| x_block ?_
  refine x_loop (I := fun m' F D M2 L2 => ∃ (k : Nat), m' = n - k ∧ k ≤ n ∧ Le M1 M2 ∧ (∀ p ∈ l.take k, (tv p).h ≤ 10 ∧ okY (otsV p.o) nl sl_) ∧ D = [] ∧ L2 = (b1, .cells (List.toArray (seedC NA nl nc SA sl_ sc)) 49 (0, 0)) :: L ∧ F = [(0, .slice A n c), (3, .pointer (some ⟨b1, 0, none⟩)), (11, .slice AT n cT), (12, .int .i64 n), (13, .int .i64 k)]) (n) (F0 := [(0, _), (3, _), (11, _), (12, _), (13, _)]) ?_ (.cons rfl (.cons rfl (.cons rfl (.cons rfl (.cons rfl .nil))))) ?_  -- slots [0, 3, 11, 12, 13], written [13]
  · exact ⟨0, rfl, by omega, Le.refl _, fun p hp => by simp at hp, rfl, rfl, rfl⟩
  rintro m _ _ M2 _ ⟨k, rfl, hk, hM2, hgd, rfl, rfl, rfl⟩
  refine zr <| tl_y rfl (y_lss rfl rfl) <| zq <| x_seq <| x_cond rfl (fun hc1 => ?_) (fun hc1 => ?_)
  ·
    have hkn : k < n := by omega
    obtain ⟨p, hp⟩ : ∃ p, l[k]? = some p := ⟨_, List.getElem?_eq_getElem (by omega)⟩
    have hmem : p ∈ l := List.mem_of_getElem? hp
    have htk : l.take (k + 1) = l.take k ++ [p] := by
      rw [List.take_add_one, hp]; rfl
    have hpt : (l.map tv)[k]? = some (tv p) := by rw [List.getElem?_map, hp]; rfl
    have hd := hM1.trans hM2
    obtain ⟨g, o, rfl, hcell⟩ := (hrow.mono hM2).cellsN (by omega)
    have hc2 := fun L => hcell L (k * 4) 4 (by rw [trow, flat_len tcl, List.length_map]; omega)
    simp only [trow, flat_take tcl _ k _ hpt] at hc2
    obtain ⟨g2, o2, rfl, hcell2⟩ := (h.mono hd).addr (by omega)
    have hv0 := fun L => hcell2 L (k * 2 + 0) (.int .u32 (p.o.toNat : Int)) (by rw [prow, flat_get pcl _ k p hp 0 (by omega)]; rfl)
    refine x_skip <| .then_normal <| x_seq <| x_block <| zr <| mvI rfl rfl <| tl_y rfl (y_indexAddr rfl rfl (by omega)) <| tl_y rfl (y_loadAgg rfl rfl (.at_ (hc2 _) (by omega))) <| tl_e rfl <| e_alloc <| fun b2 => asI rfl rfl <| tl_e rfl <| e_st rfl rfl (by rfl) (by rfl) ?_
    refine zq <| .s7 0 3 5 6 11 12 13 rfl rfl rfl rfl rfl rfl rfl <| zr <| mvS rfl rfl <| mvI rfl rfl <| tl_y rfl (y_indexAddr rfl rfl (by omega)) <| tl_y rfl (y_fieldAddr rfl) <| tl_y rfl (y_load rfl rfl (.at_ (hv0 _) (by omega))) <| tl_e rfl <| e_call' rfl (Ots_spec (hg.mono hd).ch.set p.o) ?_
    rintro _ M3 _ hM3 ⟨rfl, rfl⟩
    replace hd := hd.trans hM3
    refine mvU rfl rfl <| zx rfl rfl <| zx rfl rfl <| tl_e rfl <| e_alloc <| fun b3 => tl_e rfl <| e_st rfl rfl (by rfl) (by rfl) <| asI rfl rfl <| zq <| .s7 0 3 6 7 11 12 13 rfl rfl rfl rfl rfl rfl rfl <| x_region <| tl_y rfl (y_fieldAddr rfl) ?_
    refine tl_y rfl (y_ld rfl rfl) <| tl_y rfl (y_leq rfl rfl) <| mvB rfl rfl <| tl_cases (s := 30) rfl (fun hk1 => ?_) (fun hk1 => ?_)
    ·
      refine tl_y rfl (y_lg rfl rfl) <| tl_y rfl (y_lg rfl rfl) <| tl_e rfl <| e_call' rfl (oMay_spec (hg.mono hd).ch.set (otsV p.o)) ?_
      rintro _ M4 _ hM4 ⟨rfl, rfl⟩
      replace hd := hd.trans hM4
      refine tl_y rfl (y_pickT rfl rfl) <| tl_e rfl (e_call rfl (hmust_spec _ _) (by
        rintro _ _ _ _ ⟨rfl, rfl, ht, rfl⟩
        have e : canE l nl sl_ = 1 := by rw [canE, if_neg (fun h => h hok), if_pos (fun h => by have := (h p hmem).2; simp [this] at ht)]
        exact TP.dropTo L inferInstance (.retA rfl hd ⟨rfl, by rw [e]; decide, by rw [e]⟩)) ?_)
      rintro _ _ _ _ ⟨rfl, rfl, ht⟩
      refine tl_nil <| .block_normal <| .then_normal <| .s5 0 3 11 12 13 rfl rfl rfl rfl rfl <| x_region <| tl_y rfl (y_addI rfl rfl (by omega)) <| mvI rfl rfl <| .dropTo ((b1, .cells (List.toArray (seedC NA nl nc SA sl_ sc)) 49 (0, 0)) :: L) inferInstance <| tl_nil <| .loop_next (m' := n - (k + 1)) (by omega) (F' := [(0, _), (3, _), (11, _), (12, _), (13, _)]) (.cons rfl (.cons rfl (.cons rfl (.cons rfl (.cons rfl .nil))))) ?_
      exact ⟨k + 1, rfl, by omega, hM2.trans (hM3.trans hM4), fun p' hp' => by
        rw [htk, List.mem_append, List.mem_singleton] at hp'
        rcases hp' with hp' | rfl
        · exact hgd p' hp'
        · exact ⟨hk1, by simpa using ht⟩, rfl, rfl, rfl⟩
    ·
      refine tl_skip rfl <| tl_skip rfl <| tl_skip rfl <| tl_y rfl (y_pickF rfl rfl) <| tl_e rfl (e_call rfl (hmust_spec _ _) (by
        rintro _ _ _ _ ⟨rfl, rfl, ht, rfl⟩
        have e : canE l nl sl_ = 1 := by rw [canE, if_neg (fun h => h hok), if_pos (fun h => hk1 (h p hmem).1)]
        exact TP.dropTo L inferInstance (.retA rfl hd ⟨rfl, by rw [e]; decide, by rw [e]⟩)) ?_)
      rintro _ _ _ _ ⟨rfl, rfl, ht⟩
      refine tl_nil <| .block_normal <| .then_normal <| .s5 0 3 11 12 13 rfl rfl rfl rfl rfl <| x_region <| tl_y rfl (y_addI rfl rfl (by omega)) <| mvI rfl rfl <| tl_nil <| .loop_next (m' := n - (k + 1)) (by omega) (F' := [(0, _), (3, _), (11, _), (12, _), (13, _)]) (.cons rfl (.cons rfl (.cons rfl (.cons rfl (.cons rfl .nil))))) ?_
      exact absurd ht (by simp)
  ·
    obtain rfl : k = n := by omega
    rw [List.take_of_length_le (by omega)] at hgd
    refine x_exit (.then_exit (.loop_exit (.block_exit (.dropTo L inferInstance (end0 rfl (hM1.trans hM2) ⟨rfl, canE_ok hok hgd⟩)))))
theorem Public1_hspec (hg : LmG M) {A : Option Addr} {n c : Nat} {l : List PairV} (h : Row M 2 A n c (prow l)) (hname : Bytes M NA nl nc name) (hsec : Bytes M SA sl_ sc sec) {bl bs : Nat}
  [i1 : Has L bl (.cells (List.toArray [.slice A n c]) 46 (0, 0))] [i2 : Has L bs (.cells (List.toArray (seedC NA nl nc SA sl_ sc)) 49 (0, 0))] :
  Con Tryz.prog 113 #[.pointer (some ⟨bl, 0, none⟩), .pointer (some ⟨bs, 0, none⟩)] G M L (fun v M' L' => L' = L ∧ ∃ A m c, v = .slice A m c ∧ canE l nl sl_ = 0 ∧ Bytes M' A m c (hpubB l name sec)) (fun ch M' L' => L' = L ∧ ∃ e, (canE l nl sl_ ≠ 0 ∧ e = canE l nl sl_) ∧ ch = hwrong e) := by
 have hln : l.length = n := by have := h.len; rw [prow, flat_len pcl] at this; omega
 have hns := hname.size
 have hss := hsec.size
 refine enter (args := [_, _]) (fn := Tryz.f113) ⟨Tryz.func113, rfl, by kernel_rfl, by kernel_rfl⟩ 17 rfl <| zr <| as0 rfl rfl <| zq <| zr <| tl_y rfl (y_ld rfl rfl) <| tl_y rfl (y_lg rfl rfl) <| tl_e rfl (e_call rfl (makes_spec hg h) (by
  rintro _ M1 _ hM1 ⟨rfl, hno, rfl⟩
  exact .retA rfl hM1 ⟨rfl, _, ⟨hno, rfl⟩, rfl⟩) ?_)
 rintro _ M1 L hM1 ⟨rfl, h0⟩
 have hd : Le M M1 := hM1
 obtain ⟨hok, hcan⟩ := canE_zero h0
 have hn8 := hok.1
 obtain ⟨hp0, hm0, he0, _⟩ := okL_get hok (i := 0) (by omega)
 have hmay : mayC (l.getD 0 p0) nl sl_ = 0 := by
  have := (seedR_may hok hcan [] hns hss (i := 0) (j := 0) (by omega) (by omega)).2
  rw [seedR, hns, hss] at this
  exact this
 obtain ⟨n', w', p', H', hx⟩ := okP_facts hp0
 have hn32 := hx.o.n32
 have hn16 : name.length = 16 := by rw [hns]; exact (hcan _ hm0).2.2.1
 obtain ⟨pp1, _, _, _, _⟩ := pub_parts hx hn16 sec
 obtain ⟨g, o, rfl, hcell⟩ := (h.mono hd).cellsN (by omega)
 have hc2 := fun L => hcell L (0 * 2) 2 (by rw [prow, flat_len pcl]; omega)
 simp only [prow, flat_take pcl l 0 _ he0] at hc2
 refine zq <| .s2 0 1 rfl rfl <| x_seq ?_
 have he : Le M1 M1 := Le.refl _
 refine x_draw 12 hmix rfl <| zy 0 rfl rfl (y_ld rfl rfl) <| zp 1 rfl rfl (y_len rfl) <| zp 2 rfl rfl (y_convN64 rfl (by omega)) <| zy 4 rfl rfl (y_ld rfl rfl) <| zp 5 rfl rfl (y_indexAddr rfl rfl (by omega)) <| zy 6 rfl rfl (y_loadAgg rfl rfl (.at_ (hc2 _) (by omega))) <| zy 7 rfl rfl (y_lg rfl rfl) <| ze 3 rfl rfl <| e_call' rfl (PutV_spec n 4 (by omega) (by omega)) ?_
 rintro _ M2 _ hM2 ⟨rfl, A2, c2, rfl, hA2⟩
 replace hd := hd.trans hM2
 replace he := he.trans hM2
 try replace hA3 := hA3.mono hM2
 refine ⟨⟨he, Keeps.mem⟩, ?_⟩
 refine to_e 8 rfl (by kernel_rfl) rfl (e_call rfl (hpublic_spec (hg.mono hd) (l.getD 0 p0) (hname.mono hd) (hsec.mono hd)) (by
  rintro _ M3 _ hM3 ⟨rfl, hno, rfl⟩
  exact absurd hmay hno) ?_)
 rintro _ M3 L hM3 ⟨rfl, _, A3, m3, c3, rfl, hA3⟩
 replace hd := hd.trans hM3
 replace he := he.trans hM3
 try replace hA2 := hA2.mono hM3
 refine ⟨⟨he, Keeps.mem⟩, ?_⟩
 refine ze 9 rfl rfl <| e_buildSlice rfl (by decide) <| fun b7 => ⟨⟨he, Keeps.mem⟩, ?_⟩
 refine .pub b7 inferInstance <| fun M6 hM6 hb7 => ?_
 have hd6 := hd.trans hM6
 have he6 := he.trans hM6
 have hfl : [putB n 4, pubB (l.getD 0 p0) name sec].flatten = hpubB l name sec := by simp [hpubB, hln]
 have hfll : (hpubB l name sec).length ≤ 100 := by rw [hpubB, List.length_append, putB_length, pp1]; omega
 refine ze 10 rfl rfl <| e_call' rfl (Cat_spec (Row.whole hb7 rfl (by omega)) (.cons (hA2.mono hM6) (.cons (hA3.mono hM6) .nil)) (by rw [hfl]; omega)) ?_
 rintro _ M7 _ hM7 ⟨rfl, A7, c7, rfl, hA7⟩
 rw [hfl] at hA7
 rw [hfl]
 replace hd6 := hd6.trans hM7
 replace he6 := he6.trans hM7
 refine ⟨⟨he6, Keeps.mem⟩, ?_⟩
 refine zp 11 rfl rfl (y_assign (v := .slice _ _ _) rfl) <| zz <| .then_normal <| .s1 2 rfl <| x_ret (.dropTo L inferInstance (ret1 rfl rfl hd6 ⟨rfl, _, _, _, rfl, h0, hA7⟩))
theorem Public_hspec (hg : LmG M) {A : Option Addr} {n c : Nat} {l : List PairV} (h : Row M 2 A n c (prow l)) (hname : Bytes M NA nl nc name) (hsec : Bytes M SA sl_ sc sec) :
    Con Tryz.prog 50 #[.slice A n c, .agg (List.toArray (seedC NA nl nc SA sl_ sc))] G M L (fun v M' L' => L' = L ∧ ∃ A m c, v = .tuple #[.slice A m c, .int .i64 (canE l nl sl_)] ∧ Bytes M' A m c (hpubV l nl sl_ name sec)) noPanic := by
  refine enter (args := [_, _]) (fn := Tryz.f50) ⟨Tryz.func50, rfl, by kernel_rfl, by kernel_rfl⟩ 10 rfl <| zr <| tl_e rfl <| e_box rfl <| fun b1 => tl_e rfl <| e_box rfl <| fun b2 => as0 rfl rfl <| as0 rfl rfl <| zq <| .s2 2 3 rfl rfl <| zr <| tl_y rfl (y_makeFunc rfl rfl) ?_
  refine tl_e rfl <| e_call' rfl (caughtHB_spec (K := fun A m c M' => canE l nl sl_ = 0 ∧ Bytes M' A m c (hpubB l name sec)) (Kp := fun e => canE l nl sl_ ≠ 0 ∧ e = canE l nl sl_) (first := []) (cap := [.pointer (some ⟨b1, 0, none⟩), .pointer (some ⟨b2, 0, none⟩)]) (fun p' q' => Public1_hspec hg h hname hsec)) ?_
  rintro v M1 _ hM1 ⟨rfl, hv⟩
  obtain ⟨A2, m2, c2, rfl, hA⟩ : ∃ A m c, v = .tuple #[.slice A m c, .int .i64 (canE l nl sl_)] ∧ Bytes M1 A m c (hpubV l nl sl_ name sec) := by
    rcases hv with ⟨A, m, c, rfl, h0, hb⟩ | ⟨e, rfl, hno, rfl⟩
    · exact ⟨A, m, c, by rw [h0], by rw [hpubV, if_pos h0]; exact hb⟩
    · exact ⟨none, 0, 0, rfl, by rw [hpubV, if_neg hno]; exact Row.nil _ _⟩
  refine zx rfl rfl <| zx rfl rfl <| asS rfl rfl <| asI rfl rfl <| zq <| .s2 4 5 rfl rfl <| x_ret (.dropTo L inferInstance (ret2 rfl rfl rfl hM1 ⟨rfl, _, _, _, rfl, hA⟩))
end
end Go.Proofs.YtiimjodbaogjbaaGreatDoor
set_option linter.unusedVariables false
set_option linter.unusedSimpArgs false
set_option linter.constructorNameAsVariable false
namespace Go.Proofs.YtiimjodbaogjbaaGreatDoor
open Go Go.Eng
inductive PtRows (M : Mem) : List Value → List PartB → Prop
 | nil : PtRows M [] []
 | cons {x : PartB} {KA SA NA : Option Addr} {kl kc sl_ sc nl nc : Nat} {vs : List Value} {ps : List PartB} : Bytes M KA kl kc x.key → Bytes M SA sl_ sc x.sig → Bytes M NA nl nc x.next → (x.next = [] → NA = none) → PtRows M vs ps → PtRows M (.slice KA kl kc :: .slice SA sl_ sc :: .slice NA nl nc :: vs) (x :: ps)
theorem PtRows.mono {M M' : Mem} (hle : Le M M') {vs : List Value} {ps : List PartB} (h : PtRows M vs ps) : PtRows M' vs ps := by
 induction h with
 | nil => exact .nil
 | cons h1 h2 h3 h4 _ ih => exact .cons (h1.mono hle) (h2.mono hle) (h3.mono hle) h4 ih
theorem PtRows.len {M : Mem} {vs : List Value} {ps : List PartB} (h : PtRows M vs ps) : vs.length = ps.length * 3 := by
 induction h with
 | nil => rfl
 | cons _ _ _ _ _ ih => simp only [List.length_cons, ih]; omega
theorem PtRows.snoc {M : Mem} {vs : List Value} {ps : List PartB} (h : PtRows M vs ps) {x : PartB} {KA SA NA : Option Addr} {kl kc sl_ sc nl nc : Nat} (h1 : Bytes M KA kl kc x.key) (h2 : Bytes M SA sl_ sc x.sig) (h3 : Bytes M NA nl nc x.next) (h4 : x.next = [] → NA = none) :
  PtRows M (vs ++ [.slice KA kl kc, .slice SA sl_ sc, .slice NA nl nc]) (ps ++ [x]) := by
 induction h with
 | nil => exact .cons h1 h2 h3 h4 .nil
 | cons a1 a2 a3 a4 _ ih => exact .cons a1 a2 a3 a4 ih
theorem PtRows.get {M : Mem} {vs : List Value} {ps : List PartB} (h : PtRows M vs ps) : ∀ i x, ps[i]? = some x → ∃ KA SA NA kl kc sl_ sc nl nc, (vs.drop (i * 3)).take 3 = [.slice KA kl kc, .slice SA sl_ sc, .slice NA nl nc] ∧ Bytes M KA kl kc x.key ∧ Bytes M SA sl_ sc x.sig ∧ Bytes M NA nl nc x.next ∧ (x.next = [] → NA = none) := by
 induction h with
 | nil => intro i x hi; simp at hi
 | @cons y KA SA NA kl kc sl_ sc nl nc vs ps h1 h2 h3 h4 _ ih =>
  intro i x hi
  cases i with
  | zero =>
   obtain rfl : y = x := by simpa using hi
   exact ⟨KA, SA, NA, kl, kc, sl_, sc, nl, nc, rfl, h1, h2, h3, h4⟩
  | succ i =>
   have := ih i x (by simpa using hi)
   rwa [show (i + 1) * 3 = i * 3 + 3 by omega]
section
variable {G : World} {M : Mem} {L : Own} {A : Option Addr} {m c : Nat} {bs : List UInt8}
end
end Go.Proofs.YtiimjodbaogjbaaGreatDoor
set_option linter.unusedVariables false
set_option linter.unusedSimpArgs false
set_option linter.constructorNameAsVariable false
namespace Go.Proofs.YtiimjodbaogjbaaGreatDoor
open Go Go.Eng
section
variable {G : World} {M : Mem} {L : Own} {PA TA A : Option Addr} {pl pc tl tc m c : Nat} {pub text sig : List UInt8}
abbrev bx (b : Nat) (A : Option Addr) (m c : Nat) : Nat × Obj := (b, .cells (List.toArray [.slice A m c]) 35 (0, 0))
end
end Go.Proofs.YtiimjodbaogjbaaGreatDoor
set_option linter.unusedVariables false
set_option linter.unusedSimpArgs false
set_option linter.constructorNameAsVariable false
namespace Go.Proofs.YtiimjodbaogjbaaGreatDoor
open Go Go.Eng
def hfit (pub text sig : List UInt8) : Prop := (readP pub sig).1 = 0 ∧ ∀ x ∈ (readP pub sig).2, partF text x
instance {pub text sig : List UInt8} : Decidable (hfit pub text sig) := inferInstanceAs (Decidable (_ ∧ _))
section
variable {G : World} {M : Mem} {L : Own} {PA TA A : Option Addr} {pl pc tl tc m c : Nat} {pub text sig : List UInt8}
end
end Go.Proofs.YtiimjodbaogjbaaGreatDoor
set_option linter.unusedVariables false
set_option linter.unusedSimpArgs false
set_option linter.constructorNameAsVariable false
namespace Go.Proofs.YtiimjodbaogjbaaGreatDoor
open Go Go.Eng
theorem seedR_bel {l : List PairV} {nl sl : Nat} (hok : okL l) (hc : canB l nl sl) (at_ : List Nat) {name sec : List UInt8} (hn : name.length = nl) (hs : sec.length = sl) {i : Nat} (hi : i < l.length) :
  belE (l.getD i p0) (seedR l at_ name sec i).1.length (seedR l at_ name sec i).2.length = 0 := by
 obtain ⟨h1, h2, h3, h4⟩ := okL_get hok hi
 have h5 := (seedR_may hok hc at_ hn hs (i := i) (j := i) (by omega) hi).1
 rw [belE, if_neg (fun h => h h1), if_neg (fun h => h h5)]
abbrev levC (p : PairV) (NA : Option Addr) (nl nc : Nat) (SA : Option Addr) (sl sc : Nat) (q : Nat) : List Value := [.int .u32 (p.o.toNat : Int), .int .u32 (p.t.toNat : Int), .slice NA nl nc, .slice SA sl sc, .int .u32 (q : Int)]
section
variable {G : World} {M : Mem} {L : Own} {NA SA TA : Option Addr} {nl nc sl_ sc tl tc : Nat} {name sec text : List UInt8}
theorem levels_spec {A B : Option Addr} {n c m d : Nat} :
  Con Tryz.prog 120 #[.slice A n c, .agg (List.toArray (seedC NA nl nc SA sl_ sc)), .slice B m d] G M L (fun v M' L' => M = M' ∧ ∃ x1 x2 x3, L' = (x3, .cells (List.toArray [.slice B m d]) 50 (0, 0)) :: (x2, .cells (List.toArray (seedC NA nl nc SA sl_ sc)) 49 (0, 0)) :: (x1, .cells (List.toArray [.slice A n c]) 46 (0, 0)) :: L ∧ v = .func (.func 171) (List.toArray []) (List.toArray [.pointer (some ⟨x1, 0, none⟩), .pointer (some ⟨x2, 0, none⟩), .pointer (some ⟨x3, 0, none⟩)])) noPanic := by
 refine enter (args := [_, _, _]) (fn := Tryz.f120) ⟨Tryz.func120, rfl, by kernel_rfl, by kernel_rfl⟩ 8 rfl <| zr <| tl_e rfl <| e_box rfl <| fun b1 => tl_e rfl <| e_box rfl <| fun b2 => tl_e rfl <| e_box rfl <| fun b3 => as0 rfl rfl <| zq <| .s3 3 4 5 rfl rfl rfl <| zr <| tl_y rfl (y_makeFunc rfl rfl) ?_
 refine asF rfl rfl <| zq <| .s1 6 rfl <| x_ret (ret1 rfl rfl (Le.refl _) ⟨rfl, b1, b2, b3, rfl, rfl⟩)
theorem levels1_spec (hg : LmG M) {l0 x1 x2 x3 : Nat} {A B : Option Addr} {n c d : Nat} {l : List PairV} (h : Row M 2 A n c (prow l)) {at_ : List Nat} (hat : Row M 1 B n d (u32r at_)) (hlt : ∀ k, k < n → at_.getD k 0 < 4294967296) (hok : okL l) (hcan : canB l nl sl_) (hname : Bytes M NA nl nc name) (hsec : Bytes M SA sl_ sc sec) {X0 : Own} {Inv : Nat → Mem → Own → Prop} {Dn : Mem → Own → Prop} (hmono : ∀ k M1 M2 X, Le M1 M2 → Inv k M1 X → Inv k M2 X)
    (hy : ∀ k M1 X1 A1 n1 c1 A2 n2 c2, k < n → Bytes M1 A1 n1 c1 (seedR l at_ name sec k).1 → Bytes M1 A2 n2 c2 (seedR l at_ name sec k).2 → Le M M1 → Inv k M1 X1 → YCon Tryz.prog l0 [.int .i64 (k : Nat), .agg (List.toArray (levC (l.getD k p0) A1 n1 c1 A2 n2 c2 (at_.getD k 0)))] G M1 X1 (Inv (k + 1)) Dn) (h0 : Inv 0 M X0) :
    Con Tryz.prog 171 #[.func (.yield l0) (List.toArray []) (List.toArray []), .pointer (some ⟨x1, 0, none⟩), .pointer (some ⟨x2, 0, none⟩), .pointer (some ⟨x3, 0, none⟩)] G M ((x3, .cells (List.toArray [.slice B n d]) 50 (0, 0)) :: (x2, .cells (List.toArray (seedC NA nl nc SA sl_ sc)) 49 (0, 0)) :: (x1, .cells (List.toArray [.slice A n c]) 46 (0, 0)) :: X0)
      (fun v M' L' => ∃ X', DropTo L' X' ∧ (Inv n M' X' ∨ Dn M' X')) noPanic := by
  have hmx := h.max
  have hle := h.le
  have hln : l.length = n := by have := h.len; rw [prow, flat_len pcl] at this; omega
  have hal : at_.length = n := by have := hat.len; simp [u32r] at this; omega
  have hnl := hname.size
  have hsl := hsec.size
  have hn8 := hok.1.2
  refine enter (args := [_, _, _, _]) (fn := Tryz.f171) ⟨Tryz.func171, rfl, by kernel_rfl, by kernel_rfl⟩ 33 rfl <| zr <| tl_y rfl (y_ld rfl rfl) <| tl_y rfl (y_len rfl) <| mv0 rfl rfl <| zq <| x_block ?_
  refine x_loop (I := fun m' F D M1 L1 => ∃ (k : Nat) (X1 : Own) (A1 : Option Addr) (n1 c1 : Nat) (A2 : Option Addr) (n2 c2 : Nat), m' = n - k ∧ k ≤ n ∧ Le M M1 ∧ Bytes M1 A1 n1 c1 (seedR l at_ name sec k).1 ∧ Bytes M1 A2 n2 c2 (seedR l at_ name sec k).2 ∧ Inv k M1 X1 ∧ D = [] ∧ L1 = (x3, .cells (List.toArray [.slice B n d]) 50 (0, 0)) :: (x2, .cells (List.toArray (seedC A1 n1 c1 A2 n2 c2)) 49 (0, 0)) :: (x1, .cells (List.toArray [.slice A n c]) 46 (0, 0)) :: X1 ∧ F = [(0, .func (.yield l0) (List.toArray []) (List.toArray [])), (2, .pointer (some ⟨x2, 0, none⟩)), (3, .pointer (some ⟨x3, 0, none⟩)), (7, .slice A n c), (8, .int .i64 n), (9, .int .i64 k)]) (n) (F0 := [(0, _), (2, _), (3, _), (7, _), (8, _), (9, _)]) ?_ (.cons rfl (.cons rfl (.cons rfl (.cons rfl (.cons rfl (.cons rfl .nil)))))) ?_  -- slots [0, 2, 3, 7, 8, 9], written [9]
  · exact ⟨0, X0, _, _, _, _, _, _, rfl, by omega, Le.refl _, hname, hsec, h0, rfl, rfl, rfl⟩
  rintro m _ _ M1 L1 ⟨k, X1, A1, n1, c1, A2, n2, c2, rfl, hk, hM1, hb1, hb2, hI, rfl, rfl, rfl⟩
  refine zr <| tl_y rfl (y_lss rfl rfl) <| zq <| x_seq <| x_cond rfl (fun hc1 => ?_) (fun hc1 => ?_)
  ·
    have hkn : k < n := by omega
    have hs1 := hb1.size
    have hs2 := hb2.size
    have hp : l[k]? = some (l.getD k p0) := (okL_get hok (i := k) (by omega)).2.2.1
    have hbel := seedR_bel hok hcan at_ hnl hsl (i := k) (by omega)
    rw [hs1, hs2] at hbel
    have haq : at_[k]? = some (at_.getD k 0) := by rw [List.getD_eq_getElem?_getD, List.getElem?_eq_getElem (by omega)]; rfl
    obtain ⟨q, hq⟩ : ∃ q : UInt32, q.toNat = at_.getD k 0 := ⟨UInt32.ofNat (at_.getD k 0), by rw [UInt32.toNat_ofNat', Nat.mod_eq_of_lt (by have := hlt k hkn; omega)]⟩
    obtain ⟨g, o, rfl, hcell⟩ := (h.mono hM1).cellsN (by omega)
    have hc2 := fun L => hcell L (k * 2) 2 (by rw [prow, flat_len pcl]; omega)
    simp only [prow, flat_take pcl l k _ hp] at hc2
    obtain ⟨g2, o2, rfl, hcell2⟩ := (hat.mono hM1).addr (by omega)
    refine x_skip <| .then_normal <| x_seq <| x_block <| zr <| mvI rfl rfl <| tl_y rfl (y_indexAddr rfl rfl (by omega)) <| tl_y rfl (y_loadAgg rfl rfl (.at_ (hc2 _) (by omega))) <| tl_e rfl <| e_alloc <| fun b1 => asI rfl rfl <| tl_e rfl <| e_st rfl rfl (by rfl) (by rfl) ?_
    refine zq <| .s8 0 2 3 5 6 7 8 9 rfl rfl rfl rfl rfl rfl rfl rfl <| x_seq <| x_seq <| x_draw0 11 ([(b1, .cells (List.toArray (l.getD k p0).cells) 24 (0, 0)), (x3, .cells (List.toArray [.slice (some ⟨g2, o2, none⟩) n d]) 50 (0, 0)), (x2, .cells (List.toArray (seedC A1 n1 c1 A2 n2 c2)) 49 (0, 0))]) Keeps.mem hmix rfl <| zp 0 rfl rfl (y_move (v := .func _ _ _) rfl) <| zp 1 rfl rfl (y_move (v := .int _ _) rfl) <| zy 2 rfl rfl (y_lg rfl rfl) ?_
    refine zy 3 rfl rfl (y_lg rfl rfl) <| zy 4 rfl rfl (y_ld rfl rfl) <| zp 5 rfl rfl (y_move (v := .int _ _) rfl) <| zp 6 rfl rfl (y_indexAddr rfl rfl (by omega)) <| zy 7 rfl rfl (y_load rfl rfl (.at_ (hcell2 _ k _ (u32r_get haq)) (by omega))) <| zp 8 rfl rfl (y_build rfl) <| ze 9 rfl rfl <| e_yieldB (R := [(b1, .cells (List.toArray (l.getD k p0).cells) 24 (0, 0)), (x3, .cells (List.toArray [.slice (some ⟨g2, o2, none⟩) n d]) 50 (0, 0)), (x2, .cells (List.toArray (seedC A1 n1 c1 A2 n2 c2)) 49 (0, 0)), (x1, .cells (List.toArray [.slice (some ⟨g, o, none⟩) n c]) 46 (0, 0))]) (X := X1) rfl rfl (hy k M1 X1 _ _ _ _ _ _ hkn hb1 hb2 hM1 hI) <| fun b M2 X2 hM2 hb => ?_
    simp only [List.cons_append, List.nil_append]
    refine ⟨⟨(by first | exact Le.refl _ | assumption), Keeps.mem⟩, ?_⟩
    refine zp 10 rfl rfl (y_not rfl) <| zz <| .then_normal <| .sub (F' := [(0, _), (2, _), (3, _), (5, _), (6, _), (7, _), (8, _), (9, _), (24, _)]) (.cons rfl (.cons rfl (.cons rfl (.cons rfl (.cons rfl (.cons rfl (.cons rfl (.cons rfl (.cons rfl .nil))))))))) <| x_condb rfl (fun hc2 => ?_) (fun hc2 => ?_)
    ·
      refine x_ret (.then_ret (.block_ret (.then_ret (.loop_ret (.block_ret (ret0 rfl (hM1.trans hM2) ⟨X2, inferInstance, by
        rcases hb with ⟨rfl, _⟩ | ⟨_, hb⟩
        · simp at hc2
        · exact .inr hb⟩))))))
    ·
      replace hb : Inv (k + 1) M2 X2 := by
        rcases hb with ⟨_, hb⟩ | ⟨rfl, hb⟩
        · exact hb
        · simp at hc2
      have hd := hM1.trans hM2
      have he : Le M2 M2 := Le.refl _
      obtain ⟨g3, o3, e3, hcell3⟩ := (hat.mono hd).addr (by omega)
      obtain ⟨rfl, rfl⟩ : g2 = g3 ∧ o2 = o3 := by simp at e3; omega
      refine x_skip <| .then_normal <| x_draw 7 hmix rfl <| zy 0 rfl rfl (y_lg rfl rfl) <| zy 1 rfl rfl (y_lg rfl rfl) <| zy 2 rfl rfl (y_ld rfl rfl) <| zp 3 rfl rfl (y_move (v := .int _ _) rfl) <| zp 4 rfl rfl (y_indexAddr rfl rfl (by omega)) <| zy 5 rfl rfl (y_load (v := .int .u32 ((q.toNat : Nat) : Int)) rfl rfl (by rw [hq]; exact .at_ (hcell3 _ k _ (u32r_get haq)) (by omega))) <| to_e 6 rfl (by kernel_rfl) rfl (e_call rfl (below_spec (hg.mono hd) (l.getD k p0) (hb1.mono hM2) (hb2.mono hM2) q) (by
        rintro _ M3 _ hM3 ⟨rfl, hno, rfl⟩
        exact absurd hbel hno) ?_)
      rintro _ M3 _ hM3 ⟨rfl, y, z, rfl, h0', hy', hz'⟩
      rw [hq] at hy' hz'
      replace he := he.trans hM3
      refine ⟨⟨(by first | exact Le.refl _ | assumption), Keeps.mem⟩, ?_⟩
      refine zt 7 rfl rfl <| e_st rfl rfl (by rfl) (by rfl) <| zz <| .block_normal <| .then_normal <| .s6 0 2 3 7 8 9 rfl rfl rfl rfl rfl rfl <| x_region <| tl_y rfl (y_addI rfl rfl (by omega)) <| mvI rfl rfl <| .dropTo ((x3, .cells (List.toArray [.slice (some ⟨g2, o2, none⟩) n d]) 50 (0, 0)) :: (x2, .cells (List.toArray (seedC y.a y.n y.c z.a z.n z.c)) 49 (0, 0)) :: (x1, .cells (List.toArray [.slice (some ⟨g, o, none⟩) n c]) 46 (0, 0)) :: X2) inferInstance ?_
      refine tl_nil <| .loop_next (m' := n - (k + 1)) (by omega) (F' := [(0, _), (2, _), (3, _), (7, _), (8, _), (9, _)]) (.cons rfl (.cons rfl (.cons rfl (.cons rfl (.cons rfl (.cons rfl .nil)))))) ?_
      exact ⟨k + 1, X2, _, _, _, _, _, _, rfl, by omega, hd.trans hM3, hy', hz', hmono _ _ _ _ hM3 hb, rfl, rfl, rfl⟩
  ·
    refine x_exit (.then_exit (.loop_exit (.block_exit (end0 rfl hM1 ⟨X1, inferInstance, .inl (by
      obtain rfl : k = n := by omega
      exact hI)⟩))))
theorem lsign_spec (hg : LmG M) (x : PairV) (hname : Bytes M NA nl nc name) (hsec : Bytes M SA sl_ sc sec) (q : UInt32) (htext : Bytes M TA tl tc text) (h0 : lsigE x nl sl_ q.toNat tl = 0) :
  Con Tryz.prog 121 #[.agg (List.toArray (levC x NA nl nc SA sl_ sc q.toNat)), .slice TA tl tc] G M L (fun v M' L' => L' = L ∧ ∃ A m c, v = .slice A m c ∧ Bytes M' A m c (lsigB x name sec q.toNat text)) noPanic := by
 refine enter (args := [_, _]) (fn := Tryz.f121) ⟨Tryz.func121, rfl, by kernel_rfl, by kernel_rfl⟩ 21 rfl <| zr <| tl_e rfl <| e_box rfl <| fun b1 => as0 rfl rfl <| zq <| zr <| tl_y rfl (y_fieldAddr rfl) <| tl_y rfl (y_lg rfl rfl) <| tl_y rfl (y_fieldAddr rfl) <| tl_y rfl (y_lg rfl rfl) ?_
 refine tl_y rfl (y_fieldAddr rfl) <| tl_y rfl (y_ld rfl rfl) <| mvS rfl rfl <| tl_e rfl <| e_call' rfl (Sign_lspec hg x hname hsec q htext) ?_
 rintro _ M1 _ hM1 ⟨rfl, A1, m1, c1, rfl, hA1⟩
 rw [lsigV, if_pos h0] at hA1
 refine mvU rfl rfl <| zx rfl rfl <| zx rfl rfl <| asS rfl rfl <| asI rfl rfl <| zq <| .s2 5 6 rfl rfl <| zr <| mvI rfl rfl <| tl_e rfl (e_call rfl (hwell_spec _) (by
  rintro _ _ _ _ ⟨rfl, rfl, hne, rfl⟩
  exact absurd h0 hne) ?_)
 rintro _ _ _ _ ⟨rfl, rfl, _⟩
 refine zq <| zr <| mvS rfl rfl <| asS rfl rfl <| zq <| .s1 4 rfl <| x_ret (.dropTo L inferInstance (ret1 rfl rfl hM1 ⟨rfl, _, _, _, rfl, hA1⟩))
end
end Go.Proofs.YtiimjodbaogjbaaGreatDoor
set_option linter.unusedVariables false
set_option linter.unusedSimpArgs false
set_option linter.constructorNameAsVariable false
namespace Go.Proofs.YtiimjodbaogjbaaGreatDoor
open Go Go.Eng
section
variable {G : World} {M : Mem} {L : Own}
theorem PutO_spec (v : UInt64) (n : Nat) (hn : n ≤ 8) :
    Con Tryz.prog 115 #[.int .u64 (v.toNat : Int), .int .i64 (n : Int)] G M L (fun r M' L' => M = M' ∧ ∃ A c E, r = .slice A n c ∧ OwnRow 5 1 A n c ((putB v.toNat n).map bv) E ∧ L' = E ++ L) noPanic := by
  refine enter (args := [_, _]) (fn := Tryz.f115) ⟨Tryz.func115, rfl, by kernel_rfl, by kernel_rfl⟩ 32 rfl <| zr <| as0 rfl rfl <| zq <| zr2 <| mvI rfl rfl <| tl_y rfl (y_lss rfl rfl) <| mvB rfl rfl <| tl_set (s := 9) (u := .bool false) rfl (by rw [decide_eq_false]; omega) <| mvI rfl rfl ?_
  refine tl_y rfl (y_gtr rfl rfl) <| tl_y rfl (y_pickF rfl rfl) <| zq <| .s3 0 1 12 rfl rfl rfl <| x_false rfl (by rw [decide_eq_false]; omega) <| x_skip <| .then_normal <| zr <| mvI rfl rfl <| tl_e rfl <| e_make1 rfl rfl (by omega) (by omega) (by omega) (by omega) <| fun b1 => ?_
  simp only [Int.toNat_natCast]
  refine asS rfl rfl <| zq <| zr2 <| mvI rfl rfl <| mv0 rfl rfl <| zq <| x_block ?_
  refine x_loop (I := fun m' F D M1 L1 => ∃ k : Nat, m' = n - k ∧ k ≤ n ∧ D = [] ∧ M = M1 ∧ L1 = (b1, .cells ((List.replicate (n - k) (0 : UInt8) ++ (putB v.toNat n).drop (n - k)).map bv).toArray 5 (0, 0)) :: L ∧ F = [(0, .int .u64 (v.toNat : Int)), (1, .int .i64 n), (5, .slice (some ⟨b1, 0, none⟩) n n), (15, .int .i64 n), (16, .int .i64 k)]) (n) (F0 := [(0, _), (1, _), (5, _), (15, _), (16, _)]) ?_ (.cons rfl (.cons rfl (.cons rfl (.cons rfl (.cons rfl .nil))))) ?_  -- slots [0, 1, 5, 15, 16], written [16]
  · exact ⟨0, rfl, by omega, rfl, rfl, by rw [Nat.sub_zero, List.drop_of_length_le (by rw [putB_length]; omega), List.append_nil, List.map_replicate]; rfl, rfl⟩
  rintro m _ _ M1 L1 ⟨k, rfl, hk, rfl, rfl, rfl, rfl⟩
  refine zr <| tl_y rfl (y_lss rfl rfl) <| zq <| x_seq <| x_cond rfl (fun hc2 => ?_) (fun hc2 => ?_)
  ·
    refine x_skip <| .then_normal <| x_seq <| x_block <| zr <| mvI rfl rfl <| asI rfl rfl <| zq <| x_region <| mvS rfl rfl <| mvI rfl rfl ?_
    refine tl_y rfl (y_subI rfl rfl (by omega)) <| mvI rfl rfl <| tl_y rfl (y_subI rfl rfl (by omega)) <| mvI rfl rfl <| mvI rfl rfl <| tl_y rfl (y_mulI rfl rfl (by omega)) <| tl_y rfl (y_shr64 (s := 8 * k) rfl rfl) <| tl_y rfl (y_u64u8 rfl) ?_
    rw [shr_byte]
    refine tl_y rfl (y_indexAddr rfl rfl (by omega)) <| tl_e rfl <| e_storeAt (c := (List.replicate (n - k) (0 : UInt8) ++ (putB v.toNat n).drop (n - k)).map bv) (v := bv _) (o := n - 1 - k) (by show some (Value.pointer (some ⟨b1, _, none⟩)) = _; congr 4; omega) rfl rfl inferInstance (by simp [putB_length]; omega) inferInstance ?_
    rw [← List.map_set, put_step v.toNat n k (by omega)]
    refine tl_nil <| .block_normal <| .then_normal <| .s5 0 1 5 15 16 rfl rfl rfl rfl rfl <| x_region <| tl_y rfl (y_addI rfl rfl (by omega)) <| mvI rfl rfl <| tl_nil <| .loop_next (m' := n - (k + 1)) (by omega) (F' := [(0, _), (1, _), (5, _), (15, _), (16, _)]) (.cons rfl (.cons rfl (.cons rfl (.cons rfl (.cons rfl .nil))))) ?_
    exact ⟨k + 1, rfl, by omega, rfl, rfl, rfl, rfl⟩
  ·
    refine x_exit <| .then_exit <| .loop_exit <| .block_exit <| .then_normal <| .s1 5 rfl <| zr <| mvS rfl rfl <| asS rfl rfl <| zq ?_
    obtain rfl : k = n := by omega
    rw [Nat.sub_self, List.replicate_zero, List.nil_append, List.drop_zero]
    exact x_ret (ret1 rfl rfl (Le.refl _) ⟨rfl, _, _, _, rfl, OwnRow.made (by simp [putB_length]) (by omega), rfl⟩)
theorem PutVO_spec (v n : Nat) (hv : v < 18446744073709551616) (hn : n ≤ 8) :
  Con Tryz.prog 115 #[.int .u64 (v : Int), .int .i64 (n : Int)] G M L (fun r M' L' => M = M' ∧ ∃ A c E, r = .slice A n c ∧ OwnRow 5 1 A n c ((putB v n).map bv) E ∧ L' = E ++ L) noPanic := by
 have h := PutO_spec (G := G) (M := M) (L := L) (UInt64.ofNat v) n hn
 rwa [UInt64.toNat_ofNat', Nat.mod_eq_of_lt (by omega)] at h
end
def LvRows (M : Mem) (vs : List Value) (l : List PairV) (at_ : List Nat) (name sec : List UInt8) (k : Nat) : Prop := vs.length = k * 5 ∧ ∀ i, i < k → ∃ A1 n1 c1 A2 n2 c2, (vs.drop (i * 5)).take 5 = levC (l.getD i p0) A1 n1 c1 A2 n2 c2 (at_.getD i 0) ∧ Bytes M A1 n1 c1 (seedR l at_ name sec i).1 ∧ Bytes M A2 n2 c2 (seedR l at_ name sec i).2
theorem LvRows.mono {M M' : Mem} {vs : List Value} {l : List PairV} {at_ : List Nat} {name sec : List UInt8} {k : Nat} (h : LvRows M vs l at_ name sec k) (hle : Le M M') : LvRows M' vs l at_ name sec k :=
 ⟨h.1, fun i hi => let ⟨A1, n1, c1, A2, n2, c2, h1, h2, h3⟩ := h.2 i hi; ⟨A1, n1, c1, A2, n2, c2, h1, h2.mono hle, h3.mono hle⟩⟩
theorem LvRows.nil {M : Mem} {l : List PairV} {at_ : List Nat} {name sec : List UInt8} : LvRows M [] l at_ name sec 0 := ⟨rfl, fun i hi => by omega⟩
theorem LvRows.snoc {M : Mem} {vs : List Value} {l : List PairV} {at_ : List Nat} {name sec : List UInt8} {k : Nat} (h : LvRows M vs l at_ name sec k) {A1 A2 : Option Addr} {n1 c1 n2 c2 : Nat} (h1 : Bytes M A1 n1 c1 (seedR l at_ name sec k).1) (h2 : Bytes M A2 n2 c2 (seedR l at_ name sec k).2) :
    LvRows M (vs ++ levC (l.getD k p0) A1 n1 c1 A2 n2 c2 (at_.getD k 0)) l at_ name sec (k + 1) := by
  refine ⟨by rw [List.length_append, h.1]; simp; omega, fun i hi => ?_⟩
  have hl := h.1
  by_cases hik : i < k
  · obtain ⟨B1, m1, d1, B2, m2, d2, k1, k2, k3⟩ := h.2 i hik
    refine ⟨B1, m1, d1, B2, m2, d2, ?_, k2, k3⟩
    rw [List.drop_append_of_le_length (by omega), List.take_append_of_le_length (by rw [List.length_drop]; omega), k1]
  · obtain rfl : i = k := by omega
    refine ⟨A1, n1, c1, A2, n2, c2, ?_, h1, h2⟩
    rw [← hl, List.drop_left]; rfl
theorem lv_len {l : List PairV} {nl sl : Nat} (hok : okL l) (hc : canB l nl sl) (at_ : List Nat) {name sec : List UInt8} (text : List UInt8) (hn : name.length = nl) (hs : sec.length = sl) {x : Nat} {i : Nat} (hi : i < l.length) (hat : at_ = atsN (l.map tv) x) :
    (sgR l at_ name sec text i).length = sigN (l.getD i p0) ∧ sigN (l.getD i p0) ≤ 10000 ∧ at_.getD i 0 < leavesN (treeV (l.getD i p0).t).h ∧ at_.getD i 0 < 4294967296 := by
  obtain ⟨h1, h2, h3, h4⟩ := okL_get hok hi
  obtain ⟨n, w, p, H, hx⟩ := okP_facts h1
  obtain ⟨z1, z2, z3, z4, z5⟩ := hx.sizes
  have h16 := (seedR_ok hok hc at_ hn hs i (by omega)).1
  have ht : (l.map tv)[i]? = some (tv (l.getD i p0)) := by rw [List.getElem?_map, h3]; rfl
  have hq := atN_lt ht x
  have hp25 := pw2_25 hx.h2
  have hH : hN (tv (l.getD i p0)) = H := by
    have : (treeV (l.getD i p0).t).h = (H : Int) := hx.th
    rw [hN]; show (treeV (l.getD i p0).t).h.toNat = H; rw [this]; rfl
  have hg : at_.getD i 0 = atN (l.map tv) x i := by rw [hat, List.getD_eq_getElem?_getD, atsN_get _ _ (by rw [List.length_map]; exact hi)]; rfl
  rw [hH] at hq
  refine ⟨?_, by omega, ?_, by omega⟩
  · rw [sgR]
    exact (lsig_parts hx h16 _ _ (by rw [hg]; exact hq)).1
  · rw [hx.lv, hg]; exact hq
theorem take5 {vs : List Value} {j : Nat} {a b c d e : Value} (h : (vs.drop j).take 5 = [a, b, c, d, e]) : (vs.drop j).take 2 = [a, b] ∧ (vs.drop (j + 2)).take 2 = [c, d] := by
 have h1 := congrArg (List.take 2) h
 have h2 := congrArg (fun l => (List.drop 2 l).take 2) h
 simp only [List.take_take, List.drop_take, List.drop_drop] at h1 h2
 exact ⟨h1, h2⟩
section
variable {G : World} {M : Mem} {L : Own} {NA SA TA : Option Addr} {nl nc sl_ sc tl tc : Nat} {name sec text : List UInt8}
theorem Sign1_hspec (hg : LmG M) {A : Option Addr} {n c : Nat} {pl : List PairV} (h : Row M 2 A n c (prow pl)) (hname : Bytes M NA nl nc name) (hsec : Bytes M SA sl_ sc sec) (x : UInt64) (htext : Bytes M TA tl tc text) {bl bs bt bn : Nat}
    [i1 : Has L bl (.cells (List.toArray [.slice A n c]) 46 (0, 0))] [i2 : Has L bs (.cells (List.toArray (seedC NA nl nc SA sl_ sc)) 49 (0, 0))] [i3 : Has L bt (.cells (List.toArray [.slice TA tl tc]) 35 (0, 0))] [i4 : Has L bn (.cells (List.toArray [.int .u64 (x.toNat : Int)]) 37 (0, 0))] :
    Con Tryz.prog 118 #[.pointer (some ⟨bl, 0, none⟩), .pointer (some ⟨bs, 0, none⟩), .pointer (some ⟨bt, 0, none⟩), .pointer (some ⟨bn, 0, none⟩)] G M L (fun v M' L' => L' = L ∧ ∃ A m c, v = .slice A m c ∧ hsigE pl nl sl_ x.toNat tl = 0 ∧ Bytes M' A m c (hsigB pl (atsN (pl.map tv) x.toNat) name sec text)) (fun ch M' L' => L' = L ∧ ∃ e, (hsigE pl nl sl_ x.toNat tl ≠ 0 ∧ e = hsigE pl nl sl_ x.toNat tl) ∧ ch = hwrong e) := by
  have hln : pl.length = n := by have := h.len; rw [prow, flat_len pcl] at this; omega
  have hns := hname.size
  have hss := hsec.size
  have hts := htext.size
  refine enterM (args := [_, _, _, _]) (fn := Tryz.f118) ⟨Tryz.func118, rfl, by kernel_rfl, by kernel_rfl⟩ 77 rfl <| zr <| as0 rfl rfl <| zq <| zr <| tl_y rfl (y_ld rfl rfl) <| tl_y rfl (y_lg rfl rfl) <| tl_e rfl (e_call rfl (makes_spec hg h) (by
    rintro _ M1 L hM1 ⟨rfl, hno, rfl⟩
    have e : hsigE pl nl sl_ x.toNat tl = canE pl nl sl_ := by rw [hsigE, if_pos hno]
    exact TP.dropTo L inferInstance (.retM0 hM1 ⟨rfl, _, ⟨by rw [e]; exact hno, rfl⟩, by rw [e]⟩)) ?_)
  rintro _ M1 L hM1 ⟨rfl, h0⟩
  have hd : Le M M1 := hM1
  obtain ⟨hok, hcan⟩ := canE_zero h0
  have hn8 := hok.1
  have hmx := h.max
  have hle := h.le
  refine zq <| .s4 0 1 2 3 rfl rfl rfl rfl <| zr <| tl_y rfl (y_ld rfl rfl) <| tl_y rfl (y_len rfl) <| tl_y rfl (y_leq rfl rfl) <| tl_e rfl (e_call rfl (hmust_spec _ _) (by
    rintro _ _ L _ ⟨rfl, rfl, ht, rfl⟩
    have e : hsigE pl nl sl_ x.toNat tl = 1 := by rw [hsigE, if_neg (fun h => h h0), if_pos (by simp at ht; omega)]
    exact TP.dropTo L inferInstance (.retM0 hd ⟨rfl, _, ⟨by rw [e]; decide, rfl⟩, by rw [e]⟩)) ?_)
  rintro _ _ L _ ⟨rfl, rfl, ht⟩
  have htl : tl ≤ 65536 := by simp at ht; omega
  have hEp : hsigE pl nl sl_ x.toNat tl = plE pl x.toNat := by rw [hsigE, if_neg (fun h => h h0), if_neg (by omega)]
  refine zq <| .s4 0 1 2 3 rfl rfl rfl rfl <| zr <| tl_e rfl <| e_alloc <| fun b1 => zq <| x_seq <| x_seq ?_
  have he : Le M1 M1 := Le.refl _
  refine x_draw 6 hmix rfl <| zy 0 rfl rfl (y_ld rfl rfl) <| zy 1 rfl rfl (y_lg rfl rfl) <| zy 2 rfl rfl (y_ld rfl rfl) <| zy 3 rfl rfl (y_ld rfl rfl) <| to_e 4 rfl (by kernel_rfl) rfl (e_call rfl (places_spec (hg.mono hd).hs (h.mono hd) x) (by
    rintro _ M2 _ hM2 ⟨rfl, e, he', rfl⟩
    have h1 : hsigE pl nl sl_ x.toNat tl = e ∧ e ≠ 0 := by
      rw [hEp]
      rcases he' with ⟨hno, rfl⟩ | ⟨_, hno, rfl⟩
      · exact absurd hok hno
      · exact ⟨by rw [plE, if_pos hok, if_neg hno], by decide⟩
    exact TP.dropTo L inferInstance (.retM0 (hd.trans hM2) ⟨rfl, e, ⟨by rw [h1.1]; exact h1.2, h1.1.symm⟩, rfl⟩)) ?_)
  rintro _ M3 _ hM3 ⟨rfl, _, hxt, AT, cT, rfl, hat⟩
  replace hd := hd.trans hM3
  replace he := he.trans hM3
  have hE0 : hsigE pl nl sl_ x.toNat tl = 0 := by rw [hEp, plE, if_pos hok, if_pos hxt]
  have hlt : ∀ k, k < n → (atsN (pl.map tv) x.toNat).getD k 0 < 4294967296 := fun k hk => (lv_len hok hcan _ text hns hss (i := k) (by omega) rfl).2.2.2
  refine ⟨⟨(by first | exact Le.refl _ | assumption), Keeps.mem⟩, ?_⟩
  refine ze 5 rfl rfl <| e_call' rfl levels_spec ?_
  rintro _ _ _ _ ⟨rfl, x1, x2, x3, rfl, rfl⟩
  refine ⟨⟨(by first | exact Le.refl _ | assumption), Keeps.mem⟩, ?_⟩
  refine zz <| .then_normal <| .s4 0 2 5 24 rfl rfl rfl rfl <| x_block <| x_rangeN rfl rfl <| fun l r0 fn tm lps las lbd hps has hbd htm => ?_
  obtain ⟨xs, hxs⟩ : ∃ xs : LoopState → Option Code → Option Addr → Nat → Nat → Own → Own, ∀ st pd A k c E, xs st pd A k c E = lrec l st pd fn tm lps las lbd r0 :: (r0, .deferred (some [])) :: (b1, .cells (List.toArray [.slice A k c]) 149 (0, 0)) :: (E ++ L) := ⟨_, fun _ _ _ _ _ _ => rfl⟩
  refine Con.postD (Con.to ((x3, .cells (List.toArray [.slice AT n cT]) 50 (0, 0)) :: (x2, .cells (List.toArray (seedC NA nl nc SA sl_ sc)) 49 (0, 0)) :: (x1, .cells (List.toArray [.slice A n c]) 46 (0, 0)) :: xs .ready none none 0 0 []) (by rw [hxs, List.nil_append]; infer_instance) (levels1_spec (hg.mono hd) (h.mono hd) hat hlt hok hcan (hname.mono hd) (hsec.mono hd) (Inv := fun k M2 X2 => ∃ (A6 : Option Addr) (c6 : Nat) (E6 : Own) (vs6 : List Value), Le M3 M2 ∧ OwnRow 154 5 A6 k c6 vs6 E6 ∧ LvRows M2 vs6 pl (atsN (pl.map tv) x.toNat) name sec k ∧ X2 = xs .ready none A6 k c6 E6) (Dn := fun _ _ => False) (fun k M1' M2' X hle ⟨A6, c6, E6, vs6, q1, q2, q3, q4⟩ => ⟨A6, c6, E6, vs6, q1.trans hle, q2, q3.mono hle, q4⟩) ?_ ⟨none, 0, [], [], Le.refl _, .nil, .nil, rfl⟩)) ?_
  · rintro k M4 X4 A1 n1 c1 A2 n2 c2 hk hb1 hb2 hM4 ⟨A6, c6, E6, vs6, hM34, hE6, hR6, rfl⟩
    rw [hxs]
    subst hps
    subst has
    subst hbd
    refine ycon_body htm rfl (by kernel_rfl) <| fun R1 => ?_
    simp only [List.cons_append, List.append_assoc]
    refine x_region <| tl_e rfl <| e_alloc <| fun b7 => tl_e rfl <| e_st rfl rfl (by rfl) (by rfl) <| .bring l inferInstance <| tl_nil <| .asg (by kernel_rfl) <| x_block <| x_region <| tl_y rfl (y_ld rfl rfl) <| tl_y rfl (y_lg rfl rfl) <| tl_e rfl <| e_buildSlice rfl (by decide) <| fun b8 => ?_
    refine .pub b8 inferInstance <| fun M5 hM5 hb8 => .bringE E6 inferInstance <| tl_e rfl <| e_append (by decide) rfl rfl hE6 (.row (Row.whole (s := 5) (vs := levC (pl.getD k p0) A1 n1 c1 A2 n2 c2 ((atsN (pl.map tv) x.toNat).getD k 0)) hb8 rfl (by omega))) rfl (by omega) (by omega) <| fun A9 c9 E9 hE9 => tl_e rfl <| e_st rfl rfl (by rfl) (by rfl) <| tl_nil (.block_normal (.on ((r0, .deferred (some [])) :: (b1, .cells (List.toArray [.slice A9 (k + 1) c9]) 149 (0, 0)) :: (E9 ++ (L ++ R1))) inferInstance inferInstance
      (X := (r0, .deferred (some [])) :: (b1, .cells (List.toArray [.slice A9 (k + 1) c9]) 149 (0, 0)) :: (E9 ++ L)) (by simp) hM5 ⟨A9, c9, E9, _, hM34.trans hM5, hE9, (hR6.mono hM5).snoc (hb1.mono hM5) (hb2.mono hM5), (hxs _ _ _ _ _ _).symm⟩))
  · rintro v M4 L4 hM4 ⟨X', hdrop, hX⟩
    rcases hX with ⟨A6, c6, E6, vs6, hM34, hE6, hR6, rfl⟩ | hX
    · rw [hxs] at hdrop
      refine ⟨_, hdrop, .ready, none, _, by simp, rfl, ?_⟩
      refine .dropTo (E6 ++ ((r0, .deferred (some [])) :: (b1, .cells (List.toArray [.slice A6 n c6]) 149 (0, 0)) :: L)) inferInstance <| .pubRow hE6 <| fun M5 hM5 hrow => ?_
      replace hR6 := hR6.mono hM5
      replace hd := hd.trans (hM34.trans hM5)
      have hvl := hR6.1
      have hrm := hrow.max
      have hrc := hrow.le
      obtain ⟨at_, hatd⟩ : ∃ at_, at_ = atsN (pl.map tv) x.toNat := ⟨_, rfl⟩
      rw [← hatd] at hR6 ⊢
      refine .block_normal <| .then_normal <| zr <| tl_y rfl (y_ld rfl rfl) <| tl_y rfl (y_len rfl) <| tl_y rfl (y_subI rfl rfl (by omega)) ?_
      rw [show ((n : Nat) : Int) - 1 = ((n - 1 : Nat) : Int) by omega]
      refine tl_y rfl (y_convN64 rfl (by omega)) <| tl_e rfl <| e_call' rfl (PutVO_spec (n - 1) 4 (by omega) (by omega)) ?_
      rintro _ _ _ _ ⟨rfl, AP, cP, EP, rfl, hEP, rfl⟩
      refine asS rfl rfl <| zq <| .s3 2 5 8 rfl rfl rfl <| zr2 <| tl_y rfl (y_ld rfl rfl) <| tl_y rfl (y_len rfl) <| mv0 rfl rfl <| zq <| x_block <| x_loop (I := fun m' F D M6 L6 => ∃ (k no : Nat) (AO : Option Addr) (cO : Nat) (E : Own), m' = n - k ∧ k ≤ n ∧ Le M5 M6 ∧ no ≤ 4 + k * 10100 ∧ OwnRow 5 1 AO no cO ((putB (n - 1) 4 ++ catR (levR pl at_ name sec text) k).map bv) E ∧ D = [Eng.mark r0] ∧ L6 = E ++ ((r0, .deferred (some [])) :: (b1, .cells (List.toArray [.slice A6 n c6]) 149 (0, 0)) :: L) ∧ F = [(2, .pointer (some ⟨bt, 0, none⟩)), (5, .pointer (some ⟨b1, 0, none⟩)), (8, .slice AO no cO), (36, .slice A6 n c6), (37, .int .i64 n), (38, .int .i64 k)]) (n) (F0 := [(2, _), (5, _), (8, _), (36, _), (37, _), (38, _)]) ?_ (.cons rfl (.cons rfl (.cons rfl (.cons rfl (.cons rfl (.cons rfl .nil)))))) ?_
      · exact ⟨0, 4, AP, cP, EP, rfl, by omega, Le.refl _, by omega, by rw [catR_zero, List.append_nil]; exact hEP, rfl, rfl, rfl⟩
      rintro m _ _ M6 _ ⟨k, no, AO, cO, E, rfl, hk, hM6, hno, hE, rfl, rfl, rfl⟩
      refine zr <| tl_y rfl (y_lss rfl rfl) <| zq <| x_seq <| x_cond rfl (fun hc1 => ?_) (fun hc1 => ?_)
      ·
        have hkn : k < n := by omega
        have hd6 := hd.trans hM6
        obtain ⟨A1, n1, c1, A2, n2, c2, hv, hb1, hb2⟩ := (hR6.mono hM6).2 k hkn
        obtain ⟨z1, z2, z3, z4⟩ := lv_len hok hcan at_ text hns hss (i := k) (by omega) hatd
        obtain ⟨hy1, hy2⟩ := seedR_may hok hcan at_ hns hss (i := k) (j := k) (by omega) (by omega)
        rw [hb1.size, hb2.size] at hy2
        obtain ⟨q, hq⟩ : ∃ q : UInt32, q.toNat = at_.getD k 0 := ⟨UInt32.ofNat (at_.getD k 0), by rw [UInt32.toNat_ofNat', Nat.mod_eq_of_lt (by omega)]⟩
        rw [← hq] at hv z3
        obtain ⟨g, o, rfl, hcell⟩ := (hrow.mono hM6).cellsN (by omega)
        have hc5 := fun L => hcell L (k * 5) 5 (by omega)
        simp only [hv] at hc5
        have hsg : lsigB (pl.getD k p0) (seedR pl at_ name sec k).1 (seedR pl at_ name sec k).2 q.toNat (nextR pl at_ name sec text k) = sgR pl at_ name sec text k := by rw [sgR, hq]
        refine x_skip <| .then_normal <| x_seq <| x_block <| zr <| mvI rfl rfl <| tl_y rfl (y_indexAddr rfl rfl (by omega)) <| tl_y rfl (y_loadAgg rfl rfl (.at_ (hc5 _) (by omega))) <| tl_e rfl <| e_alloc <| fun b12 => asI rfl rfl <| tl_e rfl <| e_st rfl rfl (by rfl) (by rfl) ?_
        refine zq <| zr <| tl_y rfl (y_ld rfl rfl) <| asS rfl rfl <| zq <| zr2 <| mvI rfl rfl <| tl_y rfl (y_addI rfl rfl (by omega)) <| tl_y rfl (y_ld rfl rfl) <| tl_y rfl (y_len rfl) ?_
        refine tl_y rfl (y_lss rfl rfl) <| zq <| x_cond rfl (fun hc2 => ?_) (fun hc2 => ?_)
        ·
          have hk1 : k + 1 < n := by omega
          obtain ⟨A3, n3, c3, A4, n4, c4, hv1, hb3, hb4⟩ := (hR6.mono hM6).2 (k + 1) hk1
          obtain ⟨hv2, hv3⟩ := take5 hv1
          have hc2a := fun L => hcell L ((k + 1) * 5) 2 (by omega)
          have hc2b := fun L => hcell L ((k + 1) * 5 + 2) 2 (by omega)
          simp only [hv2] at hc2a
          simp only [hv3] at hc2b
          obtain ⟨hy3, hy4⟩ := seedR_may hok hcan at_ hns hss (i := k + 1) (j := k + 1) (by omega) (by omega)
          rw [hb3.size, hb4.size] at hy4
          have hnx : nextR pl at_ name sec text k = pubR pl at_ name sec (k + 1) := by rw [nextR, if_pos (by omega)]
          have hlv : levR pl at_ name sec text k = sgR pl at_ name sec text k ++ pubR pl at_ name sec (k + 1) := by rw [levR, if_pos (by omega)]
          have he : Le M6 M6 := Le.refl _
          refine x_draw 14 hmix rfl <| zy 0 rfl rfl (y_ld rfl rfl) <| zp 1 rfl rfl (y_move (v := .int _ _) rfl) <| zp 2 rfl rfl (y_addI rfl rfl (by omega)) <| zp 3 rfl rfl (y_indexAddr rfl rfl (by omega)) <| zp 4 rfl rfl (y_fieldAddr rfl) <| zy 5 rfl rfl (y_loadAgg rfl rfl (.at_ (hc2a _) (by omega))) <| zy 6 rfl rfl (y_ld rfl rfl) <| zp 7 rfl rfl (y_move (v := .int _ _) rfl) <| zp 8 rfl rfl (y_addI rfl rfl (by omega)) ?_
          refine zp 9 rfl rfl (y_indexAddr rfl rfl (by omega)) <| zp 10 rfl rfl (y_fieldAddr rfl) <| zy 11 rfl rfl (y_loadAgg rfl rfl (.at_ (hc2b _) (by omega))) <| to_e 12 rfl (by kernel_rfl) rfl (e_call rfl (hpublic_spec (hg.mono hd6) (pl.getD (k + 1) p0) hb3 hb4) (by
            rintro _ M7 _ hM7 ⟨rfl, hno, rfl⟩
            exact absurd hy4 hno) ?_)
          rintro _ M7 _ hM7 ⟨rfl, _, A7, n7, c7, rfl, hb7⟩
          replace he := he.trans hM7
          have hs7 := hb7.size
          obtain ⟨hp1, hp2, hp3, hp4⟩ := okL_get hok (i := k + 1) (by omega)
          obtain ⟨n', w', p', H', hx'⟩ := okP_facts hp1
          have hn32 := hx'.o.n32
          obtain ⟨pp1, _, _, _, _⟩ := pub_parts hx' ((seedR_ok hok hcan at_ hns hss (k + 1) (by omega)).1) (seedR pl at_ name sec (k + 1)).2
          have hE1 : lsigE (pl.getD k p0) n1 n2 q.toNat n7 = 0 := by rw [lsigE, if_neg (fun h => h hy2), if_neg (by omega), if_neg (by omega)]
          refine ⟨⟨(by first | exact Le.refl _ | assumption), Keeps.mem⟩, ?_⟩
          refine zp 13 rfl rfl (y_assign (v := .slice _ _ _) rfl) <| zz <| .then_normal <| zr <| mvS rfl rfl <| tl_y rfl (y_lg rfl rfl) <| mvS rfl rfl <| tl_e rfl <| e_call' rfl (lsign_spec (hg.mono (hd6.trans hM7)) (pl.getD k p0) (hb1.mono hM7) (hb2.mono hM7) q hb7 hE1) ?_
          rintro _ M8 _ hM8 ⟨rfl, A8, n8, c8, rfl, hb8⟩
          rw [← pubR, ← hnx, hsg] at hb8
          have hs8 := hb8.size
          refine .bringE E inferInstance <| tl_e rfl <| e_append (by decide) rfl rfl hE (.row hb8) (all_one_bv _) (by omega) (by omega) <| fun A9 c9 E9 hE9 => asS rfl rfl <| zq <| zr <| mvI rfl rfl <| tl_y rfl (y_addI rfl rfl (by omega)) <| tl_y rfl (y_ld rfl rfl) <| tl_y rfl (y_len rfl) <| tl_y rfl (y_lss rfl rfl) ?_
          refine zq <| x_true rfl (by rw [decide_eq_true_iff]; omega) <| x_region <| mvS rfl rfl <| mvS rfl rfl <| .bringE E9 inferInstance <| tl_e rfl <| e_append (by decide) rfl rfl hE9 (.row (hb7.mono hM8)) (all_one_bv _) (by omega) (by omega) <| fun A10 c10 E10 hE10 => ?_
          rw [← List.map_append, ← List.map_append, List.append_assoc, List.append_assoc, ← pubR, ← hlv, ← catR_succ] at hE10
          refine asS rfl rfl <| tl_nil <| .block_normal <| .then_normal <| x_region <| tl_y rfl (y_addI rfl rfl (by omega)) <| mvI rfl rfl <| .dropTo (E10 ++ ((r0, .deferred (some [])) :: (b1, .cells (List.toArray [.slice (some ⟨g, o, none⟩) n c6]) 149 (0, 0)) :: L)) inferInstance <| tl_nil <| .loop_next (m' := n - (k + 1)) (by omega) (F' := [(2, _), (5, _), (8, _), (36, _), (37, _), (38, _)]) (.cons rfl (.cons rfl (.cons rfl (.cons rfl (.cons rfl (.cons rfl .nil)))))) ?_
          exact ⟨k + 1, _, A10, c10, E10, rfl, by omega, hM6.trans (hM7.trans hM8), by omega, hE10, rfl, rfl, rfl⟩
        ·
          have hk1 : k + 1 = n := by omega
          have hnx : nextR pl at_ name sec text k = text := by rw [nextR, if_neg (by omega)]
          have hlv : levR pl at_ name sec text k = sgR pl at_ name sec text k := by rw [levR, if_neg (by omega), List.append_nil]
          have hE1 : lsigE (pl.getD k p0) n1 n2 q.toNat tl = 0 := by rw [lsigE, if_neg (fun h => h hy2), if_neg (by omega), if_neg (by omega)]
          refine x_skip <| .then_normal <| zr <| mvS rfl rfl <| tl_y rfl (y_lg rfl rfl) <| mvS rfl rfl <| tl_e rfl <| e_call' rfl (lsign_spec (hg.mono hd6) (pl.getD k p0) hb1 hb2 q (htext.mono hd6) hE1) ?_
          rintro _ M8 _ hM8 ⟨rfl, A8, n8, c8, rfl, hb8⟩
          rw [← hnx, hsg, ← hlv] at hb8
          have hs8 := hb8.size
          rw [hlv] at hs8
          refine .bringE E inferInstance <| tl_e rfl <| e_append (by decide) rfl rfl hE (.row hb8) (all_one_bv _) (by omega) (by omega) <| fun A9 c9 E9 hE9 => ?_
          rw [← List.map_append, List.append_assoc, ← catR_succ] at hE9
          refine asS rfl rfl <| zq <| zr <| mvI rfl rfl <| tl_y rfl (y_addI rfl rfl (by omega)) <| tl_y rfl (y_ld rfl rfl) <| tl_y rfl (y_len rfl) <| tl_y rfl (y_lss rfl rfl) <| zq <| x_false rfl (by rw [decide_eq_false_iff_not]; omega) ?_
          refine x_skip <| .block_normal <| .then_normal <| x_region <| tl_y rfl (y_addI rfl rfl (by omega)) <| mvI rfl rfl <| .dropTo (E9 ++ ((r0, .deferred (some [])) :: (b1, .cells (List.toArray [.slice (some ⟨g, o, none⟩) n c6]) 149 (0, 0)) :: L)) inferInstance <| tl_nil <| .loop_next (m' := n - (k + 1)) (by omega) (F' := [(2, _), (5, _), (8, _), (36, _), (37, _), (38, _)]) (.cons rfl (.cons rfl (.cons rfl (.cons rfl (.cons rfl (.cons rfl .nil)))))) ?_
          exact ⟨k + 1, _, A9, c9, E9, rfl, by omega, hM6.trans hM8, by omega, hE9, rfl, rfl, rfl⟩
      ·
        obtain rfl : k = n := by omega
        refine x_exit <| .then_exit <| .loop_exit <| .block_exit <| .then_normal <| .s1 8 rfl <| zr <| mvS rfl rfl <| asS rfl rfl <| zq <| x_ret (.pubRow hE fun M9 hM9 hr9 => .retM1 (r := r0) (L1 := L) inferInstance (rv1 rfl (rc_tmp (by rfl))) inferInstance (hd.trans (hM6.trans hM9)) ⟨rfl, _, _, _, rfl, hE0, by rw [hsigB, hln]; exact hr9⟩)
    · exact hX.elim
theorem Sign_hspec (hg : LmG M) {A : Option Addr} {n c : Nat} {pl : List PairV} (h : Row M 2 A n c (prow pl)) (hname : Bytes M NA nl nc name) (hsec : Bytes M SA sl_ sc sec) (x : UInt64) (htext : Bytes M TA tl tc text) :
    Con Tryz.prog 52 #[.slice A n c, .agg (List.toArray (seedC NA nl nc SA sl_ sc)), .int .u64 (x.toNat : Int), .slice TA tl tc] G M L (fun v M' L' => L' = L ∧ ∃ A m c, v = .tuple #[.slice A m c, .int .i64 (hsigE pl nl sl_ x.toNat tl)] ∧ Bytes M' A m c (hsigV pl nl sl_ x.toNat tl name sec text)) noPanic := by
  refine enter (args := [_, _, _, _]) (fn := Tryz.f52) ⟨Tryz.func52, rfl, by kernel_rfl, by kernel_rfl⟩ 14 rfl <| zr <| tl_e rfl <| e_box rfl <| fun b1 => tl_e rfl <| e_box rfl <| fun b2 => tl_e rfl <| e_box rfl <| fun b3 => tl_e rfl <| e_box rfl <| fun b4 => as0 rfl rfl <| as0 rfl rfl <| zq <| .s4 4 5 6 7 rfl rfl rfl rfl ?_
  refine zr <| tl_y rfl (y_makeFunc rfl rfl) <| tl_e rfl <| e_call' rfl (caughtHB_spec (K := fun A m c M' => hsigE pl nl sl_ x.toNat tl = 0 ∧ Bytes M' A m c (hsigB pl (atsN (pl.map tv) x.toNat) name sec text)) (Kp := fun e => hsigE pl nl sl_ x.toNat tl ≠ 0 ∧ e = hsigE pl nl sl_ x.toNat tl) (first := []) (cap := [.pointer (some ⟨b1, 0, none⟩), .pointer (some ⟨b2, 0, none⟩), .pointer (some ⟨b4, 0, none⟩), .pointer (some ⟨b3, 0, none⟩)]) (fun p' q' => Sign1_hspec hg h hname hsec x htext)) ?_
  rintro v M1 _ hM1 ⟨rfl, hv⟩
  obtain ⟨A2, m2, c2, rfl, hA⟩ : ∃ A m c, v = .tuple #[.slice A m c, .int .i64 (hsigE pl nl sl_ x.toNat tl)] ∧ Bytes M1 A m c (hsigV pl nl sl_ x.toNat tl name sec text) := by
    rcases hv with ⟨A, m, c, rfl, h0, hb⟩ | ⟨e, rfl, hno, rfl⟩
    · exact ⟨A, m, c, by rw [h0], by rw [hsigV, if_pos h0]; exact hb⟩
    · exact ⟨none, 0, 0, rfl, by rw [hsigV, if_neg hno]; exact Row.nil _ _⟩
  refine zx rfl rfl <| zx rfl rfl <| asS rfl rfl <| asI rfl rfl <| zq <| .s2 8 9 rfl rfl <| x_ret (.dropTo L inferInstance (ret2 rfl rfl rfl hM1 ⟨rfl, _, _, _, rfl, hA⟩))
end
end Go.Proofs.YtiimjodbaogjbaaGreatDoor
