/-
Contracts of functions, each proved by a walk through its code.
-/
import Derived.Test.YtplkoemjffplcaaGreatDoorMerkle5Etc
import Derived.Test.YtplkoemjffplcaaGreatDoorOncePureEtc
import Derived.Test.YtplkoemjffplcaaGreatDoorEngWEtc
set_option linter.all false
namespace Go.Proofs.YtplkoemjffplcaaGreatDoor
open Go Go.Eng
structure LmG (M : Mem) : Prop where
 ch : ChG M
 tr : SetT M
theorem LmG.mono {M M' : Mem} (h : LmG M) (hle : Le M M') : LmG M' := ⟨h.ch.mono hle, h.tr.mono hle⟩
theorem LmG.hs {M : Mem} (h : LmG M) : HsG M := ⟨h.ch.set, h.tr⟩
theorem LmG.mr {M : Mem} (h : LmG M) : MrG M := ⟨h.ch.sha, h.ch.kec, h.tr⟩
section
variable {G : World} {M : Mem} {L : Own}
theorem caughtB1_ret {b c : Nat} {x : Int} {cs : List Value} : ConD Tryz.prog 166 #[.pointer (some ⟨b, 0, none⟩), .pointer (some ⟨c, 0, none⟩)] .returning G M ((c, .cells #[.int .i64 x] 25 (0, 0)) :: (b, .cells cs.toArray 22 (0, 0)) :: L) (fun u' M' L' => u' = .returning ∧ M' = M ∧ L' = (c, .cells #[.int .i64 x] 25 (0, 0)) :: (b, .cells cs.toArray 22 (0, 0)) :: L) := by
 refine enterRec (args := [_, _]) (fn := Tryz.f166) ⟨Tryz.func166, rfl, by kernel_rfl, by kernel_rfl⟩ 15 rfl rfl <| x_block <| zr <| tl_y rfl (y_eqNilIface rfl rfl) <| zq <| x_true rfl (rfl) <| x_region <| as0 rfl rfl <| tl_nil (.block_normal (.rec_normal (Le.refl _) ⟨rfl, rfl, rfl⟩))
theorem caughtB1_wrong {b c : Nat} {x e : Int} : ConD Tryz.prog 166 #[.pointer (some ⟨b, 0, none⟩), .pointer (some ⟨c, 0, none⟩)] (.panicking (lwrong e)) G M ((c, .cells #[.int .i64 x] 25 (0, 0)) :: (b, .cells #[.slice none 0 0] 22 (0, 0)) :: L)
  (fun u' M' L' => u' = .panicking [{ v := lwrongv e, recovered := true }] ∧ M' = M ∧ L' = (c, .cells #[.int .i64 e] 25 (0, 0)) :: (b, .cells #[.slice none 0 0] 22 (0, 0)) :: L) := by
 refine enterRec (args := [_, _]) (fn := Tryz.f166) ⟨Tryz.func166, rfl, by kernel_rfl, by kernel_rfl⟩ 15 rfl rfl <| x_block <| zr <| tl_y rfl (y_eqIfaceNil rfl rfl) <| zq <| x_false rfl (rfl) <| zr <| tl_y rfl (y_assertOk rfl (by intro _ h; cases h)) <| zx rfl rfl <| zx rfl rfl <| zq <| x_true rfl (rfl) <| zr <| tl_e rfl <| e_alloc <| fun b7 => tl_e rfl <| e_st rfl rfl (by rfl) (by rfl) <| zq <| .s3 0 1 3 rfl rfl rfl <| zr <| as0 rfl rfl <| zq <| x_draw0 4 ((b7, .cells #[.int .i64 e] 248 (0, 0)) :: []) Keeps.mem hmix rfl ?_
 refine zp 0 rfl rfl (y_move (v := .slice _ _ _) rfl) <| zp 1 rfl rfl (y_fieldAddr rfl) <| zy 2 rfl rfl (y_ld rfl rfl) <| ze 3 rfl rfl <| e_st rfl rfl (by rfl) (by rfl) <| ⟨⟨(by first | exact Le.refl _ | assumption), Keeps.mem⟩, ?_⟩
 refine zt 4 rfl rfl <| e_st rfl rfl (by rfl) (by rfl) <| zz (.block_normal (.dropTo ((c, .cells #[.int .i64 e] 25 (0, 0)) :: (b, .cells #[.slice none 0 0] 22 (0, 0)) :: L) ii (.rec_normal (Le.refl _) ⟨rfl, rfl, rfl⟩)))
theorem caughtB_spec {wf : FuncId} {first cap : List Value} {K : Option Addr → Nat → Nat → Mem → Prop} {Kp : Int → Prop}
  (hw : ∀ p q, Con Tryz.prog wf (first ++ [] ++ cap).toArray G M (p :: q :: L) (fun v M' L' => L' = p :: q :: L ∧ ∃ A n c, v = .slice A n c ∧ K A n c M') (fun ch M' L' => L' = p :: q :: L ∧ ∃ e, Kp e ∧ ch = lwrong e)) :
  Con Tryz.prog 124 #[.func (.func wf) first.toArray cap.toArray] G M L (fun v M' L' => L' = L ∧ ((∃ A n c, v = .tuple #[.slice A n c, .int .i64 0] ∧ K A n c M') ∨ (∃ e, v = .tuple #[.slice none 0 0, .int .i64 e] ∧ Kp e))) noPanic := by
 refine enterD (args := [_]) (fn := Tryz.f124) ⟨Tryz.func124, rfl, by kernel_rfl, by kernel_rfl⟩ 7 rfl <| zr <| tl_e rfl <| e_alloc <| fun b1 => tl_e rfl <| e_alloc <| fun b2 => zq <| zr <| tl_y rfl (y_makeFunc rfl rfl) <| tl_e rfl <| e_defer rfl rfl rfl <| zq <| zr <| mvF rfl rfl <| tl_e rfl (e_callv rfl rfl (hw _ _) (by
  rintro _ M1 _ hM1 ⟨rfl, e, hr, rfl⟩
  refine .retD (cap := [_, _]) (args := []) caughtB1_wrong ?_
  rintro _ M2 _ hM2 ⟨rfl, rfl, rfl⟩
  exact .inl ⟨rfl, _, L, rv2 rfl (rc_cell (by rfl) rfl (.own ii ii)) (rc_cell (by rfl) rfl (.own ii ii)), ii, hM1, rfl, .inr ⟨e, rfl, hr⟩⟩) ?_)
 rintro _ M1 _ hM1 ⟨rfl, A, n, c, rfl, hk⟩
 refine tl_e rfl <| e_st rfl rfl (by rfl) (by rfl) <| tl_e rfl <| e_st rfl rfl (by rfl) (by rfl) <| zq <| .s2 2 3 rfl rfl <| x_ret <| .retD (cap := [_, _]) (args := []) (caughtB1_ret (cs := [.slice A n c])) ?_
 rintro _ M2 _ hM2 ⟨rfl, rfl, rfl⟩
 exact .inl ⟨rfl, _, L, rv2 rfl (rc_cell (by rfl) rfl (.own ii ii)) (rc_cell (by rfl) rfl (.own ii ii)), ii, hM1, rfl, .inl ⟨A, n, c, rfl, hk⟩⟩
theorem caughtX1_ret {b c : Nat} {x : Int} {cs : List Value} : ConD Tryz.prog 217 #[.pointer (some ⟨b, 0, none⟩), .pointer (some ⟨c, 0, none⟩)] .returning G M ((c, .cells #[.int .i64 x] 25 (0, 0)) :: (b, .cells cs.toArray 63 (0, 0)) :: L) (fun u' M' L' => u' = .returning ∧ M' = M ∧ L' = (c, .cells #[.int .i64 x] 25 (0, 0)) :: (b, .cells cs.toArray 63 (0, 0)) :: L) := by
 refine enterRec (args := [_, _]) (fn := Tryz.f217) ⟨Tryz.func217, rfl, by kernel_rfl, by kernel_rfl⟩ 15 rfl rfl <| x_block <| zr <| tl_y rfl (y_eqNilIface rfl rfl) <| zq <| x_true rfl (rfl) <| x_region <| as0 rfl rfl <| tl_nil (.block_normal (.rec_normal (Le.refl _) ⟨rfl, rfl, rfl⟩))
theorem caughtX1_wrong {b c : Nat} {x e : Int} : ConD Tryz.prog 217 #[.pointer (some ⟨b, 0, none⟩), .pointer (some ⟨c, 0, none⟩)] (.panicking (lwrong e)) G M ((c, .cells #[.int .i64 x] 25 (0, 0)) :: (b, .cells #[.int .u32 0, .int .u32 0] 63 (0, 0)) :: L)
  (fun u' M' L' => u' = .panicking [{ v := lwrongv e, recovered := true }] ∧ M' = M ∧ L' = (c, .cells #[.int .i64 e] 25 (0, 0)) :: (b, .cells #[.int .u32 0, .int .u32 0] 63 (0, 0)) :: L) := by
 refine enterRec (args := [_, _]) (fn := Tryz.f217) ⟨Tryz.func217, rfl, by kernel_rfl, by kernel_rfl⟩ 15 rfl rfl <| x_block <| zr <| tl_y rfl (y_eqIfaceNil rfl rfl) <| zq <| x_false rfl (rfl) <| zr <| tl_y rfl (y_assertOk rfl (by intro _ h; cases h)) <| zx rfl rfl <| zx rfl rfl <| zq <| x_true rfl (rfl) <| zr <| tl_e rfl <| e_alloc <| fun b7 => tl_e rfl <| e_st rfl rfl (by rfl) (by rfl) <| zq <| .s3 0 1 3 rfl rfl rfl <| zr <| tl_e rfl <| e_alloc <| fun b8 => zq <| x_draw0 4 ((b7, .cells #[.int .i64 e] 248 (0, 0)) :: (b8, .cells #[.int .u32 0, .int .u32 0] 63 (0, 0)) :: []) Keeps.mem hmix rfl ?_
 refine zy 0 rfl rfl (y_lg rfl rfl) <| zp 1 rfl rfl (y_fieldAddr rfl) <| zy 2 rfl rfl (y_ld rfl rfl) <| ze 3 rfl rfl <| e_st rfl rfl (by rfl) (by rfl) <| ⟨⟨(by first | exact Le.refl _ | assumption), Keeps.mem⟩, ?_⟩
 refine zt 4 rfl rfl <| e_st rfl rfl (by rfl) (by rfl) <| zz (.block_normal (.dropTo ((c, .cells #[.int .i64 e] 25 (0, 0)) :: (b, .cells #[.int .u32 0, .int .u32 0] 63 (0, 0)) :: L) ii (.rec_normal (Le.refl _) ⟨rfl, rfl, rfl⟩)))
theorem caughtX_spec {wf : FuncId} {first cap : List Value} {K : PairV → Mem → Prop} {Kp : Int → Prop}
  (hw : ∀ p q, Con Tryz.prog wf (first ++ [] ++ cap).toArray G M (p :: q :: L) (fun v M' L' => L' = p :: q :: L ∧ ∃ x, v = .agg (List.toArray (PairV.cells x)) ∧ K x M') (fun ch M' L' => L' = p :: q :: L ∧ ∃ e, Kp e ∧ ch = lwrong e)) :
  Con Tryz.prog 167 #[.func (.func wf) first.toArray cap.toArray] G M L (fun v M' L' => L' = L ∧ ((∃ x, v = .tuple #[.agg (List.toArray (PairV.cells x)), .int .i64 0] ∧ K x M') ∨ (∃ e, v = .tuple #[.agg #[.int .u32 0, .int .u32 0], .int .i64 e] ∧ Kp e))) noPanic := by
 refine enterD (args := [_]) (fn := Tryz.f167) ⟨Tryz.func167, rfl, by kernel_rfl, by kernel_rfl⟩ 7 rfl <| zr <| tl_e rfl <| e_alloc <| fun b1 => tl_e rfl <| e_alloc <| fun b2 => zq <| zr <| tl_y rfl (y_makeFunc rfl rfl) <| tl_e rfl <| e_defer rfl rfl rfl <| zq <| zr <| mvF rfl rfl <| tl_e rfl (e_callv rfl rfl (hw _ _) (by
  rintro _ M1 _ hM1 ⟨rfl, e, hr, rfl⟩
  refine .retD (cap := [_, _]) (args := []) caughtX1_wrong ?_
  rintro _ M2 _ hM2 ⟨rfl, rfl, rfl⟩
  exact .inl ⟨rfl, _, L, rv2 rfl (rc_cellAgg (by rfl) rfl (.own ii ii)) (rc_cell (by rfl) rfl (.own ii ii)), ii, hM1, rfl, .inr ⟨e, rfl, hr⟩⟩) ?_)
 rintro _ M1 _ hM1 ⟨rfl, x, rfl, hk⟩
 refine tl_e rfl <| e_st rfl rfl (by rfl) (by rfl) <| tl_e rfl <| e_st rfl rfl (by rfl) (by rfl) <| zq <| .s2 2 3 rfl rfl <| x_ret <| .retD (cap := [_, _]) (args := []) (caughtX1_ret (cs := PairV.cells x)) ?_
 rintro _ M2 _ hM2 ⟨rfl, rfl, rfl⟩
 exact .inl ⟨rfl, _, L, rv2 rfl (rc_cellAgg (by rfl) rfl (.own ii ii)) (rc_cell (by rfl) rfl (.own ii ii)), ii, hM1, rfl, .inl ⟨x, rfl, hk⟩⟩
theorem lcode_spec (c : UInt32) :
  Con Tryz.prog 151 #[.int .u32 (c.toNat : Int)] G M L (fun v M' L' => L = L' ∧ ∃ A k, v = .slice A 4 k ∧ Bytes M' A 4 k (putB c.toNat 4)) noPanic := by
 have hc := c.toNat_lt
 refine en Tryz.func151 rfl 6 rfl <| zr <| as0 rfl rfl <| zq <| zr <| mvI rfl rfl <| tl_y rfl (y_convN64 rfl (by omega)) <| ec rfl rfl (PutV_spec c.toNat 4 (by omega) (by omega)) ?_
 rintro _ M1 _ hM1 ⟨rfl, A, k, rfl, hA⟩
 refine asS rfl rfl <| zq <| .s1 2 rfl <| x_ret (ret1 rfl rfl hM1 ⟨rfl, A, k, rfl, hA⟩)
theorem lsize_spec {x : PairV} {n w p H : Nat} (hx : PF x n w p H) :
  Con Tryz.prog 214 #[.agg (List.toArray (pcells (otsV x.o) (treeV x.t)))] G M L (fun v M' L' => M = M' ∧ L = L' ∧ v = .int .i64 ((sigN x : Nat) : Int)) noPanic := by
 obtain ⟨z1, z2, z3, z4, z5⟩ := hx.sizes
 have hm : (n : Int) * (H : Int) = ((n * H : Nat) : Int) := by push_cast; rfl
 refine en Tryz.func214 rfl 15 rfl <| zr <| tl_e rfl <| e_box rfl <| fun b1 => as0 rfl rfl <| zq <| x_seq <| x_draw 13 hmix rfl <| zp 0 rfl rfl (y_fieldAddr rfl) <| zy 1 rfl rfl (y_lg rfl rfl) <| zp 4 rfl rfl (y_fieldAddr rfl) ?_
 refine zp 5 rfl rfl (y_fieldAddr rfl) <| zy 6 rfl rfl (y_load (v := .int .i64 (n : Int)) rfl rfl (by rw [← hx.tn]; exact .own ii ii)) <| zp 7 rfl rfl (y_fieldAddr rfl) <| zp 8 rfl rfl (y_fieldAddr rfl) <| zy 9 rfl rfl (y_load (v := .int .i64 (H : Int)) rfl rfl (by rw [← hx.th]; exact .own ii ii)) <| zp 10 rfl rfl (y_mulI rfl rfl (by rw [hm]; omega)) ?_
 rw [hm]
 refine ze 2 rfl rfl <| e_call' rfl (oSize_spec (otsV x.o) hx.o) ?_
 rintro _ _ _ _ ⟨rfl, rfl, rfl⟩
 refine ⟨⟨(by first | exact Le.refl _ | assumption), Keeps.mem⟩, ?_⟩
 refine zp 3 rfl rfl (y_addI rfl rfl (by omega)) <| zp 11 rfl rfl (y_addI rfl rfl (by omega)) <| zp 12 rfl rfl (y_assign (v := .int _ _) rfl) <| zz <| .then_normal <| .s1 2 rfl <| x_ret (.dropTo L ii (ret1 rfl rfl (Le.refl _) ⟨rfl, rfl, by rw [z2]; congr 1⟩))
theorem made_spec (hg : LmG M) (x : PairV) {NA SA : Option Addr} {nl nc sl sc : Nat} :
  Con Tryz.prog 150 #[.agg (List.toArray x.cells), .agg (List.toArray (seedC NA nl nc SA sl sc))] G M L (fun v M' L' => L' = L ∧ mayC x nl sl = 0 ∧ v = .agg (List.toArray (pcells (otsV x.o) (treeV x.t)))) (fun ch M' L' => L' = L ∧ mayC x nl sl ≠ 0 ∧ ch = lwrong (mayC x nl sl)) := by
 refine en Tryz.func150 rfl 20 rfl <| zr <| tl_e rfl <| e_box rfl <| fun b1 => tl_e rfl <| e_box rfl <| fun b2 => tl_e rfl <| e_alloc <| fun b3 => zq <| zr <| tLg rfl rfl rfl <| tl_e rfl (e_call rfl (of_spec hg.hs x) (by
  rintro _ M1 _ hM1 ⟨rfl, hno, rfl⟩
  have e : mayC x nl sl = 4 := by rw [mayC, if_pos hno]
  exact TP.dropTo L ii (.retA rfl hM1 ⟨rfl, by rw [e]; decide, by rw [e]⟩)) ?_)
 rintro _ M1 _ hM1 ⟨rfl, hok, rfl⟩
 have hm := hM1
 refine tl_e rfl <| e_alloc <| fun b4 => tl_e rfl <| e_st rfl rfl (by rfl) (by rfl) <| zq <| .s3 3 4 5 rfl rfl rfl <| zr <| tFa rfl rfl <| tFa rfl rfl <| tLd rfl rfl rfl <| tl_y rfl (y_leq rfl rfl) <| mvB rfl rfl <| tl_cases (s := 12) rfl (fun hk1 => ?_) (fun hk1 => ?_)
 ·
  refine tFa rfl rfl <| tLg rfl rfl rfl <| tLg rfl rfl rfl <| ec rfl rfl (oMay_spec (hg.mono hm).ch.set (otsV x.o)) ?_
  rintro _ M2 _ hM2 ⟨rfl, rfl⟩
  replace hm := hm.trans hM2
  refine tPt rfl rfl rfl <| tl_e rfl (e_call rfl (lmust_spec _ _) (by
   rintro _ _ _ _ ⟨rfl, rfl, ht, rfl⟩
   have e : mayC x nl sl = 1 := by rw [mayC, if_neg (fun h => h hok), if_pos (.inr (by simpa using ht))]
   exact TP.dropTo L ii (.retA rfl hm ⟨rfl, by rw [e]; decide, by rw [e]⟩)) ?_)
  rintro _ _ _ _ ⟨rfl, rfl, ht⟩
  refine zq <| .s2 4 5 rfl rfl <| zr <| tLg rfl rfl rfl <| tl_e rfl <| e_st rfl rfl (by rfl) (by rfl) <| zq <| x_ret (retRV (L' := L) (rv1 rfl (rc_cellAgg (by rfl) rfl (.own ii ii))) ii hm ⟨rfl, mayC_ok hok (by simpa using hk1) (by simpa using ht), rfl⟩)
 refine tl_skip rfl <| tl_skip rfl <| tl_skip rfl <| tl_skip rfl <| tPf rfl rfl rfl <| tl_e rfl (e_call rfl (lmust_spec _ _) (by
  rintro _ _ _ _ ⟨rfl, rfl, ht, rfl⟩
  have e : mayC x nl sl = 1 := by rw [mayC, if_neg (fun h => h hok), if_pos (.inl (by omega))]
  exact TP.dropTo L ii (.retA rfl hm ⟨rfl, by rw [e]; decide, by rw [e]⟩)) ?_)
 rintro _ _ _ _ ⟨rfl, rfl, ht⟩
 refine zq <| .s2 4 5 rfl rfl <| zr <| tLg rfl rfl rfl <| tl_e rfl <| e_st rfl rfl (by rfl) (by rfl) <| zq <| x_ret (absurd ht (by simp))
theorem Sizes1_spec (hg : LmG M) (x : PairV) {b : Nat} [hb : Has L b (.cells (List.toArray x.cells) 63 (0, 0))] :
  Con Tryz.prog 213 #[.pointer (some ⟨b, 0, none⟩)] G M L (fun v M' L' => L' = L ∧ ∃ (o : OtsV) (t : TreeV), v = .agg (List.toArray (pcells o t)) ∧ okP x ∧ o = otsV x.o ∧ t = treeV x.t) (fun ch M' L' => L' = L ∧ ∃ e, (¬ okP x ∧ e = 4) ∧ ch = lwrong e) := by
 refine en Tryz.func213 rfl 4 rfl <| zr <| tl_e rfl <| e_alloc <| fun b1 => zq <| zr <| tLg rfl rfl rfl <| tl_e rfl (e_call rfl (of_spec hg.hs x) (by
  rintro _ M1 _ hM1 ⟨rfl, hno, rfl⟩
  exact TP.dropTo L ii (.retA rfl hM1 ⟨rfl, 4, ⟨hno, rfl⟩, rfl⟩)) ?_)
 rintro _ M1 _ hM1 ⟨rfl, hok, rfl⟩
 refine tl_e rfl <| e_st rfl rfl (by rfl) (by rfl) <| zq <| x_ret (retRV (L' := L) (rv1 rfl (rc_cellAgg (by rfl) rfl (.own ii ii))) ii hM1 ⟨rfl, _, _, rfl, hok, rfl, rfl⟩)
theorem Sizes_spec (hg : LmG M) (x : PairV) :
  Con Tryz.prog 164 #[.agg (List.toArray x.cells)] G M L (fun v M' L' => L' = L ∧ v = .tuple #[.int .i64 ((szP x : Nat) : Int), .int .i64 ((szS x : Nat) : Int)]) noPanic := by
 refine en Tryz.func164 rfl 19 rfl <| zr <| tl_e rfl <| e_box rfl <| fun b1 => as0 rfl rfl <| as0 rfl rfl <| zq <| zr <| tl_y rfl (y_makeFunc rfl rfl) <| ec rfl rfl (caughtP_spec (K := fun o t _ => okP x ∧ o = otsV x.o ∧ t = treeV x.t) (Kp := fun e => ¬ okP x ∧ e = 4) (first := []) (cap := [.pointer (some ⟨b1, 0, none⟩)]) (fun p' q' => Sizes1_spec hg x)) ?_
 rintro v M1 _ hM1 ⟨rfl, hv⟩
 obtain ⟨o, t, e, rfl, he, hot⟩ : ∃ (o : OtsV) (t : TreeV) (e : Int), v = .tuple #[.agg (List.toArray (pcells o t)), .int .i64 e] ∧ (e = 0 ↔ okP x) ∧ (okP x → o = otsV x.o ∧ t = treeV x.t) := by
  rcases hv with ⟨o, t, rfl, hok, h1, h2⟩ | ⟨e, rfl, hno, rfl⟩
  ·
   exact ⟨o, t, 0, rfl, iff_of_true rfl hok, fun _ => ⟨h1, h2⟩⟩
  exact ⟨ots0, tree0, 4, rfl, iff_of_false (by decide) hno, fun h => absurd h hno⟩
 refine mvU rfl rfl <| zx rfl rfl <| zx rfl rfl <| tl_e rfl <| e_alloc <| fun b2 => tl_e rfl <| e_st rfl rfl (by rfl) (by rfl) <| asI rfl rfl <| zq <| .s2 4 5 rfl rfl <| zr2 <| mvI rfl rfl <| tl_y rfl (y_neq rfl rfl) <| zq <| x_cond rfl (fun hc1 => ?_) (fun hc1 => ?_)
 ·
  refine zr <| as0 rfl rfl <| as0 rfl rfl <| zq <| .s2 2 3 rfl rfl <| x_ret (.then_ret (.dropTo L ii (ret2 rfl rfl rfl hM1 ⟨rfl, by rw [szP, szS, if_neg (fun h => hc1 (he.2 h)), if_neg (fun h => hc1 (he.2 h))]; rfl⟩)))
 have hok : okP x := he.1 (Classical.not_not.1 hc1)
 obtain ⟨rfl, rfl⟩ := hot hok
 obtain ⟨n, w, p, H, hx⟩ := okP_facts hok
 obtain ⟨z1, z2, z3, z4, z5⟩ := hx.sizes
 have hn32 := hx.o.n32
 refine x_skip <| .then_normal <| x_seq <| x_draw 8 hmix rfl <| zp 0 rfl rfl (y_fieldAddr rfl) <| zp 1 rfl rfl (y_fieldAddr rfl) <| zy 2 rfl rfl (y_load (v := .int .i64 (n : Int)) rfl rfl (by rw [← hx.tn]; exact .own ii ii)) <| zp 3 rfl rfl (y_addI rfl rfl (by omega)) <| zy 4 rfl rfl (y_lg rfl rfl) <| ze 5 rfl rfl <| e_call' rfl (lsize_spec hx) ?_
 rintro _ _ _ _ ⟨rfl, rfl, rfl⟩
 refine ⟨⟨(by first | exact Le.refl _ | assumption), Keeps.mem⟩, ?_⟩
 refine zp 6 rfl rfl (y_assign (v := .int _ _) rfl) <| zp 7 rfl rfl (y_assign (v := .int _ _) rfl) <| zz <| .then_normal <| .s2 2 3 rfl rfl <| x_ret (.dropTo L ii (ret2 rfl rfl rfl hM1 ⟨rfl, by rw [szP, szS, if_pos hok, if_pos hok, z1]; congr 4⟩))
end
section
variable {G : World} {M : Mem} {L : Own} {NA SA TA : Option Addr} {nl nc sl sc tl tc : Nat} {name sec text : List UInt8}
theorem range_snoc {α : Type} (rows : Nat → α) (k : Nat) : (List.range (k + 1)).map rows = (List.range k).map rows ++ [rows k] := by rw [List.range_succ, List.map_append]; rfl
theorem each_lspec {n : Nat} (hn : n ≤ 33554432) {fid : FuncId} {cap : List Value} {rows : Nat → List UInt8} (hl : ∀ i, (rows i).length ≤ 32)
  (hdo : ∀ (z : UInt32) (i : Nat) (M1 : Mem) (X : Own), z.toNat = i → i < n → Le M M1 → (∀ e ∈ L, e ∈ X) → Con Tryz.prog fid (([] : List Value) ++ [Value.int .u32 (i : Int)] ++ cap).toArray G M1 X (fun v M' L' => X = L' ∧ ∃ A m c, v = .slice A m c ∧ Bytes M' A m c (rows i)) noPanic) :
  Con Tryz.prog 195 #[.int .u64 (n : Int), .func (.func fid) #[] cap.toArray] G M L (fun v M' L' => L = L' ∧ ∃ A c vs, v = .slice A n c ∧ Row M' 1 A n c vs ∧ BRows M' vs ((List.range n).map rows)) noPanic := by
 refine en Tryz.func195 rfl 22 rfl <| zr <| as0 rfl rfl <| zq <| zr <| mvI rfl rfl <| tl_e rfl <| e_make1 rfl rfl (by omega) (by omega) (by omega) (by omega) <| fun b1 => asS rfl rfl <| zq <| zr2 <| mvI rfl rfl <| mv0 rfl rfl <| zq <| .s4 1 5 9 10 rfl rfl rfl rfl <| x_block ?_
 refine x_loop (I := fun m' F D M1 L1 => ∃ (i : Nat) (A : Option Addr) (c : Nat) (E : Own) (vs : List Value), m' = n - i ∧ i ≤ n ∧ Le M M1 ∧ OwnRow 22 1 A i c vs E ∧ BRows M1 vs ((List.range i).map rows) ∧ D = [] ∧ L1 = E ++ L ∧ F = [(1, .func (.func fid) #[] cap.toArray), (5, .slice A i c), (9, .int .u64 (n : Int)), (10, .int .u64 (i : Int))]) (n) (F0 := [(1, _), (5, _), (9, _), (10, _)]) ?_ (cs4 rfl rfl rfl rfl) ?_
 ·
  exact ⟨0, _, _, _, [], rfl, by omega, Le.refl _, OwnRow.made0 (n := n) (by simp) (by omega), .nil, rfl, rfl, rfl⟩
 rintro m _ _ M1 _ ⟨i, A, c, E, vs, rfl, hi, hM1, hE, hB, rfl, rfl, rfl⟩
 refine zr <| tl_y rfl (y_lss rfl rfl) <| zq <| x_seq <| x_cond rfl (fun hc1 => ?_) (fun hc1 => ?_)
 ·
  have hip : i < n := by omega
  obtain ⟨z, hz⟩ : ∃ z : UInt32, z.toNat = i := ⟨UInt32.ofNat i, by rw [UInt32.toNat_ofNat', Nat.mod_eq_of_lt (by omega)]⟩
  refine x_skip <| .then_normal <| x_seq <| x_block <| zr <| mvI rfl rfl <| asI rfl rfl <| zq <| x_region <| mvS rfl rfl <| mvF rfl rfl <| mvI rfl rfl <| tl_y rfl (y_convN32 rfl (by omega)) <| tl_e rfl <| e_callv rfl rfl (hdo z i M1 _ hz hip hM1 Keeps.mem) (fun _ _ _ _ h => h.elim) ?_
  rintro _ M2 _ hM2 ⟨rfl, A2, m2, c2, rfl, hA2⟩
  refine tl_e rfl <| e_buildSlice rfl (by decide) <| fun b2 => .pub b2 ii <| fun M3 hM3 hb3 => tl_e rfl <| e_append (by decide) rfl rfl hE (.row (Row.whole (s := 1) hb3 rfl (by omega))) rfl (by omega) (by omega) <| fun A7 c7 E7 hE7 => asS rfl rfl <| tl_nil <| .block_normal <| .then_normal <| .s4 1 5 9 10 rfl rfl rfl rfl <| x_region <| tl_y rfl (y_addN64 rfl rfl (by omega)) <| mvI rfl rfl <| tl_nil <| .loop_next (m' := n - (i + 1)) (by omega) (F' := [(1, _), (5, _), (9, _), (10, _)]) (cs4 rfl rfl rfl rfl) ?_
  exact ⟨i + 1, A7, c7, E7, _, rfl, by omega, hM1.trans (hM2.trans hM3), hE7, by rw [range_snoc]; exact (hB.mono (hM2.trans hM3)).snoc (hA2.mono hM3), rfl, rfl, rfl⟩
 obtain rfl : i = n := by omega
 refine .pubRow hE <| fun M4 hM4 hrow => x_exit <| .then_exit <| .loop_exit <| .block_exit <| .then_normal <| .s1 5 rfl <| zr <| mvS rfl rfl <| asS rfl rfl <| zq <| x_ret (ret1 rfl rfl (hM1.trans hM4) ⟨rfl, _, _, _, rfl, hrow, hB.mono hM4⟩)
theorem lkeys1_spec (hg : LmG M) (x : PairV) (hy : okY (otsV x.o) nl sl) (hname : Bytes M NA nl nc name) (hsec : Bytes M SA sl sc sec) (q : UInt32) {bx bs : Nat}
  [i1 : Has L bx (.cells (List.toArray (pcells (otsV x.o) (treeV x.t))) 202 (0, 0))] [i2 : Has L bs (.cells (List.toArray (seedC NA nl nc SA sl sc)) 33 (0, 0))] :
  Con Tryz.prog 196 #[.int .u32 (q.toNat : Int), .pointer (some ⟨bx, 0, none⟩), .pointer (some ⟨bs, 0, none⟩)] G M L (fun v M' L' => L = L' ∧ ∃ A m c, v = .slice A m c ∧ Bytes M' A m c (keyB (otsV x.o) name sec q.toNat)) noPanic := by
 refine en Tryz.func196 rfl 10 rfl <| zr <| as0 rfl rfl <| zq <| zr <| tFa rfl rfl <| tLg rfl rfl rfl <| tLg rfl rfl rfl <| mvI rfl rfl <| ec rfl rfl (oKey_spec hg.ch (otsV x.o) hname hsec q) ?_
 rintro _ M1 _ hM1 ⟨rfl, A, m, c, rfl, hA⟩
 rw [if_pos hy] at hA
 refine asS rfl rfl <| zq <| .s1 4 rfl <| x_ret (ret1 rfl rfl hM1 ⟨rfl, _, _, _, rfl, hA⟩)
theorem lkeys_spec (hg : LmG M) {x : PairV} {n w p H : Nat} (hx : PF x n w p H) (hy : okY (otsV x.o) nl sl) (hname : Bytes M NA nl nc name) (hsec : Bytes M SA sl sc sec) :
  Con Tryz.prog 153 #[.agg (List.toArray (pcells (otsV x.o) (treeV x.t))), .agg (List.toArray (seedC NA nl nc SA sl sc))] G M L (fun v M' L' => L = L' ∧ ∃ A c vs, v = .slice A (pw2 H) c ∧ Row M' 1 A (pw2 H) c vs ∧ BRows M' vs (keysX x name sec)) noPanic := by
 have hpw := pw2_25 hx.h2
 refine en Tryz.func153 rfl 10 rfl <| zr <| tl_e rfl <| e_box rfl <| fun b1 => tl_e rfl <| e_box rfl <| fun b2 => as0 rfl rfl <| zq <| zr <| tFa rfl rfl <| tLg rfl rfl rfl <| ec rfl rfl (Leaves_spec (treeV x.t)) ?_
 rintro _ _ _ _ ⟨rfl, rfl, rfl⟩
 rw [hx.lv]
 refine tl_y rfl (y_makeFunc rfl rfl) <| tl_e rfl (e_call' rfl (each_lspec (rows := fun q => keyB (otsV x.o) name sec q) hpw (fun i => keyB_le _ _ _ _) (fun z i M2 X hz hi hM2 hX => by
  subst hz
  haveI i1 : Has X b1 (.cells (List.toArray (pcells (otsV x.o) (treeV x.t))) 202 (0, 0)) := ⟨hX _ (Has.mem)⟩
  haveI i2 : Has X b2 (.cells (List.toArray (seedC NA nl nc SA sl sc)) 33 (0, 0)) := ⟨hX _ (Has.mem)⟩
  exact lkeys1_spec (hg.mono hM2) x hy (hname.mono hM2) (hsec.mono hM2) z)) ?_)
 rintro _ M2 _ hM2 ⟨rfl, A2, c2, vs, rfl, hrow, hB⟩
 refine asS rfl rfl <| zq <| .s1 4 rfl <| x_ret (.dropTo L ii (ret1 rfl rfl hM2 ⟨rfl, _, _, _, rfl, hrow, by rw [keysX, hx.lv]; exact hB⟩))
theorem Public1_lspec (hg : LmG M) (x : PairV) (hname : Bytes M NA nl nc name) (hsec : Bytes M SA sl sc sec) {bp bs : Nat}
  [i1 : Has L bp (.cells (List.toArray x.cells) 63 (0, 0))] [i2 : Has L bs (.cells (List.toArray (seedC NA nl nc SA sl sc)) 33 (0, 0))] :
  Con Tryz.prog 149 #[.pointer (some ⟨bp, 0, none⟩), .pointer (some ⟨bs, 0, none⟩)] G M L (fun v M' L' => L' = L ∧ ∃ A m c, v = .slice A m c ∧ mayC x nl sl = 0 ∧ Bytes M' A m c (pubB x name sec)) (fun ch M' L' => L' = L ∧ ∃ e, (mayC x nl sl ≠ 0 ∧ e = mayC x nl sl) ∧ ch = lwrong e) := by
 refine en Tryz.func149 rfl 25 rfl <| zr <| as0 rfl rfl <| zq <| zr <| tLg rfl rfl rfl <| tLg rfl rfl rfl <| tl_e rfl (e_call rfl (made_spec hg x) (by
  rintro _ M1 _ hM1 ⟨rfl, hno, rfl⟩
  exact .retA rfl hM1 ⟨rfl, _, ⟨hno, rfl⟩, rfl⟩) ?_)
 rintro _ M1 L hM1 ⟨rfl, hmay, rfl⟩
 obtain ⟨hok, hH10, hy⟩ := mayC_zero hmay
 obtain ⟨n, w, p, H, hx⟩ := okP_facts hok
 have hn32 := hx.o.n32
 have hnl := hy.2.1
 have hnn := hname.size
 have hpw := pw2_25 hx.h2
 refine tl_e rfl <| e_alloc <| fun b1 => tl_e rfl <| e_st rfl rfl (by rfl) (by rfl) <| zq <| .s3 0 1 3 rfl rfl rfl <| x_seq ?_
 have he : Le M1 M1 := Le.refl _
 have hd : Le M M1 := hM1
 refine x_draw 19 hmix rfl <| zp 0 rfl rfl (y_fieldAddr rfl) <| zy 1 rfl rfl (y_ld rfl rfl) <| zp 3 rfl rfl (y_fieldAddr rfl) <| zy 4 rfl rfl (y_ld rfl rfl) <| zp 6 rfl rfl (y_fieldAddr rfl) <| zy 7 rfl rfl (y_ld rfl rfl) <| zp 8 rfl rfl (y_fieldAddr rfl) <| zy 9 rfl rfl (y_lg rfl rfl) <| zp 10 rfl rfl (y_fieldAddr rfl) ?_
 refine zy 11 rfl rfl (y_ld rfl rfl) <| zy 12 rfl rfl (y_lg rfl rfl) <| zy 13 rfl rfl (y_lg rfl rfl) <| ze 2 rfl rfl <| e_call' rfl (lcode_spec x.t) ?_
 rintro _ M2 _ hM2 ⟨rfl, A2, c2, rfl, hA2⟩
 replace hd := hd.trans hM2
 replace he := he.trans hM2
 try replace hA3 := hA3.mono hM2
 try replace hA5 := hA5.mono hM2
 try replace hrow := hrow.mono hM2
 try replace hB := hB.mono hM2
 refine ⟨⟨he, Keeps.mem⟩, ?_⟩
 refine ze 5 rfl rfl <| e_call' rfl (lcode_spec x.o) ?_
 rintro _ M3 _ hM3 ⟨rfl, A3, c3, rfl, hA3⟩
 replace hd := hd.trans hM3
 replace he := he.trans hM3
 try replace hA2 := hA2.mono hM3
 try replace hA5 := hA5.mono hM3
 try replace hrow := hrow.mono hM3
 try replace hB := hB.mono hM3
 refine ⟨⟨he, Keeps.mem⟩, ?_⟩
 refine ze 14 rfl rfl <| e_call' rfl (lkeys_spec (hg.mono hd) hx hy (hname.mono hd) (hsec.mono hd)) ?_
 rintro _ M4 _ hM4 ⟨rfl, A4, c4, kvs, rfl, hrow, hB⟩
 replace hd := hd.trans hM4
 replace he := he.trans hM4
 try replace hA2 := hA2.mono hM4
 try replace hA3 := hA3.mono hM4
 refine ⟨⟨he, Keeps.mem⟩, ?_⟩
 refine ze 15 rfl rfl <| e_call' rfl (Root_spec (hg.mono hd).mr (treeV x.t) (hname.mono hd) hrow hB (keysB_le _ _ _ _)) ?_
 rintro _ M5 _ hM5 ⟨rfl, A5, m5, c5, rfl, hA5⟩
 rw [if_pos ⟨by rw [hnl]; exact hx.s, hH10, hx.lv.symm⟩] at hA5
 replace hd := hd.trans hM5
 replace he := he.trans hM5
 try replace hA2 := hA2.mono hM5
 try replace hA3 := hA3.mono hM5
 refine ⟨⟨he, Keeps.mem⟩, ?_⟩
 refine ze 16 rfl rfl <| e_buildSlice rfl (by decide) <| fun b7 => ⟨⟨he, Keeps.mem⟩, ?_⟩
 refine .pub b7 ii <| fun M6 hM6 hb7 => ?_
 have hd6 := hd.trans hM6
 have he6 := he.trans hM6
 have hfl : [putB x.t.toNat 4, putB x.o.toNat 4, name, rootB (treeV x.t) name (keysX x name sec)].flatten = pubB x name sec := by simp [pubB]
 have hm5 := hA5.size
 have hrl : (rootB (treeV x.t) name (keysX x name sec)).length ≤ 32 := (lvl_short _ _ _ _).get 0
 have hfll : (pubB x name sec).length ≤ 100 := by
  rw [pubB, List.length_append, List.length_append, List.length_append, putB_length, putB_length]; omega
 refine ze 17 rfl rfl <| e_call' rfl (Cat_spec (Row.whole hb7 rfl (by omega)) (.cons (hA2.mono hM6) (.cons (hA3.mono hM6) (.cons (hname.mono hd6) (.cons (hA5.mono hM6) .nil)))) (by rw [hfl]; omega)) ?_
 rintro _ M7 _ hM7 ⟨rfl, A7, c7, rfl, hA7⟩
 rw [hfl] at hA7
 rw [hfl]
 replace hd6 := hd6.trans hM7
 replace he6 := he6.trans hM7
 refine ⟨⟨he6, Keeps.mem⟩, ?_⟩
 refine zp 18 rfl rfl (y_assign (v := .slice _ _ _) rfl) <| zz <| .then_normal <| .s1 2 rfl <| x_ret (.dropTo L ii (ret1 rfl rfl hd6 ⟨rfl, _, _, _, rfl, hmay, hA7⟩))
theorem Public_lspec (hg : LmG M) (x : PairV) (hname : Bytes M NA nl nc name) (hsec : Bytes M SA sl sc sec) :
  Con Tryz.prog 105 #[.agg (List.toArray x.cells), .agg (List.toArray (seedC NA nl nc SA sl sc))] G M L (fun v M' L' => L' = L ∧ ∃ A m c, v = .tuple #[.slice A m c, .int .i64 (mayC x nl sl)] ∧ Bytes M' A m c (pubV x nl sl name sec)) noPanic := by
 refine en Tryz.func105 rfl 10 rfl <| zr <| tl_e rfl <| e_box rfl <| fun b1 => tl_e rfl <| e_box rfl <| fun b2 => as0 rfl rfl <| as0 rfl rfl <| zq <| .s2 2 3 rfl rfl <| zr <| tl_y rfl (y_makeFunc rfl rfl) <| ec rfl rfl (caughtB_spec (K := fun A m c M' => mayC x nl sl = 0 ∧ Bytes M' A m c (pubB x name sec)) (Kp := fun e => mayC x nl sl ≠ 0 ∧ e = mayC x nl sl) (first := []) (cap := [.pointer (some ⟨b1, 0, none⟩), .pointer (some ⟨b2, 0, none⟩)]) (fun p' q' => Public1_lspec hg x hname hsec)) ?_
 rintro v M1 _ hM1 ⟨rfl, hv⟩
 obtain ⟨A2, m2, c2, rfl, hA⟩ : ∃ A m c, v = .tuple #[.slice A m c, .int .i64 (mayC x nl sl)] ∧ Bytes M1 A m c (pubV x nl sl name sec) := by
  rcases hv with ⟨A, m, c, rfl, h0, hb⟩ | ⟨e, rfl, hno, rfl⟩
  ·
   exact ⟨A, m, c, by rw [h0], by rw [pubV, if_pos h0]; exact hb⟩
  exact ⟨none, 0, 0, rfl, by rw [pubV, if_neg hno]; exact Row.nil _ _⟩
 refine zx rfl rfl <| zx rfl rfl <| asS rfl rfl <| asI rfl rfl <| zq <| .s2 4 5 rfl rfl <| x_ret (.dropTo L ii (ret2 rfl rfl rfl hM1 ⟨rfl, _, _, _, rfl, hA⟩))
end
section
variable {G : World} {M : Mem} {L : Own} {NA SA TA : Option Addr} {nl nc sl sc tl tc : Nat} {name sec text : List UInt8}
theorem lsigE_may {x : PairV} {nl sl q tl : Nat} (h : mayC x nl sl ≠ 0) : lsigE x nl sl q tl = mayC x nl sl := by rw [lsigE, if_pos h]
theorem way_le {x : PairV} (name sec : List UInt8) (q k : Nat) : (wayB (treeV x.t) name (keysX x name sec) q k).flatten.length ≤ k * 32 := by
 rw [way_flat]
 exact catR_le (fun i => (lvl_short _ _ _ _).get _) k
theorem Sign1_lspec (hg : LmG M) (x : PairV) (hname : Bytes M NA nl nc name) (hsec : Bytes M SA sl sc sec) (q : UInt32) (htext : Bytes M TA tl tc text) {bp bs bq bt : Nat}
  [i1 : Has L bp (.cells (List.toArray x.cells) 63 (0, 0))] [i2 : Has L bs (.cells (List.toArray (seedC NA nl nc SA sl sc)) 33 (0, 0))] [i3 : Has L bq (.cells #[.int .u32 (q.toNat : Int)] 61 (0, 0))] [i4 : Has L bt (.cells #[.slice TA tl tc] 22 (0, 0))] :
  Con Tryz.prog 154 #[.pointer (some ⟨bp, 0, none⟩), .pointer (some ⟨bs, 0, none⟩), .pointer (some ⟨bt, 0, none⟩), .pointer (some ⟨bq, 0, none⟩)] G M L (fun v M' L' => L' = L ∧ ∃ A m c, v = .slice A m c ∧ lsigE x nl sl q.toNat tl = 0 ∧ Bytes M' A m c (lsigB x name sec q.toNat text)) (fun ch M' L' => L' = L ∧ ∃ e, (lsigE x nl sl q.toNat tl ≠ 0 ∧ e = lsigE x nl sl q.toNat tl) ∧ ch = lwrong e) := by
 have hql := q.toNat_lt
 refine en Tryz.func154 rfl 45 rfl <| zr <| as0 rfl rfl <| zq <| zr <| tLg rfl rfl rfl <| tLg rfl rfl rfl <| tl_e rfl (e_call rfl (made_spec hg x) (by
  rintro _ M1 _ hM1 ⟨rfl, hno, rfl⟩
  exact .retA rfl hM1 ⟨rfl, _, ⟨by rw [lsigE_may hno]; exact hno, rfl⟩, by rw [lsigE_may hno]⟩) ?_)
 rintro _ M1 L hM1 ⟨rfl, hmay, rfl⟩
 obtain ⟨hok, hH10, hy⟩ := mayC_zero hmay
 obtain ⟨n, w, p, H, hx⟩ := okP_facts hok
 obtain ⟨z1, z2, z3, z4, z5⟩ := hx.sizes
 have hn32 := hx.o.n32
 have hnl := hy.2.1
 have hnn := hname.size
 have hpw := pw2_25 hx.h2
 have hHh := hx.th
 have hd : Le M M1 := hM1
 refine tl_e rfl <| e_alloc <| fun b1 => tl_e rfl <| e_st rfl rfl (by rfl) (by rfl) <| zq <| .s5 0 1 2 3 5 rfl rfl rfl rfl rfl <| zr <| tLd rfl rfl rfl <| tLen rfl rfl <| tl_y rfl (y_leq rfl rfl) <| tl_e rfl (e_call rfl (lmust_spec _ _) (by
  rintro _ _ _ _ ⟨rfl, rfl, ht, rfl⟩
  have e : lsigE x nl sl q.toNat tl = 1 := by rw [lsigE, if_neg (fun h => h hmay), if_pos (by simp at ht; omega)]
  exact TP.dropTo L ii (.retA rfl hd ⟨rfl, _, ⟨by rw [e]; decide, rfl⟩, by rw [e]⟩)) ?_)
 rintro _ _ _ _ ⟨rfl, rfl, ht⟩
 have htl : tl ≤ 65536 := by simp at ht; omega
 refine zq <| .s5 0 1 2 3 5 rfl rfl rfl rfl rfl <| x_seq <| x_draw 7 hmix rfl <| zy 0 rfl rfl (y_ld rfl rfl) <| zp 1 rfl rfl (y_convN64 rfl (by omega)) <| zp 2 rfl rfl (y_fieldAddr rfl) <| zy 3 rfl rfl (y_lg rfl rfl) <| ze 4 rfl rfl <| e_call' rfl (Leaves_spec (treeV x.t)) ?_
 rintro _ _ _ _ ⟨rfl, rfl, rfl⟩
 rw [hx.lv]
 refine ⟨⟨(by first | exact Le.refl _ | assumption), Keeps.mem⟩, ?_⟩
 refine zp 5 rfl rfl (y_lss rfl rfl) <| to_e 6 rfl (by kernel_rfl) rfl (e_call rfl (lmust_spec _ _) (by
  rintro _ _ _ _ ⟨rfl, rfl, ht, rfl⟩
  have e : lsigE x nl sl q.toNat tl = 9 := by rw [lsigE, if_neg (fun h => h hmay), if_neg (by omega), hx.lv, if_pos (by simp at ht; omega)]
  exact TP.dropTo L ii (.retA rfl hd ⟨rfl, _, ⟨by rw [e]; decide, rfl⟩, by rw [e]⟩)) ?_)
 rintro _ _ _ _ ⟨rfl, rfl, ht⟩
 have hq : q.toNat < pw2 H := by simp at ht; omega
 have hE0 : lsigE x nl sl q.toNat tl = 0 := by rw [lsigE, if_neg (fun h => h hmay), if_neg (by omega), hx.lv, if_neg (by omega)]
 refine ⟨⟨(by first | exact Le.refl _ | assumption), Keeps.mem⟩, ?_⟩
 refine zz <| .then_normal <| .s5 0 1 2 3 5 rfl rfl rfl rfl rfl <| x_seq ?_
 have he : Le M1 M1 := Le.refl _
 refine x_draw 10 hmix rfl <| zp 0 rfl rfl (y_fieldAddr rfl) <| zy 1 rfl rfl (y_lg rfl rfl) <| zp 2 rfl rfl (y_fieldAddr rfl) <| zy 3 rfl rfl (y_ld rfl rfl) <| zy 4 rfl rfl (y_lg rfl rfl) <| zy 5 rfl rfl (y_lg rfl rfl) <| zy 7 rfl rfl (y_ld rfl rfl) <| ze 6 rfl rfl <| e_call' rfl (lkeys_spec (hg.mono hd) hx hy (hname.mono hd) (hsec.mono hd)) ?_
 rintro _ M4 _ hM4 ⟨rfl, A4, c4, kvs, rfl, hrow, hB⟩
 replace hd := hd.trans hM4
 replace he := he.trans hM4
 refine ⟨⟨he, Keeps.mem⟩, ?_⟩
 refine ze 8 rfl rfl <| e_call' rfl (Way_spec (hg.mono hd).mr (treeV x.t) (hname.mono hd) hrow hB (keysB_le _ _ _ _) q) ?_
 rintro _ M5 _ hM5 ⟨rfl, AW, mW, cW, wvs, rfl, hwr, hwB⟩
 rw [if_pos ⟨⟨by rw [hnl]; exact hx.s, hH10, hx.lv.symm⟩, hq⟩] at hwB
 replace hd := hd.trans hM5
 replace he := he.trans hM5
 refine ⟨⟨he, Keeps.mem⟩, ?_⟩
 refine zp 9 rfl rfl (y_assign (v := .slice _ _ _) rfl) <| zz <| .then_normal <| .s6 0 1 2 3 5 6 rfl rfl rfl rfl rfl rfl <| x_seq ?_
 have he : Le M5 M5 := Le.refl _
 obtain ⟨sgl, _, _, _⟩ := sig_parts hx.o (name := name) (by omega) sec q.toNat text
 have hwfl := way_le (x := x) name sec q.toNat (treeV x.t).h.toNat
 have hHN : (treeV x.t).h.toNat ≤ 25 := by rw [hHh]; exact hx.h2
 refine x_draw 16 hmix rfl <| zy 0 rfl rfl (y_ld rfl rfl) <| zp 2 rfl rfl (y_fieldAddr rfl) <| zy 3 rfl rfl (y_lg rfl rfl) <| zy 4 rfl rfl (y_lg rfl rfl) <| zy 5 rfl rfl (y_ld rfl rfl) <| zy 6 rfl rfl (y_ld rfl rfl) <| zp 8 rfl rfl (y_fieldAddr rfl) <| zy 9 rfl rfl (y_ld rfl rfl) <| zp 11 rfl rfl (y_move (v := .slice _ _ _) rfl) ?_
 refine ze 1 rfl rfl <| e_call' rfl (lcode_spec q) ?_
 rintro _ M6 _ hM6 ⟨rfl, AQ, cQ, rfl, hAQ⟩
 replace hd := hd.trans hM6
 replace he := he.trans hM6
 replace hwr := hwr.mono hM6
 replace hwB := hwB.mono hM6
 try replace hAS := hAS.mono hM6
 try replace hAT := hAT.mono hM6
 try replace hAF := hAF.mono hM6
 refine ⟨⟨he, Keeps.mem⟩, ?_⟩
 refine ze 7 rfl rfl <| e_call' rfl (oSign_spec (hg.mono hd).ch (otsV x.o) (hname.mono hd) (hsec.mono hd) q (htext.mono hd)) ?_
 rintro _ M7 _ hM7 ⟨rfl, AS, mS, cS, rfl, hAS⟩
 rw [if_pos ⟨hy, htl⟩] at hAS
 replace hd := hd.trans hM7
 replace he := he.trans hM7
 replace hwr := hwr.mono hM7
 replace hwB := hwB.mono hM7
 try replace hAQ := hAQ.mono hM7
 try replace hAT := hAT.mono hM7
 try replace hAF := hAF.mono hM7
 refine ⟨⟨he, Keeps.mem⟩, ?_⟩
 refine ze 10 rfl rfl <| e_call' rfl (lcode_spec x.t) ?_
 rintro _ M8 _ hM8 ⟨rfl, AT, cT, rfl, hAT⟩
 replace hd := hd.trans hM8
 replace he := he.trans hM8
 replace hwr := hwr.mono hM8
 replace hwB := hwB.mono hM8
 try replace hAQ := hAQ.mono hM8
 try replace hAS := hAS.mono hM8
 try replace hAF := hAF.mono hM8
 refine ⟨⟨he, Keeps.mem⟩, ?_⟩
 refine ze 12 rfl rfl <| e_call' rfl (Cat_spec hwr hwB (by omega)) ?_
 rintro _ M9 _ hM9 ⟨rfl, AF, cF, rfl, hAF⟩
 replace hd := hd.trans hM9
 replace he := he.trans hM9
 replace hwr := hwr.mono hM9
 replace hwB := hwB.mono hM9
 try replace hAQ := hAQ.mono hM9
 try replace hAS := hAS.mono hM9
 try replace hAT := hAT.mono hM9
 refine ⟨⟨he, Keeps.mem⟩, ?_⟩
 refine ze 13 rfl rfl <| e_buildSlice rfl (by decide) <| fun b7 => ⟨⟨he, Keeps.mem⟩, ?_⟩
 refine .pub b7 ii <| fun M10 hM10 hb7 => ?_
 have hd6 := hd.trans hM10
 have he6 := he.trans hM10
 have hfl : [putB q.toNat 4, sigB (otsV x.o) name sec q.toNat text, putB x.t.toNat 4, (wayB (treeV x.t) name (keysX x name sec) q.toNat (treeV x.t).h.toNat).flatten].flatten = lsigB x name sec q.toNat text := by simp [lsigB]
 have hfll : (lsigB x name sec q.toNat text).length ≤ 20000 := by
  rw [lsigB, List.length_append, List.length_append, List.length_append, putB_length, putB_length, sgl]; omega
 refine ze 14 rfl rfl <| e_call' rfl (Cat_spec (Row.whole hb7 rfl (by omega)) (.cons (hAQ.mono hM10) (.cons (hAS.mono hM10) (.cons (hAT.mono hM10) (.cons (hAF.mono hM10) .nil)))) (by rw [hfl]; omega)) ?_
 rintro _ M11 _ hM11 ⟨rfl, A7, c7, rfl, hA7⟩
 rw [hfl] at hA7
 rw [hfl]
 replace hd6 := hd6.trans hM11
 replace he6 := he6.trans hM11
 refine ⟨⟨he6, Keeps.mem⟩, ?_⟩
 refine zp 15 rfl rfl (y_assign (v := .slice _ _ _) rfl) <| zz <| .then_normal <| .s1 4 rfl <| x_ret (.dropTo L ii (ret1 rfl rfl hd6 ⟨rfl, _, _, _, rfl, hE0, hA7⟩))
theorem Sign_lspec (hg : LmG M) (x : PairV) (hname : Bytes M NA nl nc name) (hsec : Bytes M SA sl sc sec) (q : UInt32) (htext : Bytes M TA tl tc text) :
  Con Tryz.prog 107 #[.agg (List.toArray x.cells), .agg (List.toArray (seedC NA nl nc SA sl sc)), .int .u32 (q.toNat : Int), .slice TA tl tc] G M L (fun v M' L' => L' = L ∧ ∃ A m c, v = .tuple #[.slice A m c, .int .i64 (lsigE x nl sl q.toNat tl)] ∧ Bytes M' A m c (lsigV x nl sl name sec q.toNat tl text)) noPanic := by
 refine en Tryz.func107 rfl 14 rfl <| zr <| tl_e rfl <| e_box rfl <| fun b1 => tl_e rfl <| e_box rfl <| fun b2 => tl_e rfl <| e_box rfl <| fun b3 => tl_e rfl <| e_box rfl <| fun b4 => as0 rfl rfl <| as0 rfl rfl <| zq <| .s4 4 5 6 7 rfl rfl rfl rfl <| zr <| tl_y rfl (y_makeFunc rfl rfl) <| ec rfl rfl (caughtB_spec (K := fun A m c M' => lsigE x nl sl q.toNat tl = 0 ∧ Bytes M' A m c (lsigB x name sec q.toNat text)) (Kp := fun e => lsigE x nl sl q.toNat tl ≠ 0 ∧ e = lsigE x nl sl q.toNat tl) (first := []) (cap := [.pointer (some ⟨b1, 0, none⟩), .pointer (some ⟨b2, 0, none⟩), .pointer (some ⟨b4, 0, none⟩), .pointer (some ⟨b3, 0, none⟩)]) (fun p' q' => Sign1_lspec hg x hname hsec q htext)) ?_
 rintro v M1 _ hM1 ⟨rfl, hv⟩
 obtain ⟨A2, m2, c2, rfl, hA⟩ : ∃ A m c, v = .tuple #[.slice A m c, .int .i64 (lsigE x nl sl q.toNat tl)] ∧ Bytes M1 A m c (lsigV x nl sl name sec q.toNat tl text) := by
  rcases hv with ⟨A, m, c, rfl, h0, hb⟩ | ⟨e, rfl, hno, rfl⟩
  ·
   exact ⟨A, m, c, by rw [h0], by rw [lsigV, if_pos h0]; exact hb⟩
  exact ⟨none, 0, 0, rfl, by rw [lsigV, if_neg hno]; exact Row.nil _ _⟩
 refine zx rfl rfl <| zx rfl rfl <| asS rfl rfl <| asI rfl rfl <| zq <| .s2 8 9 rfl rfl <| x_ret (.dropTo L ii (ret2 rfl rfl rfl hM1 ⟨rfl, _, _, _, rfl, hA⟩))
end
structure SlV where
 a : Option Addr
 n : Nat
 c : Nat
abbrev SlV.v (x : SlV) : Value := .slice x.a x.n x.c
section
variable {G : World} {M : Mem} {L : Own}
theorem caughtTk1_ret {b c : Nat} {x : Int} {cs : List Value} : ConD Tryz.prog 256 #[.pointer (some ⟨b, 0, none⟩), .pointer (some ⟨c, 0, none⟩)] .returning G M ((c, .cells #[.int .i64 x] 25 (0, 0)) :: (b, .cells (List.toArray cs) 295 (0, 0)) :: L) (fun u' M' L' => u' = .returning ∧ M' = M ∧ L' = (c, .cells #[.int .i64 x] 25 (0, 0)) :: (b, .cells cs.toArray 295 (0, 0)) :: L) := by
 refine enterRec (args := [_, _]) (fn := Tryz.f256) ⟨Tryz.func256, rfl, by kernel_rfl, by kernel_rfl⟩ 15 rfl rfl <| x_block <| zr <| tl_y rfl (y_eqNilIface rfl rfl) <| zq <| x_true rfl (rfl) <| x_region <| as0 rfl rfl <| tl_nil (.block_normal (.rec_normal (Le.refl _) ⟨rfl, rfl, rfl⟩))
theorem caughtTk1_wrong {b c : Nat} {x e : Int} : ConD Tryz.prog 256 #[.pointer (some ⟨b, 0, none⟩), .pointer (some ⟨c, 0, none⟩)] (.panicking (lwrong e)) G M ((c, .cells #[.int .i64 x] 25 (0, 0)) :: (b, .cells #[.slice none 0 0, .slice none 0 0] 295 (0, 0)) :: L)
  (fun u' M' L' => u' = .panicking [{ v := lwrongv e, recovered := true }] ∧ M' = M ∧ L' = (c, .cells #[.int .i64 e] 25 (0, 0)) :: (b, .cells #[.slice none 0 0, .slice none 0 0] 295 (0, 0)) :: L) := by
 refine enterRec (args := [_, _]) (fn := Tryz.f256) ⟨Tryz.func256, rfl, by kernel_rfl, by kernel_rfl⟩ 15 rfl rfl <| x_block <| zr <| tl_y rfl (y_eqIfaceNil rfl rfl) <| zq <| x_false rfl (rfl) <| zr <| tl_y rfl (y_assertOk rfl (by intro _ h; cases h)) <| zx rfl rfl <| zx rfl rfl <| zq <| x_true rfl (rfl) <| zr <| tl_e rfl <| e_alloc <| fun b7 => tl_e rfl <| e_st rfl rfl (by rfl) (by rfl) <| zq <| .s3 0 1 3 rfl rfl rfl <| zr <| tl_e rfl <| e_alloc <| fun b8 => zq <| x_draw0 4 ((b7, .cells #[.int .i64 e] 248 (0, 0)) :: (b8, .cells #[.slice none 0 0, .slice none 0 0] 295 (0, 0)) :: []) Keeps.mem hmix rfl ?_
 refine zy 0 rfl rfl (y_lg rfl rfl) <| zp 1 rfl rfl (y_fieldAddr rfl) <| zy 2 rfl rfl (y_ld rfl rfl) <| ze 3 rfl rfl <| e_st rfl rfl (by rfl) (by rfl) <| ⟨⟨(by first | exact Le.refl _ | assumption), Keeps.mem⟩, ?_⟩
 refine zt 4 rfl rfl <| e_st rfl rfl (by rfl) (by rfl) <| zz (.block_normal (.dropTo ((c, .cells #[.int .i64 e] 25 (0, 0)) :: (b, .cells #[.slice none 0 0, .slice none 0 0] 295 (0, 0)) :: L) ii (.rec_normal (Le.refl _) ⟨rfl, rfl, rfl⟩)))
theorem caughtTk_spec {wf : FuncId} {first cap : List Value} {K : SlV → SlV → Mem → Prop} {Kp : Int → Prop}
  (hw : ∀ p q, Con Tryz.prog wf (first ++ [] ++ cap).toArray G M (p :: q :: L) (fun v M' L' => L' = p :: q :: L ∧ ∃ x y, v = .agg (List.toArray ([x.v, y.v])) ∧ K x y M') (fun ch M' L' => L' = p :: q :: L ∧ ∃ e, Kp e ∧ ch = lwrong e)) :
  Con Tryz.prog 215 #[.func (.func wf) first.toArray cap.toArray] G M L (fun v M' L' => L' = L ∧ ((∃ x y, v = .tuple #[.agg (List.toArray ([x.v, y.v])), .int .i64 0] ∧ K x y M') ∨ (∃ e, v = .tuple #[.agg #[.slice none 0 0, .slice none 0 0], .int .i64 e] ∧ Kp e))) noPanic := by
 refine enterD (args := [_]) (fn := Tryz.f215) ⟨Tryz.func215, rfl, by kernel_rfl, by kernel_rfl⟩ 7 rfl <| zr <| tl_e rfl <| e_alloc <| fun b1 => tl_e rfl <| e_alloc <| fun b2 => zq <| zr <| tl_y rfl (y_makeFunc rfl rfl) <| tl_e rfl <| e_defer rfl rfl rfl <| zq <| zr <| mvF rfl rfl <| tl_e rfl (e_callv rfl rfl (hw _ _) (by
  rintro _ M1 _ hM1 ⟨rfl, e, hr, rfl⟩
  refine .retD (cap := [_, _]) (args := []) caughtTk1_wrong ?_
  rintro _ M2 _ hM2 ⟨rfl, rfl, rfl⟩
  exact .inl ⟨rfl, _, L, rv2 rfl (rc_cellAgg (by rfl) rfl (.own ii ii)) (rc_cell (by rfl) rfl (.own ii ii)), ii, hM1, rfl, .inr ⟨e, rfl, hr⟩⟩) ?_)
 rintro _ M1 _ hM1 ⟨rfl, x, y, rfl, hk⟩
 refine tl_e rfl <| e_st rfl rfl (by rfl) (by rfl) <| tl_e rfl <| e_st rfl rfl (by rfl) (by rfl) <| zq <| .s2 2 3 rfl rfl <| x_ret <| .retD (cap := [_, _]) (args := []) (caughtTk1_ret (cs := [x.v, y.v])) ?_
 rintro _ M2 _ hM2 ⟨rfl, rfl, rfl⟩
 exact .inl ⟨rfl, _, L, rv2 rfl (rc_cellAgg (by rfl) rfl (.own ii ii)) (rc_cell (by rfl) rfl (.own ii ii)), ii, hM1, rfl, .inl ⟨x, y, rfl, hk⟩⟩
theorem Pair1_spec (hg : LmG M) {A : Option Addr} {m c : Nat} {bs : List UInt8} (h : Bytes M A m c bs) (hmb : m ≤ 1000000000000) {b : Nat} [hb : Has L b (.cells #[.slice A m c] 22 (0, 0))] :
  Con Tryz.prog 168 #[.pointer (some ⟨b, 0, none⟩)] G M L (fun v M' L' => L' = L ∧ ∃ x : PairV, v = .agg (List.toArray x.cells) ∧ pairE bs = 0 ∧ x = pairC bs) (fun ch M' L' => L' = L ∧ ∃ e, (pairE bs ≠ 0 ∧ e = pairE bs) ∧ ch = lwrong e) := by
 have hm := h.size
 have hc := h.le
 refine en Tryz.func168 rfl 40 rfl <| zr <| tl_e rfl <| e_alloc <| fun b1 => zq <| zr <| tLd rfl rfl rfl <| tLen rfl rfl <| tl_y rfl (y_geq rfl rfl) <| tl_e rfl (e_call rfl (lmust_spec _ _) (by
  rintro _ _ _ _ ⟨rfl, rfl, ht, rfl⟩
  have e : pairE bs = 2 := by rw [pairE, if_pos (by simp at ht; omega)]
  exact TP.dropTo L ii (.retA rfl (Le.refl _) ⟨rfl, _, ⟨by rw [e]; decide, rfl⟩, by rw [e]⟩)) ?_)
 rintro _ _ _ _ ⟨rfl, rfl, ht⟩
 have h8 : 8 ≤ m := by simp at ht; omega
 have hs4 : Bytes M (sl A 4 c 1) 4 (c - 4) ((bs.drop 4).take 4) := Bytes.sub h 4 8 (by omega) h8
 refine zq <| .s2 0 1 rfl rfl <| zr <| tLd rfl rfl rfl <| tl_y rfl (y_sliceH rfl rfl (by omega) (by omega)) <| ec rfl rfl (Get8_spec (Bytes.take h 4 (by omega)) (by omega)) ?_
 rintro _ _ _ _ ⟨rfl, rfl, x, hx, rfl⟩
 have hgl := getB_lt (bs.take 4)
 rw [List.length_take, Nat.min_eq_left (by omega)] at hgl
 have hcv : ((pairC bs).t.toNat : Int) = (x.toNat : Int) := by rw [pairC, UInt32.toNat_ofNat', hx, Nat.mod_eq_of_lt (by omega)]
 refine mvU rfl rfl <| zx rfl rfl <| zx rfl rfl <| asI rfl rfl <| asB rfl rfl <| zq <| .s3 0 1 2 rfl rfl rfl <| zr <| tLd rfl rfl rfl <| tl_y rfl (y_sliceLH rfl rfl rfl (by omega) (by omega)) <| ec rfl rfl (Get8_spec hs4 (by omega)) ?_
 rintro _ _ _ _ ⟨rfl, rfl, y, hy, rfl⟩
 have hgl2 := getB_lt ((bs.drop 4).take 4)
 rw [List.length_take, List.length_drop, Nat.min_eq_left (by omega)] at hgl2
 have hcv2 : ((pairC bs).o.toNat : Int) = (y.toNat : Int) := by rw [pairC, UInt32.toNat_ofNat', hy, Nat.mod_eq_of_lt (by omega)]
 refine mvU rfl rfl <| zx rfl rfl <| zx rfl rfl <| asI rfl rfl <| asB rfl rfl <| zq <| .s4 0 1 2 4 rfl rfl rfl rfl <| zr <| mvI rfl rfl <| tl_y rfl (y_convE (b := ((pairC bs).o.toNat : Int)) rfl (by rw [wrapU32, hcv2]; omega)) <| mvI rfl rfl <| tl_y rfl (y_convE (b := ((pairC bs).t.toNat : Int)) rfl (by rw [wrapU32, hcv]; omega)) <| tl_y rfl (y_build rfl) <| tl_e rfl <| e_alloc <| fun b2 => tl_e rfl <| e_st rfl rfl (by rfl) (by rfl) <| zq <| .s3 0 1 6 rfl rfl rfl <| zr <| tLg rfl rfl rfl <| tl_e rfl (e_call rfl (of_spec hg.hs (pairC bs)) (by
  rintro _ M1 _ hM1 ⟨rfl, hno, rfl⟩
  have e : pairE bs = 4 := by rw [pairE, if_neg (by omega), if_pos hno]
  exact TP.dropTo L ii (.retA rfl hM1 ⟨rfl, _, ⟨by rw [e]; decide, rfl⟩, by rw [e]⟩)) ?_)
 rintro _ M1 _ hM1 ⟨rfl, hok, rfl⟩
 obtain ⟨n, w, p, H, hx⟩ := okP_facts hok
 obtain ⟨z1, z2, z3, z4, z5⟩ := hx.sizes
 have hn32 := hx.o.n32
 refine tl_e rfl <| e_alloc <| fun b3 => tl_e rfl <| e_st rfl rfl (by rfl) (by rfl) <| zq <| zr <| tLd rfl rfl rfl <| tLen rfl rfl <| tFa rfl rfl <| tFa rfl rfl <| tl_y rfl (y_load (v := .int .i64 (n : Int)) rfl rfl (by rw [← hx.tn]; exact .own ii ii)) <| tl_y rfl (y_addI rfl rfl (by omega)) <| tl_y rfl (y_eql rfl rfl) <| tl_e rfl (e_call rfl (lmust_spec _ _) (by
  rintro _ _ _ _ ⟨rfl, rfl, ht, rfl⟩
  have e : pairE bs = 5 := by rw [pairE, if_neg (by omega), if_neg (fun h => h hok), if_pos (by simp at ht; omega)]
  exact TP.dropTo L ii (.retA rfl hM1 ⟨rfl, _, ⟨by rw [e]; decide, rfl⟩, by rw [e]⟩)) ?_)
 rintro _ _ _ _ ⟨rfl, rfl, ht⟩
 have h0 : pairE bs = 0 := by rw [pairE, if_neg (by omega), if_neg (fun h => h hok), if_neg (by simp at ht; omega)]
 refine zq <| .s2 1 6 rfl rfl <| zr <| tLg rfl rfl rfl <| tl_e rfl <| e_st rfl rfl (by rfl) (by rfl) <| zq <| x_ret (retRV (L' := L) (rv1 rfl (rc_cellAgg (by rfl) rfl (.own ii ii))) ii hM1 ⟨rfl, _, rfl, h0, rfl⟩)
theorem Pair_spec (hg : LmG M) {A : Option Addr} {m c : Nat} {bs : List UInt8} (h : Bytes M A m c bs) (hmb : m ≤ 1000000000000) :
  Con Tryz.prog 126 #[.slice A m c] G M L (fun v M' L' => L' = L ∧ v = .tuple #[.agg (List.toArray (pairX bs).cells), .int .i64 (pairE bs)]) noPanic := by
 refine en Tryz.func126 rfl 8 rfl <| zr <| tl_e rfl <| e_box rfl <| fun b1 => tl_e rfl <| e_alloc <| fun b2 => as0 rfl rfl <| zq <| zr <| tl_y rfl (y_makeFunc rfl rfl) <| ec rfl rfl (caughtX_spec (K := fun x _ => pairE bs = 0 ∧ x = pairC bs) (Kp := fun e => pairE bs ≠ 0 ∧ e = pairE bs) (first := []) (cap := [.pointer (some ⟨b1, 0, none⟩)]) (fun p' q' => Pair1_spec hg h hmb)) ?_
 rintro v M1 _ hM1 ⟨rfl, hv⟩
 obtain rfl : v = .tuple #[.agg (List.toArray (pairX bs).cells), .int .i64 (pairE bs)] := by
  rcases hv with ⟨x, rfl, h0, rfl⟩ | ⟨e, rfl, hno, rfl⟩
  ·
   rw [pairX, if_pos h0, h0]
  rw [pairX, if_neg hno]; rfl
 refine zx rfl rfl <| zx rfl rfl <| tl_e rfl <| e_st rfl rfl (by rfl) (by rfl) <| asI rfl rfl <| zq <| .s2 2 3 rfl rfl <| x_ret (retRV (L' := L) (rv2 rfl (rc_cellAgg (by rfl) rfl (.own ii ii)) (rc_tmp (by rfl))) ii hM1 ⟨rfl, rfl⟩)
theorem Take1_spec (hg : LmG M) (x : PairV) {A : Option Addr} {m c : Nat} {bs : List UInt8} (h : Bytes M A m c bs) (hmb : m ≤ 1000000000000) {bp b : Nat} [hp : Has L bp (.cells (List.toArray x.cells) 63 (0, 0))] [hb : Has L b (.cells #[.slice A m c] 22 (0, 0))] :
  Con Tryz.prog 216 #[.pointer (some ⟨bp, 0, none⟩), .pointer (some ⟨b, 0, none⟩)] G M L (fun v M' L' => L' = L ∧ ∃ y z : SlV, v = .agg #[y.v, z.v] ∧ takeE x m = 0 ∧ Le M M' ∧ y = ⟨sl A 0 (sigN x) 1, sigN x, sigN x⟩ ∧ z = ⟨sl A (sigN x) c 1, m - sigN x, c - sigN x⟩) (fun ch M' L' => L' = L ∧ ∃ e, (takeE x m ≠ 0 ∧ e = takeE x m) ∧ ch = lwrong e) := by
 have hm := h.size
 have hc := h.le
 refine en Tryz.func216 rfl 20 rfl <| zr <| tl_e rfl <| e_alloc <| fun b1 => zq <| zr <| tLg rfl rfl rfl <| tl_e rfl (e_call rfl (of_spec hg.hs x) (by
  rintro _ M1 _ hM1 ⟨rfl, hno, rfl⟩
  have e : takeE x m = 4 := by rw [takeE, if_pos hno]
  exact TP.dropTo L ii (.retA rfl hM1 ⟨rfl, _, ⟨by rw [e]; decide, rfl⟩, by rw [e]⟩)) ?_)
 rintro _ M1 _ hM1 ⟨rfl, hok, rfl⟩
 obtain ⟨n, w, p, H, hx⟩ := okP_facts hok
 obtain ⟨z1, z2, z3, z4, z5⟩ := hx.sizes
 refine ec rfl rfl (lsize_spec hx) ?_
 rintro _ _ _ _ ⟨rfl, rfl, rfl⟩
 refine asI rfl rfl <| zq <| .s3 1 2 3 rfl rfl rfl <| zr <| tLd rfl rfl rfl <| tLen rfl rfl <| mvI rfl rfl <| tl_y rfl (y_geq rfl rfl) <| tl_e rfl (e_call rfl (lmust_spec _ _) (by
  rintro _ _ _ _ ⟨rfl, rfl, ht, rfl⟩
  have e : takeE x m = 2 := by rw [takeE, if_neg (fun h => h hok), if_pos (by simp at ht; omega)]
  exact TP.dropTo L ii (.retA rfl hM1 ⟨rfl, _, ⟨by rw [e]; decide, rfl⟩, by rw [e]⟩)) ?_)
 rintro _ _ _ _ ⟨rfl, rfl, ht⟩
 have hN : sigN x ≤ m := by simp at ht; omega
 have h0 : takeE x m = 0 := by rw [takeE, if_neg (fun h => h hok), if_neg (by omega)]
 refine zq <| .s3 1 2 3 rfl rfl rfl <| x_seq <| x_draw 8 hmix rfl <| zy 0 rfl rfl (y_ld rfl rfl) <| zp 1 rfl rfl (y_move (v := .int _ _) rfl) <| zp 2 rfl rfl (y_move (v := .int _ _) rfl) <| zp 3 rfl rfl (y_slice3 rfl rfl rfl (by omega) (by omega)) <| zy 4 rfl rfl (y_ld rfl rfl) <| zp 5 rfl rfl (y_move (v := .int _ _) rfl) ?_
 refine zp 6 rfl rfl (y_sliceL rfl rfl (by omega)) <| zp 7 rfl rfl (y_buildArr rfl) <| zt 8 rfl rfl <| e_st rfl rfl (by rfl) (by rfl) <| zz <| .then_normal <| .s1 2 rfl <| x_ret (retRV (L' := L) (rv1 rfl (rc_cellAgg (by rfl) rfl (.own ii ii))) ii hM1 ⟨rfl, ⟨_, _, _⟩, ⟨_, _, _⟩, rfl, h0, hM1, rfl, rfl⟩)
theorem Take_spec (hg : LmG M) (x : PairV) {A : Option Addr} {m c : Nat} {bs : List UInt8} (h : Bytes M A m c bs) (hmb : m ≤ 1000000000000) :
  Con Tryz.prog 165 #[.agg (List.toArray x.cells), .slice A m c] G M L (fun v M' L' => L' = L ∧ ∃ A1 n1 c1 A2 n2 c2, v = .tuple #[.slice A1 n1 c1, .slice A2 n2 c2, .int .i64 (takeE x m)] ∧ Bytes M' A1 n1 c1 (if takeE x m = 0 then bs.take (sigN x) else []) ∧ Bytes M' A2 n2 c2 (if takeE x m = 0 then bs.drop (sigN x) else [])) noPanic := by
 have hm := h.size
 have hc := h.le
 refine en Tryz.func165 rfl 19 rfl <| zr <| tl_e rfl <| e_box rfl <| fun b1 => tl_e rfl <| e_box rfl <| fun b2 => as0 rfl rfl <| as0 rfl rfl <| as0 rfl rfl <| zq <| .s2 2 3 rfl rfl <| zr <| tl_y rfl (y_makeFunc rfl rfl) <| ec rfl rfl (caughtTk_spec (K := fun y z M' => takeE x m = 0 ∧ Le M M' ∧ y = ⟨sl A 0 (sigN x) 1, sigN x, sigN x⟩ ∧ z = ⟨sl A (sigN x) c 1, m - sigN x, c - sigN x⟩) (Kp := fun e => takeE x m ≠ 0 ∧ e = takeE x m) (first := []) (cap := [.pointer (some ⟨b1, 0, none⟩), .pointer (some ⟨b2, 0, none⟩)]) (fun p' q' => Take1_spec hg x h hmb)) ?_
 rintro v M1 _ hM1 ⟨rfl, hv⟩
 obtain ⟨⟨A1, n1, c1⟩, ⟨A2, n2, c2⟩, rfl, hb1, hb2⟩ : ∃ y z : SlV, v = .tuple #[.agg #[y.v, z.v], .int .i64 (takeE x m)] ∧ Bytes M1 y.a y.n y.c (if takeE x m = 0 then bs.take (sigN x) else []) ∧ Bytes M1 z.a z.n z.c (if takeE x m = 0 then bs.drop (sigN x) else []) := by
  rcases hv with ⟨y, z, rfl, h0, hle, rfl, rfl⟩ | ⟨e, rfl, hno, rfl⟩
  ·
   have hN : sigN x ≤ m := by
    unfold takeE at h0
    split at h0
    ·
     cases h0
    split at h0
    ·
     cases h0
    omega
   exact ⟨_, _, by rw [h0], by rw [if_pos h0]; exact Bytes.take3 (h.mono hM1) _ _ hN (Nat.le_refl _) (by omega), by rw [if_pos h0]; exact Bytes.drop (h.mono hM1) _ hN⟩
  exact ⟨⟨none, 0, 0⟩, ⟨none, 0, 0⟩, rfl, by rw [if_neg hno]; exact Row.nil _ _, by rw [if_neg hno]; exact Row.nil _ _⟩
 refine mvU rfl rfl <| zx rfl rfl <| zx rfl rfl <| tl_e rfl <| e_alloc <| fun b3 => tl_e rfl <| e_st rfl rfl (by rfl) (by rfl) <| asI rfl rfl <| zq <| .s2 7 8 rfl rfl <| x_seq <| x_draw 8 hmix rfl ?_
 refine zp 0 rfl rfl (y_indexArrK 0 rfl rfl (by omega)) <| zy 1 rfl rfl (y_ld rfl rfl) <| zp 2 rfl rfl (y_indexArrK 1 rfl rfl (by omega)) <| zy 3 rfl rfl (y_ld rfl rfl) <| zp 4 rfl rfl (y_move (v := .int _ _) rfl) <| zp 5 rfl rfl (y_assign (v := .slice _ _ _) rfl) <| zp 6 rfl rfl (y_assign (v := .slice _ _ _) rfl) <| zp 7 rfl rfl (y_assign (v := .int _ _) rfl) <| zz <| .then_normal <| .s3 4 5 6 rfl rfl rfl ?_
 refine x_ret (.dropTo L ii (ret3 rfl rfl rfl rfl hM1 ⟨rfl, _, _, _, _, _, _, rfl, hb1, hb2⟩))
end
end Go.Proofs.YtplkoemjffplcaaGreatDoor
