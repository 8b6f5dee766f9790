/-
Contracts of functions, each proved by a walk through its code.
-/
import Derived.Test.YtiimjodbaogjbaaGreatDoorRef8bEtc
import Derived.Test.YtiimjodbaogjbaaGreatDoorHss3Etc
import Derived.Test.YtiimjodbaogjbaaGreatDoorOnce1Etc
import Derived.Test.YtiimjodbaogjbaaGreatDoorEngWEtc
set_option linter.unusedVariables false
set_option linter.unusedSimpArgs false
namespace Go.Proofs.YtiimjodbaogjbaaGreatDoor
open Go Go.Eng
def belN (x : PairV) (name sec : List UInt8) (q : Nat) : List UInt8 := (hidB (otsV x.o) name sec q 65535).take 16
def belS (x : PairV) (name sec : List UInt8) (q : Nat) : List UInt8 := hidB (otsV x.o) name sec q 65534
def seedR (l : List PairV) (at_ : List Nat) (name sec : List UInt8) : Nat → List UInt8 × List UInt8
 | 0 => (name, sec)
 | i + 1 => (belN (l.getD i p0) (seedR l at_ name sec i).1 (seedR l at_ name sec i).2 (at_.getD i 0), belS (l.getD i p0) (seedR l at_ name sec i).1 (seedR l at_ name sec i).2 (at_.getD i 0))
def canB (l : List PairV) (nl sl : Nat) : Prop := ∀ p ∈ l, (tv p).h ≤ 10 ∧ okY (otsV p.o) nl sl
instance {l : List PairV} {nl sl : Nat} : Decidable (canB l nl sl) := inferInstanceAs (Decidable (∀ p ∈ l, _))
structure PartB where
 key : List UInt8
 sig : List UInt8
 next : List UInt8
def keyE (bs : List UInt8) : Int := if bs.length < 8 then 2 else if ¬ okP (pairC bs) then 4 else if bs.length < pubN (pairC bs) then 2 else 0
theorem keyE_zero {bs : List UInt8} (h : keyE bs = 0) : 8 ≤ bs.length ∧ okP (pairC bs) ∧ pubN (pairC bs) ≤ bs.length := by
  unfold keyE at h
  split at h
  · cases h
  · split at h
    · cases h
    · split at h
      · cases h
      · rename_i h1 h2 h3
        exact ⟨by omega, Classical.not_not.1 h2, by omega⟩
def keyT (bs : List UInt8) : List UInt8 := bs.take (pubN (pairC bs))
def keyD (bs : List UInt8) : List UInt8 := bs.drop (pubN (pairC bs))
def sgT (k b : List UInt8) : List UInt8 := b.take (sigN (pairC k))
def sgD (k b : List UInt8) : List UInt8 := b.drop (sigN (pairC k))
def parse : Nat → List UInt8 → List UInt8 → Int × List PartB
 | 0, k, b => if b.length < sigN (pairC k) then (2, []) else if b.length ≠ sigN (pairC k) then (5, []) else (0, [⟨k, sgT k b, []⟩])
 | m + 1, k, b => if b.length < sigN (pairC k) then (2, []) else if keyE (sgD k b) ≠ 0 then (keyE (sgD k b), []) else
   if (parse m (keyT (sgD k b)) (keyD (sgD k b))).1 ≠ 0 then ((parse m (keyT (sgD k b)) (keyD (sgD k b))).1, []) else
   (0, ⟨k, sgT k b, keyT (sgD k b)⟩ :: (parse m (keyT (sgD k b)) (keyD (sgD k b))).2)
def readP (pub sig : List UInt8) : Int × List PartB :=
 if pub.length < 4 then (2, []) else if keyE (pub.drop 4) ≠ 0 then (keyE (pub.drop 4), []) else if (pub.drop 4).length ≠ pubN (pairC (pub.drop 4)) then (5, []) else
 if getB (pub.take 4) < 1 ∨ 8 < getB (pub.take 4) then (3, []) else if sig.length < 4 then (2, []) else if getB (sig.take 4) ≠ getB (pub.take 4) - 1 then (3, []) else
 parse (getB (pub.take 4) - 1) (pub.drop 4) (sig.drop 4)
def partQ (x : PartB) : Nat := getB (x.sig.take 4)
def partF (text : List UInt8) (x : PartB) : Prop := fitK x.key (if x.next = [] then text.length else x.next.length) (if x.next = [] then text else x.next) x.sig
instance {text : List UInt8} {x : PartB} : Decidable (partF text x) := inferInstanceAs (Decidable (fitK _ _ _ _))
end Go.Proofs.YtiimjodbaogjbaaGreatDoor
set_option linter.unusedVariables false
set_option linter.unusedSimpArgs false
set_option linter.constructorNameAsVariable false
namespace Go.Proofs.YtiimjodbaogjbaaGreatDoor
open Go Go.Eng
structure LmG (M : Mem) : Prop where
 ch : ChG M
 tr : SetT M
theorem LmG.mono {M M' : Mem} (h : LmG M) (hle : Le M M') : LmG M' := ⟨h.ch.mono hle, h.tr.mono hle⟩
theorem LmG.hs {M : Mem} (h : LmG M) : HsG M := ⟨h.ch.set, h.tr⟩
theorem LmG.mr {M : Mem} (h : LmG M) : MrG M := ⟨h.ch.sha, h.ch.kec, h.tr⟩
section
variable {G : World} {M : Mem} {L : Own}
theorem caughtB1_ret {b c : Nat} {x : Int} {cs : List Value} : ConD Tryz.prog 140 #[.pointer (some ⟨b, 0, none⟩), .pointer (some ⟨c, 0, none⟩)] .returning G M ((c, .cells (List.toArray [.int .i64 x]) 38 (0, 0)) :: (b, .cells cs.toArray 35 (0, 0)) :: L) (fun u' M' L' => u' = .returning ∧ M' = M ∧ L' = (c, .cells (List.toArray [.int .i64 x]) 38 (0, 0)) :: (b, .cells cs.toArray 35 (0, 0)) :: L) := by
 refine enterRec (args := [_, _]) (fn := Tryz.f140) ⟨Tryz.func140, rfl, by kernel_rfl, by kernel_rfl⟩ 15 rfl rfl <| x_block <| zr <| tl_y rfl (y_eqNilIface rfl rfl) <| zq <| x_true rfl (rfl) <| x_region <| as0 rfl rfl <| tl_nil (.block_normal (.rec_normal (Le.refl _) ⟨rfl, rfl, rfl⟩))
theorem caughtB1_wrong {b c : Nat} {x e : Int} : ConD Tryz.prog 140 #[.pointer (some ⟨b, 0, none⟩), .pointer (some ⟨c, 0, none⟩)] (.panicking (lwrong e)) G M ((c, .cells (List.toArray [.int .i64 x]) 38 (0, 0)) :: (b, .cells (List.toArray [.slice none 0 0]) 35 (0, 0)) :: L)
  (fun u' M' L' => u' = .panicking [{ v := lwrongv e, recovered := true }] ∧ M' = M ∧ L' = (c, .cells (List.toArray [.int .i64 e]) 38 (0, 0)) :: (b, .cells (List.toArray [.slice none 0 0]) 35 (0, 0)) :: L) := by
 refine enterRec (args := [_, _]) (fn := Tryz.f140) ⟨Tryz.func140, rfl, by kernel_rfl, by kernel_rfl⟩ 15 rfl rfl <| x_block <| zr <| tl_y rfl (y_eqIfaceNil rfl rfl) <| zq <| x_false rfl (rfl) <| zr <| tl_y rfl (y_assertOk rfl (by intro _ h; cases h)) <| zx rfl rfl <| zx rfl rfl ?_
 refine zq <| x_true rfl (rfl) <| zr <| tl_e rfl <| e_alloc <| fun b7 => tl_e rfl <| e_st rfl rfl (by rfl) (by rfl) <| zq <| .s3 0 1 3 rfl rfl rfl <| zr <| as0 rfl rfl <| zq ?_
 refine x_draw0 4 ((b7, .cells (List.toArray [.int .i64 e]) 160 (0, 0)) :: []) Keeps.mem hmix rfl <| zp 0 rfl rfl (y_move (v := .slice _ _ _) rfl) <| zp 1 rfl rfl (y_fieldAddr rfl) <| zy 2 rfl rfl (y_ld rfl rfl) <| ze 3 rfl rfl <| e_st rfl rfl (by rfl) (by rfl) <| ⟨⟨(by first | exact Le.refl _ | assumption), Keeps.mem⟩, ?_⟩
 refine zt 4 rfl rfl <| e_st rfl rfl (by rfl) (by rfl) <| zz (.block_normal (.dropTo ((c, .cells (List.toArray [.int .i64 e]) 38 (0, 0)) :: (b, .cells (List.toArray [.slice none 0 0]) 35 (0, 0)) :: L) inferInstance (.rec_normal (Le.refl _) ⟨rfl, rfl, rfl⟩)))
theorem caughtB_spec {wf : FuncId} {first cap : List Value} {K : Option Addr → Nat → Nat → Mem → Prop} {Kp : Int → Prop}
  (hw : ∀ p q, Con Tryz.prog wf (first ++ [] ++ cap).toArray G M (p :: q :: L) (fun v M' L' => L' = p :: q :: L ∧ ∃ A n c, v = .slice A n c ∧ K A n c M') (fun ch M' L' => L' = p :: q :: L ∧ ∃ e, Kp e ∧ ch = lwrong e)) :
  Con Tryz.prog 81 #[.func (.func wf) first.toArray cap.toArray] G M L (fun v M' L' => L' = L ∧ ((∃ A n c, v = .tuple #[.slice A n c, .int .i64 0] ∧ K A n c M') ∨ (∃ e, v = .tuple #[.slice none 0 0, .int .i64 e] ∧ Kp e))) noPanic := by
 refine enterD (args := [_]) (fn := Tryz.f81) ⟨Tryz.func81, rfl, by kernel_rfl, by kernel_rfl⟩ 7 rfl <| zr <| tl_e rfl <| e_alloc <| fun b1 => tl_e rfl <| e_alloc <| fun b2 => zq <| zr <| tl_y rfl (y_makeFunc rfl rfl) <| tl_e rfl <| e_defer rfl rfl rfl <| zq <| zr ?_
 refine mvF rfl rfl <| tl_e rfl (e_callv rfl rfl (hw _ _) (by
  rintro _ M1 _ hM1 ⟨rfl, e, hr, rfl⟩
  refine .retD (cap := [_, _]) (args := []) caughtB1_wrong ?_
  rintro _ M2 _ hM2 ⟨rfl, rfl, rfl⟩
  exact .inl ⟨rfl, _, L, rv2 rfl (rc_cell (by rfl) rfl (.own inferInstance inferInstance)) (rc_cell (by rfl) rfl (.own inferInstance inferInstance)), inferInstance, hM1, rfl, .inr ⟨e, rfl, hr⟩⟩) ?_)
 rintro _ M1 _ hM1 ⟨rfl, A, n, c, rfl, hk⟩
 refine tl_e rfl <| e_st rfl rfl (by rfl) (by rfl) <| tl_e rfl <| e_st rfl rfl (by rfl) (by rfl) <| zq <| .s2 2 3 rfl rfl <| x_ret <| .retD (cap := [_, _]) (args := []) (caughtB1_ret (cs := [.slice A n c])) ?_
 rintro _ M2 _ hM2 ⟨rfl, rfl, rfl⟩
 exact .inl ⟨rfl, _, L, rv2 rfl (rc_cell (by rfl) rfl (.own inferInstance inferInstance)) (rc_cell (by rfl) rfl (.own inferInstance inferInstance)), inferInstance, hM1, rfl, .inl ⟨A, n, c, rfl, hk⟩⟩
theorem caughtX1_ret {b c : Nat} {x : Int} {cs : List Value} : ConD Tryz.prog 129 #[.pointer (some ⟨b, 0, none⟩), .pointer (some ⟨c, 0, none⟩)] .returning G M ((c, .cells (List.toArray [.int .i64 x]) 38 (0, 0)) :: (b, .cells cs.toArray 24 (0, 0)) :: L) (fun u' M' L' => u' = .returning ∧ M' = M ∧ L' = (c, .cells (List.toArray [.int .i64 x]) 38 (0, 0)) :: (b, .cells cs.toArray 24 (0, 0)) :: L) := by
 refine enterRec (args := [_, _]) (fn := Tryz.f129) ⟨Tryz.func129, rfl, by kernel_rfl, by kernel_rfl⟩ 15 rfl rfl <| x_block <| zr <| tl_y rfl (y_eqNilIface rfl rfl) <| zq <| x_true rfl (rfl) <| x_region <| as0 rfl rfl <| tl_nil (.block_normal (.rec_normal (Le.refl _) ⟨rfl, rfl, rfl⟩))
theorem caughtX1_wrong {b c : Nat} {x e : Int} : ConD Tryz.prog 129 #[.pointer (some ⟨b, 0, none⟩), .pointer (some ⟨c, 0, none⟩)] (.panicking (lwrong e)) G M ((c, .cells (List.toArray [.int .i64 x]) 38 (0, 0)) :: (b, .cells (List.toArray [.int .u32 0, .int .u32 0]) 24 (0, 0)) :: L)
  (fun u' M' L' => u' = .panicking [{ v := lwrongv e, recovered := true }] ∧ M' = M ∧ L' = (c, .cells (List.toArray [.int .i64 e]) 38 (0, 0)) :: (b, .cells (List.toArray [.int .u32 0, .int .u32 0]) 24 (0, 0)) :: L) := by
 refine enterRec (args := [_, _]) (fn := Tryz.f129) ⟨Tryz.func129, rfl, by kernel_rfl, by kernel_rfl⟩ 15 rfl rfl <| x_block <| zr <| tl_y rfl (y_eqIfaceNil rfl rfl) <| zq <| x_false rfl (rfl) <| zr <| tl_y rfl (y_assertOk rfl (by intro _ h; cases h)) <| zx rfl rfl <| zx rfl rfl ?_
 refine zq <| x_true rfl (rfl) <| zr <| tl_e rfl <| e_alloc <| fun b7 => tl_e rfl <| e_st rfl rfl (by rfl) (by rfl) <| zq <| .s3 0 1 3 rfl rfl rfl <| zr <| tl_e rfl <| e_alloc <| fun b8 => zq ?_
 refine x_draw0 4 ((b7, .cells (List.toArray [.int .i64 e]) 160 (0, 0)) :: (b8, .cells (List.toArray [.int .u32 0, .int .u32 0]) 24 (0, 0)) :: []) Keeps.mem hmix rfl <| zy 0 rfl rfl (y_lg rfl rfl) <| zp 1 rfl rfl (y_fieldAddr rfl) <| zy 2 rfl rfl (y_ld rfl rfl) <| ze 3 rfl rfl <| e_st rfl rfl (by rfl) (by rfl) <| ⟨⟨(by first | exact Le.refl _ | assumption), Keeps.mem⟩, ?_⟩
 refine zt 4 rfl rfl <| e_st rfl rfl (by rfl) (by rfl) <| zz (.block_normal (.dropTo ((c, .cells (List.toArray [.int .i64 e]) 38 (0, 0)) :: (b, .cells (List.toArray [.int .u32 0, .int .u32 0]) 24 (0, 0)) :: L) inferInstance (.rec_normal (Le.refl _) ⟨rfl, rfl, rfl⟩)))
theorem caughtX_spec {wf : FuncId} {first cap : List Value} {K : PairV → Mem → Prop} {Kp : Int → Prop}
  (hw : ∀ p q, Con Tryz.prog wf (first ++ [] ++ cap).toArray G M (p :: q :: L) (fun v M' L' => L' = p :: q :: L ∧ ∃ x, v = .agg (List.toArray (PairV.cells x)) ∧ K x M') (fun ch M' L' => L' = p :: q :: L ∧ ∃ e, Kp e ∧ ch = lwrong e)) :
  Con Tryz.prog 61 #[.func (.func wf) first.toArray cap.toArray] G M L (fun v M' L' => L' = L ∧ ((∃ x, v = .tuple #[.agg (List.toArray (PairV.cells x)), .int .i64 0] ∧ K x M') ∨ (∃ e, v = .tuple #[.agg (List.toArray [.int .u32 0, .int .u32 0]), .int .i64 e] ∧ Kp e))) noPanic := by
 refine enterD (args := [_]) (fn := Tryz.f61) ⟨Tryz.func61, rfl, by kernel_rfl, by kernel_rfl⟩ 7 rfl <| zr <| tl_e rfl <| e_alloc <| fun b1 => tl_e rfl <| e_alloc <| fun b2 => zq <| zr <| tl_y rfl (y_makeFunc rfl rfl) <| tl_e rfl <| e_defer rfl rfl rfl <| zq <| zr ?_
 refine mvF rfl rfl <| tl_e rfl (e_callv rfl rfl (hw _ _) (by
  rintro _ M1 _ hM1 ⟨rfl, e, hr, rfl⟩
  refine .retD (cap := [_, _]) (args := []) caughtX1_wrong ?_
  rintro _ M2 _ hM2 ⟨rfl, rfl, rfl⟩
  exact .inl ⟨rfl, _, L, rv2 rfl (rc_cellAgg (by rfl) rfl (.own inferInstance inferInstance)) (rc_cell (by rfl) rfl (.own inferInstance inferInstance)), inferInstance, hM1, rfl, .inr ⟨e, rfl, hr⟩⟩) ?_)
 rintro _ M1 _ hM1 ⟨rfl, x, rfl, hk⟩
 refine tl_e rfl <| e_st rfl rfl (by rfl) (by rfl) <| tl_e rfl <| e_st rfl rfl (by rfl) (by rfl) <| zq <| .s2 2 3 rfl rfl <| x_ret <| .retD (cap := [_, _]) (args := []) (caughtX1_ret (cs := PairV.cells x)) ?_
 rintro _ M2 _ hM2 ⟨rfl, rfl, rfl⟩
 exact .inl ⟨rfl, _, L, rv2 rfl (rc_cellAgg (by rfl) rfl (.own inferInstance inferInstance)) (rc_cell (by rfl) rfl (.own inferInstance inferInstance)), inferInstance, hM1, rfl, .inl ⟨x, rfl, hk⟩⟩
theorem lcode_spec (c : UInt32) :
  Con Tryz.prog 85 #[.int .u32 (c.toNat : Int)] G M L (fun v M' L' => L = L' ∧ ∃ A k, v = .slice A 4 k ∧ Bytes M' A 4 k (putB c.toNat 4)) noPanic := by
 have hc := c.toNat_lt
 refine enter (args := [_]) (fn := Tryz.f85) ⟨Tryz.func85, rfl, by kernel_rfl, by kernel_rfl⟩ 6 rfl <| zr <| as0 rfl rfl <| zq <| zr <| mvI rfl rfl <| tl_y rfl (y_convN64 rfl (by omega)) <| tl_e rfl <| e_call' rfl (PutV_spec c.toNat 4 (by omega) (by omega)) ?_
 rintro _ M1 _ hM1 ⟨rfl, A, k, rfl, hA⟩
 refine asS rfl rfl <| zq <| .s1 2 rfl <| x_ret (ret1 rfl rfl hM1 ⟨rfl, A, k, rfl, hA⟩)
theorem lsize_spec {x : PairV} {n w p H : Nat} (hx : PF x n w p H) :
  Con Tryz.prog 59 #[.agg (List.toArray (pcells (otsV x.o) (treeV x.t)))] G M L (fun v M' L' => M = M' ∧ L = L' ∧ v = .int .i64 ((sigN x : Nat) : Int)) noPanic := by
 obtain ⟨z1, z2, z3, z4, z5⟩ := hx.sizes
 have hm : (n : Int) * (H : Int) = ((n * H : Nat) : Int) := by push_cast; rfl
 refine enter (args := [_]) (fn := Tryz.f59) ⟨Tryz.func59, rfl, by kernel_rfl, by kernel_rfl⟩ 15 rfl <| zr <| tl_e rfl <| e_box rfl <| fun b1 => as0 rfl rfl <| zq <| x_seq <| x_draw 13 hmix rfl <| zp 0 rfl rfl (y_fieldAddr rfl) <| zy 1 rfl rfl (y_lg rfl rfl) <| zp 4 rfl rfl (y_fieldAddr rfl) ?_
 refine zp 5 rfl rfl (y_fieldAddr rfl) <| zy 6 rfl rfl (y_load (v := .int .i64 (n : Int)) rfl rfl (by rw [← hx.tn]; exact .own inferInstance inferInstance)) <| zp 7 rfl rfl (y_fieldAddr rfl) <| zp 8 rfl rfl (y_fieldAddr rfl) <| zy 9 rfl rfl (y_load (v := .int .i64 (H : Int)) rfl rfl (by rw [← hx.th]; exact .own inferInstance inferInstance)) <| zp 10 rfl rfl (y_mulI rfl rfl (by rw [hm]; omega)) ?_
 rw [hm]
 refine ze 2 rfl rfl <| e_call' rfl (oSize_spec (otsV x.o) hx.o) ?_
 rintro _ _ _ _ ⟨rfl, rfl, rfl⟩
 refine ⟨⟨(by first | exact Le.refl _ | assumption), Keeps.mem⟩, ?_⟩
 refine zp 3 rfl rfl (y_addI rfl rfl (by omega)) <| zp 11 rfl rfl (y_addI rfl rfl (by omega)) <| zp 12 rfl rfl (y_assign (v := .int _ _) rfl) <| zz <| .then_normal <| .s1 2 rfl <| x_ret (.dropTo L inferInstance (ret1 rfl rfl (Le.refl _) ⟨rfl, rfl, by rw [z2]; congr 1⟩))
theorem Sizes1_spec (hg : LmG M) (x : PairV) {b : Nat} [hb : Has L b (.cells (List.toArray x.cells) 24 (0, 0))] :
  Con Tryz.prog 57 #[.pointer (some ⟨b, 0, none⟩)] G M L (fun v M' L' => L' = L ∧ ∃ (o : OtsV) (t : TreeV), v = .agg (List.toArray (pcells o t)) ∧ okP x ∧ o = otsV x.o ∧ t = treeV x.t) (fun ch M' L' => L' = L ∧ ∃ e, (¬ okP x ∧ e = 4) ∧ ch = lwrong e) := by
 refine enter (args := [_]) (fn := Tryz.f57) ⟨Tryz.func57, rfl, by kernel_rfl, by kernel_rfl⟩ 4 rfl <| zr <| tl_e rfl <| e_alloc <| fun b1 => zq <| zr <| tl_y rfl (y_lg rfl rfl) <| tl_e rfl (e_call rfl (of_spec hg.hs x) (by
  rintro _ M1 _ hM1 ⟨rfl, hno, rfl⟩
  exact TP.dropTo L inferInstance (.retA rfl hM1 ⟨rfl, 4, ⟨hno, rfl⟩, rfl⟩)) ?_)
 rintro _ M1 _ hM1 ⟨rfl, hok, rfl⟩
 refine tl_e rfl <| e_st rfl rfl (by rfl) (by rfl) <| zq <| x_ret (retRV (L' := L) (rv1 rfl (rc_cellAgg (by rfl) rfl (.own inferInstance inferInstance))) inferInstance hM1 ⟨rfl, _, _, rfl, hok, rfl, rfl⟩)
theorem Sizes_spec (hg : LmG M) (x : PairV) :
    Con Tryz.prog 17 #[.agg (List.toArray x.cells)] G M L (fun v M' L' => L' = L ∧ v = .tuple #[.int .i64 ((szP x : Nat) : Int), .int .i64 ((szS x : Nat) : Int)]) noPanic := by
  refine enter (args := [_]) (fn := Tryz.f17) ⟨Tryz.func17, rfl, by kernel_rfl, by kernel_rfl⟩ 19 rfl <| zr <| tl_e rfl <| e_box rfl <| fun b1 => as0 rfl rfl <| as0 rfl rfl <| zq <| zr <| tl_y rfl (y_makeFunc rfl rfl) <| tl_e rfl <| e_call' rfl (caughtP_spec (K := fun o t _ => okP x ∧ o = otsV x.o ∧ t = treeV x.t) (Kp := fun e => ¬ okP x ∧ e = 4) (first := []) (cap := [.pointer (some ⟨b1, 0, none⟩)]) (fun p' q' => Sizes1_spec hg x)) ?_
  rintro v M1 _ hM1 ⟨rfl, hv⟩
  obtain ⟨o, t, e, rfl, he, hot⟩ : ∃ (o : OtsV) (t : TreeV) (e : Int), v = .tuple #[.agg (List.toArray (pcells o t)), .int .i64 e] ∧ (e = 0 ↔ okP x) ∧ (okP x → o = otsV x.o ∧ t = treeV x.t) := by
    rcases hv with ⟨o, t, rfl, hok, h1, h2⟩ | ⟨e, rfl, hno, rfl⟩
    · exact ⟨o, t, 0, rfl, iff_of_true rfl hok, fun _ => ⟨h1, h2⟩⟩
    · exact ⟨ots0, tree0, 4, rfl, iff_of_false (by decide) hno, fun h => absurd h hno⟩
  refine mvU rfl rfl <| zx rfl rfl <| zx rfl rfl <| tl_e rfl <| e_alloc <| fun b2 => tl_e rfl <| e_st rfl rfl (by rfl) (by rfl) <| asI rfl rfl <| zq <| .s2 4 5 rfl rfl <| zr2 <| mvI rfl rfl ?_
  refine tl_y rfl (y_neq rfl rfl) <| zq <| x_cond rfl (fun hc1 => ?_) (fun hc1 => ?_)
  ·
    refine zr <| as0 rfl rfl <| as0 rfl rfl <| zq <| .s2 2 3 rfl rfl <| x_ret (.then_ret (.dropTo L inferInstance (ret2 rfl rfl rfl hM1 ⟨rfl, by rw [szP, szS, if_neg (fun h => hc1 (he.2 h)), if_neg (fun h => hc1 (he.2 h))]; rfl⟩)))
  ·
    have hok : okP x := he.1 (Classical.not_not.1 hc1)
    obtain ⟨rfl, rfl⟩ := hot hok
    obtain ⟨n, w, p, H, hx⟩ := okP_facts hok
    obtain ⟨z1, z2, z3, z4, z5⟩ := hx.sizes
    have hn32 := hx.o.n32
    refine x_skip <| .then_normal <| x_seq <| x_draw 8 hmix rfl <| zp 0 rfl rfl (y_fieldAddr rfl) <| zp 1 rfl rfl (y_fieldAddr rfl) <| zy 2 rfl rfl (y_load (v := .int .i64 (n : Int)) rfl rfl (by rw [← hx.tn]; exact .own inferInstance inferInstance)) <| zp 3 rfl rfl (y_addI rfl rfl (by omega)) <| zy 4 rfl rfl (y_lg rfl rfl) <| ze 5 rfl rfl <| e_call' rfl (lsize_spec hx) ?_
    rintro _ _ _ _ ⟨rfl, rfl, rfl⟩
    refine ⟨⟨(by first | exact Le.refl _ | assumption), Keeps.mem⟩, ?_⟩
    refine zp 6 rfl rfl (y_assign (v := .int _ _) rfl) <| zp 7 rfl rfl (y_assign (v := .int _ _) rfl) <| zz <| .then_normal <| .s2 2 3 rfl rfl <| x_ret (.dropTo L inferInstance (ret2 rfl rfl rfl hM1 ⟨rfl, by rw [szP, szS, if_pos hok, if_pos hok, z1]; congr 4⟩))
end
end Go.Proofs.YtiimjodbaogjbaaGreatDoor
set_option linter.unusedVariables false
set_option linter.unusedSimpArgs false
set_option linter.constructorNameAsVariable false
namespace Go.Proofs.YtiimjodbaogjbaaGreatDoor
open Go Go.Eng
structure SlV where
 a : Option Addr
 n : Nat
 c : Nat
abbrev SlV.v (x : SlV) : Value := .slice x.a x.n x.c
section
variable {G : World} {M : Mem} {L : Own}
theorem caughtTk1_ret {b c : Nat} {x : Int} {cs : List Value} : ConD Tryz.prog 130 #[.pointer (some ⟨b, 0, none⟩), .pointer (some ⟨c, 0, none⟩)] .returning G M ((c, .cells (List.toArray [.int .i64 x]) 38 (0, 0)) :: (b, .cells (List.toArray cs) 96 (0, 0)) :: L) (fun u' M' L' => u' = .returning ∧ M' = M ∧ L' = (c, .cells (List.toArray [.int .i64 x]) 38 (0, 0)) :: (b, .cells cs.toArray 96 (0, 0)) :: L) := by
 refine enterRec (args := [_, _]) (fn := Tryz.f130) ⟨Tryz.func130, rfl, by kernel_rfl, by kernel_rfl⟩ 15 rfl rfl <| x_block <| zr <| tl_y rfl (y_eqNilIface rfl rfl) <| zq <| x_true rfl (rfl) <| x_region <| as0 rfl rfl <| tl_nil (.block_normal (.rec_normal (Le.refl _) ⟨rfl, rfl, rfl⟩))
theorem caughtTk1_wrong {b c : Nat} {x e : Int} : ConD Tryz.prog 130 #[.pointer (some ⟨b, 0, none⟩), .pointer (some ⟨c, 0, none⟩)] (.panicking (lwrong e)) G M ((c, .cells (List.toArray [.int .i64 x]) 38 (0, 0)) :: (b, .cells (List.toArray [.slice none 0 0, .slice none 0 0]) 96 (0, 0)) :: L)
  (fun u' M' L' => u' = .panicking [{ v := lwrongv e, recovered := true }] ∧ M' = M ∧ L' = (c, .cells (List.toArray [.int .i64 e]) 38 (0, 0)) :: (b, .cells (List.toArray [.slice none 0 0, .slice none 0 0]) 96 (0, 0)) :: L) := by
 refine enterRec (args := [_, _]) (fn := Tryz.f130) ⟨Tryz.func130, rfl, by kernel_rfl, by kernel_rfl⟩ 15 rfl rfl <| x_block <| zr <| tl_y rfl (y_eqIfaceNil rfl rfl) <| zq <| x_false rfl (rfl) <| zr <| tl_y rfl (y_assertOk rfl (by intro _ h; cases h)) <| zx rfl rfl <| zx rfl rfl ?_
 refine zq <| x_true rfl (rfl) <| zr <| tl_e rfl <| e_alloc <| fun b7 => tl_e rfl <| e_st rfl rfl (by rfl) (by rfl) <| zq <| .s3 0 1 3 rfl rfl rfl <| zr <| tl_e rfl <| e_alloc <| fun b8 => zq ?_
 refine x_draw0 4 ((b7, .cells (List.toArray [.int .i64 e]) 160 (0, 0)) :: (b8, .cells (List.toArray [.slice none 0 0, .slice none 0 0]) 96 (0, 0)) :: []) Keeps.mem hmix rfl <| zy 0 rfl rfl (y_lg rfl rfl) <| zp 1 rfl rfl (y_fieldAddr rfl) <| zy 2 rfl rfl (y_ld rfl rfl) <| ze 3 rfl rfl <| e_st rfl rfl (by rfl) (by rfl) <| ⟨⟨(by first | exact Le.refl _ | assumption), Keeps.mem⟩, ?_⟩
 refine zt 4 rfl rfl <| e_st rfl rfl (by rfl) (by rfl) <| zz (.block_normal (.dropTo ((c, .cells (List.toArray [.int .i64 e]) 38 (0, 0)) :: (b, .cells (List.toArray [.slice none 0 0, .slice none 0 0]) 96 (0, 0)) :: L) inferInstance (.rec_normal (Le.refl _) ⟨rfl, rfl, rfl⟩)))
theorem caughtTk_spec {wf : FuncId} {first cap : List Value} {K : SlV → SlV → Mem → Prop} {Kp : Int → Prop}
  (hw : ∀ p q, Con Tryz.prog wf (first ++ [] ++ cap).toArray G M (p :: q :: L) (fun v M' L' => L' = p :: q :: L ∧ ∃ x y, v = .agg (List.toArray ([x.v, y.v])) ∧ K x y M') (fun ch M' L' => L' = p :: q :: L ∧ ∃ e, Kp e ∧ ch = lwrong e)) :
  Con Tryz.prog 66 #[.func (.func wf) first.toArray cap.toArray] G M L (fun v M' L' => L' = L ∧ ((∃ x y, v = .tuple #[.agg (List.toArray ([x.v, y.v])), .int .i64 0] ∧ K x y M') ∨ (∃ e, v = .tuple #[.agg (List.toArray [.slice none 0 0, .slice none 0 0]), .int .i64 e] ∧ Kp e))) noPanic := by
 refine enterD (args := [_]) (fn := Tryz.f66) ⟨Tryz.func66, rfl, by kernel_rfl, by kernel_rfl⟩ 7 rfl <| zr <| tl_e rfl <| e_alloc <| fun b1 => tl_e rfl <| e_alloc <| fun b2 => zq <| zr <| tl_y rfl (y_makeFunc rfl rfl) <| tl_e rfl <| e_defer rfl rfl rfl <| zq <| zr ?_
 refine mvF rfl rfl <| tl_e rfl (e_callv rfl rfl (hw _ _) (by
  rintro _ M1 _ hM1 ⟨rfl, e, hr, rfl⟩
  refine .retD (cap := [_, _]) (args := []) caughtTk1_wrong ?_
  rintro _ M2 _ hM2 ⟨rfl, rfl, rfl⟩
  exact .inl ⟨rfl, _, L, rv2 rfl (rc_cellAgg (by rfl) rfl (.own inferInstance inferInstance)) (rc_cell (by rfl) rfl (.own inferInstance inferInstance)), inferInstance, hM1, rfl, .inr ⟨e, rfl, hr⟩⟩) ?_)
 rintro _ M1 _ hM1 ⟨rfl, x, y, rfl, hk⟩
 refine tl_e rfl <| e_st rfl rfl (by rfl) (by rfl) <| tl_e rfl <| e_st rfl rfl (by rfl) (by rfl) <| zq <| .s2 2 3 rfl rfl <| x_ret <| .retD (cap := [_, _]) (args := []) (caughtTk1_ret (cs := [x.v, y.v])) ?_
 rintro _ M2 _ hM2 ⟨rfl, rfl, rfl⟩
 exact .inl ⟨rfl, _, L, rv2 rfl (rc_cellAgg (by rfl) rfl (.own inferInstance inferInstance)) (rc_cell (by rfl) rfl (.own inferInstance inferInstance)), inferInstance, hM1, rfl, .inl ⟨x, y, rfl, hk⟩⟩
theorem Pair1_spec (hg : LmG M) {A : Option Addr} {m c : Nat} {bs : List UInt8} (h : Bytes M A m c bs) (hmb : m ≤ 1000000000000) {b : Nat} [hb : Has L b (.cells (List.toArray [.slice A m c]) 35 (0, 0))] :
  Con Tryz.prog 62 #[.pointer (some ⟨b, 0, none⟩)] G M L (fun v M' L' => L' = L ∧ ∃ x : PairV, v = .agg (List.toArray x.cells) ∧ pairE bs = 0 ∧ x = pairC bs) (fun ch M' L' => L' = L ∧ ∃ e, (pairE bs ≠ 0 ∧ e = pairE bs) ∧ ch = lwrong e) := by
 have hm := h.size
 have hc := h.le
 refine enter (args := [_]) (fn := Tryz.f62) ⟨Tryz.func62, rfl, by kernel_rfl, by kernel_rfl⟩ 40 rfl <| zr <| tl_e rfl <| e_alloc <| fun b1 => zq <| zr <| tl_y rfl (y_ld rfl rfl) <| tl_y rfl (y_len rfl) <| tl_y rfl (y_geq rfl rfl) <| tl_e rfl (e_call rfl (lmust_spec _ _) (by
  rintro _ _ _ _ ⟨rfl, rfl, ht, rfl⟩
  have e : pairE bs = 2 := by rw [pairE, if_pos (by simp at ht; omega)]
  exact TP.dropTo L inferInstance (.retA rfl (Le.refl _) ⟨rfl, _, ⟨by rw [e]; decide, rfl⟩, by rw [e]⟩)) ?_)
 rintro _ _ _ _ ⟨rfl, rfl, ht⟩
 have h8 : 8 ≤ m := by simp at ht; omega
 have hs4 : Bytes M (sl A 4 c 1) 4 (c - 4) ((bs.drop 4).take 4) := Bytes.sub h 4 8 (by omega) h8
 refine zq <| .s2 0 1 rfl rfl <| zr <| tl_y rfl (y_ld rfl rfl) <| tl_y rfl (y_sliceH rfl rfl (by omega) (by omega)) <| tl_e rfl <| e_call' rfl (Get8_spec (Bytes.take h 4 (by omega)) (by omega)) ?_
 rintro _ _ _ _ ⟨rfl, rfl, x, hx, rfl⟩
 have hgl := getB_lt (bs.take 4)
 rw [List.length_take, Nat.min_eq_left (by omega)] at hgl
 have hcv : ((pairC bs).t.toNat : Int) = (x.toNat : Int) := by rw [pairC, UInt32.toNat_ofNat', hx, Nat.mod_eq_of_lt (by omega)]
 refine mvU rfl rfl <| zx rfl rfl <| zx rfl rfl <| asI rfl rfl <| asB rfl rfl <| zq <| .s3 0 1 2 rfl rfl rfl <| zr <| tl_y rfl (y_ld rfl rfl) <| tl_y rfl (y_sliceLH rfl rfl rfl (by omega) (by omega)) ?_
 refine tl_e rfl <| e_call' rfl (Get8_spec hs4 (by omega)) ?_
 rintro _ _ _ _ ⟨rfl, rfl, y, hy, rfl⟩
 have hgl2 := getB_lt ((bs.drop 4).take 4)
 rw [List.length_take, List.length_drop, Nat.min_eq_left (by omega)] at hgl2
 have hcv2 : ((pairC bs).o.toNat : Int) = (y.toNat : Int) := by rw [pairC, UInt32.toNat_ofNat', hy, Nat.mod_eq_of_lt (by omega)]
 refine mvU rfl rfl <| zx rfl rfl <| zx rfl rfl <| asI rfl rfl <| asB rfl rfl <| zq <| .s4 0 1 2 4 rfl rfl rfl rfl <| zr <| mvI rfl rfl <| tl_y rfl (y_convE (b := ((pairC bs).o.toNat : Int)) rfl (by rw [wrapU32, hcv2]; omega)) ?_
 refine mvI rfl rfl <| tl_y rfl (y_convE (b := ((pairC bs).t.toNat : Int)) rfl (by rw [wrapU32, hcv]; omega)) <| tl_y rfl (y_build rfl) <| tl_e rfl <| e_alloc <| fun b2 => tl_e rfl <| e_st rfl rfl (by rfl) (by rfl) <| zq <| .s3 0 1 6 rfl rfl rfl <| zr <| tl_y rfl (y_lg rfl rfl) <| tl_e rfl (e_call rfl (of_spec hg.hs (pairC bs)) (by
  rintro _ M1 _ hM1 ⟨rfl, hno, rfl⟩
  have e : pairE bs = 4 := by rw [pairE, if_neg (by omega), if_pos hno]
  exact TP.dropTo L inferInstance (.retA rfl hM1 ⟨rfl, _, ⟨by rw [e]; decide, rfl⟩, by rw [e]⟩)) ?_)
 rintro _ M1 _ hM1 ⟨rfl, hok, rfl⟩
 obtain ⟨n, w, p, H, hx⟩ := okP_facts hok
 obtain ⟨z1, z2, z3, z4, z5⟩ := hx.sizes
 have hn32 := hx.o.n32
 refine tl_e rfl <| e_alloc <| fun b3 => tl_e rfl <| e_st rfl rfl (by rfl) (by rfl) <| zq <| zr <| tl_y rfl (y_ld rfl rfl) <| tl_y rfl (y_len rfl) <| tl_y rfl (y_fieldAddr rfl) <| tl_y rfl (y_fieldAddr rfl) <| tl_y rfl (y_load (v := .int .i64 (n : Int)) rfl rfl (by rw [← hx.tn]; exact .own inferInstance inferInstance)) <| tl_y rfl (y_addI rfl rfl (by omega)) ?_
 refine tl_y rfl (y_eql rfl rfl) <| tl_e rfl (e_call rfl (lmust_spec _ _) (by
  rintro _ _ _ _ ⟨rfl, rfl, ht, rfl⟩
  have e : pairE bs = 5 := by rw [pairE, if_neg (by omega), if_neg (fun h => h hok), if_pos (by simp at ht; omega)]
  exact TP.dropTo L inferInstance (.retA rfl hM1 ⟨rfl, _, ⟨by rw [e]; decide, rfl⟩, by rw [e]⟩)) ?_)
 rintro _ _ _ _ ⟨rfl, rfl, ht⟩
 have h0 : pairE bs = 0 := by rw [pairE, if_neg (by omega), if_neg (fun h => h hok), if_neg (by simp at ht; omega)]
 refine zq <| .s2 1 6 rfl rfl <| zr <| tl_y rfl (y_lg rfl rfl) <| tl_e rfl <| e_st rfl rfl (by rfl) (by rfl) <| zq <| x_ret (retRV (L' := L) (rv1 rfl (rc_cellAgg (by rfl) rfl (.own inferInstance inferInstance))) inferInstance hM1 ⟨rfl, _, rfl, h0, rfl⟩)
theorem Pair_spec (hg : LmG M) {A : Option Addr} {m c : Nat} {bs : List UInt8} (h : Bytes M A m c bs) (hmb : m ≤ 1000000000000) :
    Con Tryz.prog 20 #[.slice A m c] G M L (fun v M' L' => L' = L ∧ v = .tuple #[.agg (List.toArray (pairX bs).cells), .int .i64 (pairE bs)]) noPanic := by
  refine enter (args := [_]) (fn := Tryz.f20) ⟨Tryz.func20, rfl, by kernel_rfl, by kernel_rfl⟩ 8 rfl <| zr <| tl_e rfl <| e_box rfl <| fun b1 => tl_e rfl <| e_alloc <| fun b2 => as0 rfl rfl <| zq <| zr <| tl_y rfl (y_makeFunc rfl rfl) <| tl_e rfl <| e_call' rfl (caughtX_spec (K := fun x _ => pairE bs = 0 ∧ x = pairC bs) (Kp := fun e => pairE bs ≠ 0 ∧ e = pairE bs) (first := []) (cap := [.pointer (some ⟨b1, 0, none⟩)]) (fun p' q' => Pair1_spec hg h hmb)) ?_
  rintro v M1 _ hM1 ⟨rfl, hv⟩
  obtain rfl : v = .tuple #[.agg (List.toArray (pairX bs).cells), .int .i64 (pairE bs)] := by
    rcases hv with ⟨x, rfl, h0, rfl⟩ | ⟨e, rfl, hno, rfl⟩
    · rw [pairX, if_pos h0, h0]
    · rw [pairX, if_neg hno]; rfl
  refine zx rfl rfl <| zx rfl rfl <| tl_e rfl <| e_st rfl rfl (by rfl) (by rfl) <| asI rfl rfl <| zq <| .s2 2 3 rfl rfl <| x_ret (retRV (L' := L) (rv2 rfl (rc_cellAgg (by rfl) rfl (.own inferInstance inferInstance)) (rc_tmp (by rfl))) inferInstance hM1 ⟨rfl, rfl⟩)
theorem Take1_spec (hg : LmG M) (x : PairV) {A : Option Addr} {m c : Nat} {bs : List UInt8} (h : Bytes M A m c bs) (hmb : m ≤ 1000000000000) {bp b : Nat} [hp : Has L bp (.cells (List.toArray x.cells) 24 (0, 0))] [hb : Has L b (.cells (List.toArray [.slice A m c]) 35 (0, 0))] :
  Con Tryz.prog 67 #[.pointer (some ⟨bp, 0, none⟩), .pointer (some ⟨b, 0, none⟩)] G M L (fun v M' L' => L' = L ∧ ∃ y z : SlV, v = .agg (List.toArray [y.v, z.v]) ∧ takeE x m = 0 ∧ Le M M' ∧ y = ⟨sl A 0 (sigN x) 1, sigN x, sigN x⟩ ∧ z = ⟨sl A (sigN x) c 1, m - sigN x, c - sigN x⟩) (fun ch M' L' => L' = L ∧ ∃ e, (takeE x m ≠ 0 ∧ e = takeE x m) ∧ ch = lwrong e) := by
 have hm := h.size
 have hc := h.le
 refine enter (args := [_, _]) (fn := Tryz.f67) ⟨Tryz.func67, rfl, by kernel_rfl, by kernel_rfl⟩ 20 rfl <| zr <| tl_e rfl <| e_alloc <| fun b1 => zq <| zr <| tl_y rfl (y_lg rfl rfl) <| tl_e rfl (e_call rfl (of_spec hg.hs x) (by
  rintro _ M1 _ hM1 ⟨rfl, hno, rfl⟩
  have e : takeE x m = 4 := by rw [takeE, if_pos hno]
  exact TP.dropTo L inferInstance (.retA rfl hM1 ⟨rfl, _, ⟨by rw [e]; decide, rfl⟩, by rw [e]⟩)) ?_)
 rintro _ M1 _ hM1 ⟨rfl, hok, rfl⟩
 obtain ⟨n, w, p, H, hx⟩ := okP_facts hok
 obtain ⟨z1, z2, z3, z4, z5⟩ := hx.sizes
 refine tl_e rfl <| e_call' rfl (lsize_spec hx) ?_
 rintro _ _ _ _ ⟨rfl, rfl, rfl⟩
 refine asI rfl rfl <| zq <| .s3 1 2 3 rfl rfl rfl <| zr <| tl_y rfl (y_ld rfl rfl) <| tl_y rfl (y_len rfl) <| mvI rfl rfl <| tl_y rfl (y_geq rfl rfl) <| tl_e rfl (e_call rfl (lmust_spec _ _) (by
  rintro _ _ _ _ ⟨rfl, rfl, ht, rfl⟩
  have e : takeE x m = 2 := by rw [takeE, if_neg (fun h => h hok), if_pos (by simp at ht; omega)]
  exact TP.dropTo L inferInstance (.retA rfl hM1 ⟨rfl, _, ⟨by rw [e]; decide, rfl⟩, by rw [e]⟩)) ?_)
 rintro _ _ _ _ ⟨rfl, rfl, ht⟩
 have hN : sigN x ≤ m := by simp at ht; omega
 have h0 : takeE x m = 0 := by rw [takeE, if_neg (fun h => h hok), if_neg (by omega)]
 refine zq <| .s3 1 2 3 rfl rfl rfl <| x_seq <| x_draw 8 hmix rfl <| zy 0 rfl rfl (y_ld rfl rfl) <| zp 1 rfl rfl (y_move (v := .int _ _) rfl) <| zp 2 rfl rfl (y_move (v := .int _ _) rfl) <| zp 3 rfl rfl (y_slice3 rfl rfl rfl (by omega) (by omega)) <| zy 4 rfl rfl (y_ld rfl rfl) <| zp 5 rfl rfl (y_move (v := .int _ _) rfl) ?_
 refine zp 6 rfl rfl (y_sliceL rfl rfl (by omega)) <| zp 7 rfl rfl (y_buildArr rfl) <| zt 8 rfl rfl <| e_st rfl rfl (by rfl) (by rfl) <| zz <| .then_normal <| .s1 2 rfl <| x_ret (retRV (L' := L) (rv1 rfl (rc_cellAgg (by rfl) rfl (.own inferInstance inferInstance))) inferInstance hM1 ⟨rfl, ⟨_, _, _⟩, ⟨_, _, _⟩, rfl, h0, hM1, rfl, rfl⟩)
theorem Take_spec (hg : LmG M) (x : PairV) {A : Option Addr} {m c : Nat} {bs : List UInt8} (h : Bytes M A m c bs) (hmb : m ≤ 1000000000000) :
    Con Tryz.prog 22 #[.agg (List.toArray x.cells), .slice A m c] G M L (fun v M' L' => L' = L ∧ ∃ A1 n1 c1 A2 n2 c2, v = .tuple #[.slice A1 n1 c1, .slice A2 n2 c2, .int .i64 (takeE x m)] ∧ Bytes M' A1 n1 c1 (if takeE x m = 0 then bs.take (sigN x) else []) ∧ Bytes M' A2 n2 c2 (if takeE x m = 0 then bs.drop (sigN x) else [])) noPanic := by
  have hm := h.size
  have hc := h.le
  refine enter (args := [_, _]) (fn := Tryz.f22) ⟨Tryz.func22, rfl, by kernel_rfl, by kernel_rfl⟩ 19 rfl <| zr <| tl_e rfl <| e_box rfl <| fun b1 => tl_e rfl <| e_box rfl <| fun b2 => as0 rfl rfl <| as0 rfl rfl <| as0 rfl rfl <| zq <| .s2 2 3 rfl rfl <| zr ?_
  refine tl_y rfl (y_makeFunc rfl rfl) <| tl_e rfl <| e_call' rfl (caughtTk_spec (K := fun y z M' => takeE x m = 0 ∧ Le M M' ∧ y = ⟨sl A 0 (sigN x) 1, sigN x, sigN x⟩ ∧ z = ⟨sl A (sigN x) c 1, m - sigN x, c - sigN x⟩) (Kp := fun e => takeE x m ≠ 0 ∧ e = takeE x m) (first := []) (cap := [.pointer (some ⟨b1, 0, none⟩), .pointer (some ⟨b2, 0, none⟩)]) (fun p' q' => Take1_spec hg x h hmb)) ?_
  rintro v M1 _ hM1 ⟨rfl, hv⟩
  obtain ⟨⟨A1, n1, c1⟩, ⟨A2, n2, c2⟩, rfl, hb1, hb2⟩ : ∃ y z : SlV, v = .tuple #[.agg (List.toArray [y.v, z.v]), .int .i64 (takeE x m)] ∧ Bytes M1 y.a y.n y.c (if takeE x m = 0 then bs.take (sigN x) else []) ∧ Bytes M1 z.a z.n z.c (if takeE x m = 0 then bs.drop (sigN x) else []) := by
    rcases hv with ⟨y, z, rfl, h0, hle, rfl, rfl⟩ | ⟨e, rfl, hno, rfl⟩
    · have hN : sigN x ≤ m := by
        unfold takeE at h0
        split at h0
        · cases h0
        · split at h0
          · cases h0
          · omega
      exact ⟨_, _, by rw [h0], by rw [if_pos h0]; exact Bytes.take3 (h.mono hM1) _ _ hN (Nat.le_refl _) (by omega), by rw [if_pos h0]; exact Bytes.drop (h.mono hM1) _ hN⟩
    · exact ⟨⟨none, 0, 0⟩, ⟨none, 0, 0⟩, rfl, by rw [if_neg hno]; exact Row.nil _ _, by rw [if_neg hno]; exact Row.nil _ _⟩
  refine mvU rfl rfl <| zx rfl rfl <| zx rfl rfl <| tl_e rfl <| e_alloc <| fun b3 => tl_e rfl <| e_st rfl rfl (by rfl) (by rfl) <| asI rfl rfl <| zq <| .s2 7 8 rfl rfl <| x_seq <| x_draw 8 hmix rfl ?_
  refine zp 0 rfl rfl (y_indexArrK 0 rfl rfl (by omega)) <| zy 1 rfl rfl (y_ld rfl rfl) <| zp 2 rfl rfl (y_indexArrK 1 rfl rfl (by omega)) <| zy 3 rfl rfl (y_ld rfl rfl) <| zp 4 rfl rfl (y_move (v := .int _ _) rfl) <| zp 5 rfl rfl (y_assign (v := .slice _ _ _) rfl) <| zp 6 rfl rfl (y_assign (v := .slice _ _ _) rfl) <| zp 7 rfl rfl (y_assign (v := .int _ _) rfl) <| zz <| .then_normal <| .s3 4 5 6 rfl rfl rfl ?_
  refine x_ret (.dropTo L inferInstance (ret3 rfl rfl rfl rfl hM1 ⟨rfl, _, _, _, _, _, _, rfl, hb1, hb2⟩))
end
end Go.Proofs.YtiimjodbaogjbaaGreatDoor
set_option linter.unusedVariables false
set_option linter.unusedSimpArgs false
set_option linter.constructorNameAsVariable false
namespace Go.Proofs.YtiimjodbaogjbaaGreatDoor
open Go Go.Eng
section
variable {G : World} {M : Mem} {L : Own} {NA SA TA : Option Addr} {nl nc sl_ sc tl tc : Nat} {name sec text : List UInt8}
theorem hwell_spec (e : Int) :
  Con Tryz.prog 170 #[.int .i64 e] G M L (fun v M' L' => M = M' ∧ L = L' ∧ e = 0) (fun ch M' L' => M = M' ∧ L = L' ∧ e ≠ 0 ∧ ch = hwrong e) := by
 refine enter (args := [_]) (fn := Tryz.f170) ⟨Tryz.func170, rfl, by kernel_rfl, by kernel_rfl⟩ 6 rfl <| x_region <| mvI rfl rfl <| tl_y rfl (y_eql rfl rfl) <| mvI rfl rfl <| tl_e rfl (e_call rfl (hmust_spec _ _) (by
  rintro _ _ _ _ ⟨rfl, rfl, ht, rfl⟩
  exact .retA rfl (Le.refl _) ⟨rfl, rfl, by simpa using ht, rfl⟩) ?_)
 rintro _ _ _ _ ⟨rfl, rfl, ht⟩
 refine tl_nil (end0 rfl (Le.refl _) ⟨rfl, rfl, by simpa using ht⟩)
end
end Go.Proofs.YtiimjodbaogjbaaGreatDoor
set_option linter.unusedVariables false
set_option linter.unusedSimpArgs false
set_option linter.constructorNameAsVariable false
namespace Go.Proofs.YtiimjodbaogjbaaGreatDoor
open Go Go.Eng
inductive PtRows (M : Mem) : List Value → List PartB → Prop
 | nil : PtRows M [] []
 | cons {x : PartB} {KA SA NA : Option Addr} {kl kc sl_ sc nl nc : Nat} {vs : List Value} {ps : List PartB} : Bytes M KA kl kc x.key → Bytes M SA sl_ sc x.sig → Bytes M NA nl nc x.next → (x.next = [] → NA = none) → PtRows M vs ps → PtRows M (.slice KA kl kc :: .slice SA sl_ sc :: .slice NA nl nc :: vs) (x :: ps)
theorem PtRows.mono {M M' : Mem} (hle : Le M M') {vs : List Value} {ps : List PartB} (h : PtRows M vs ps) : PtRows M' vs ps := by
 induction h with
 | nil => exact .nil
 | cons h1 h2 h3 h4 _ ih => exact .cons (h1.mono hle) (h2.mono hle) (h3.mono hle) h4 ih
theorem PtRows.len {M : Mem} {vs : List Value} {ps : List PartB} (h : PtRows M vs ps) : vs.length = ps.length * 3 := by
 induction h with
 | nil => rfl
 | cons _ _ _ _ _ ih => simp only [List.length_cons, ih]; omega
theorem PtRows.snoc {M : Mem} {vs : List Value} {ps : List PartB} (h : PtRows M vs ps) {x : PartB} {KA SA NA : Option Addr} {kl kc sl_ sc nl nc : Nat} (h1 : Bytes M KA kl kc x.key) (h2 : Bytes M SA sl_ sc x.sig) (h3 : Bytes M NA nl nc x.next) (h4 : x.next = [] → NA = none) :
  PtRows M (vs ++ [.slice KA kl kc, .slice SA sl_ sc, .slice NA nl nc]) (ps ++ [x]) := by
 induction h with
 | nil => exact .cons h1 h2 h3 h4 .nil
 | cons a1 a2 a3 a4 _ ih => exact .cons a1 a2 a3 a4 ih
theorem PtRows.get {M : Mem} {vs : List Value} {ps : List PartB} (h : PtRows M vs ps) : ∀ i x, ps[i]? = some x → ∃ KA SA NA kl kc sl_ sc nl nc, (vs.drop (i * 3)).take 3 = [.slice KA kl kc, .slice SA sl_ sc, .slice NA nl nc] ∧ Bytes M KA kl kc x.key ∧ Bytes M SA sl_ sc x.sig ∧ Bytes M NA nl nc x.next ∧ (x.next = [] → NA = none) := by
 induction h with
 | nil => intro i x hi; simp at hi
 | @cons y KA SA NA kl kc sl_ sc nl nc vs ps h1 h2 h3 h4 _ ih =>
  intro i x hi
  cases i with
  | zero =>
   obtain rfl : y = x := by simpa using hi
   exact ⟨KA, SA, NA, kl, kc, sl_, sc, nl, nc, rfl, h1, h2, h3, h4⟩
  | succ i =>
   have := ih i x (by simpa using hi)
   rwa [show (i + 1) * 3 = i * 3 + 3 by omega]
section
variable {G : World} {M : Mem} {L : Own} {A : Option Addr} {m c : Nat} {bs : List UInt8}
theorem caughtHL1_ret {b c : Nat} {x : Int} {cs : List Value} : ConD Tryz.prog 167 #[.pointer (some ⟨b, 0, none⟩), .pointer (some ⟨c, 0, none⟩)] .returning G M ((c, .cells (List.toArray [.int .i64 x]) 38 (0, 0)) :: (b, .cells cs.toArray 132 (0, 0)) :: L) (fun u' M' L' => u' = .returning ∧ M' = M ∧ L' = (c, .cells (List.toArray [.int .i64 x]) 38 (0, 0)) :: (b, .cells cs.toArray 132 (0, 0)) :: L) := by
 refine enterRec (args := [_, _]) (fn := Tryz.f167) ⟨Tryz.func167, rfl, by kernel_rfl, by kernel_rfl⟩ 15 rfl rfl <| x_block <| zr <| tl_y rfl (y_eqNilIface rfl rfl) <| zq <| x_true rfl (rfl) <| x_region <| as0 rfl rfl <| tl_nil (.block_normal (.rec_normal (Le.refl _) ⟨rfl, rfl, rfl⟩))
theorem caughtHL1_wrong {b c : Nat} {x e : Int} : ConD Tryz.prog 167 #[.pointer (some ⟨b, 0, none⟩), .pointer (some ⟨c, 0, none⟩)] (.panicking (hwrong e)) G M ((c, .cells (List.toArray [.int .i64 x]) 38 (0, 0)) :: (b, .cells (List.toArray [.slice none 0 0]) 132 (0, 0)) :: L)
  (fun u' M' L' => u' = .panicking [{ v := hwrongv e, recovered := true }] ∧ M' = M ∧ L' = (c, .cells (List.toArray [.int .i64 e]) 38 (0, 0)) :: (b, .cells (List.toArray [.slice none 0 0]) 132 (0, 0)) :: L) := by
 refine enterRec (args := [_, _]) (fn := Tryz.f167) ⟨Tryz.func167, rfl, by kernel_rfl, by kernel_rfl⟩ 15 rfl rfl <| x_block <| zr <| tl_y rfl (y_eqIfaceNil rfl rfl) <| zq <| x_false rfl (rfl) <| zr <| tl_y rfl (y_assertOk rfl (by intro _ h; cases h)) <| zx rfl rfl <| zx rfl rfl ?_
 refine zq <| x_true rfl (rfl) <| zr <| tl_e rfl <| e_alloc <| fun b7 => tl_e rfl <| e_st rfl rfl (by rfl) (by rfl) <| zq <| .s3 0 1 3 rfl rfl rfl <| zr <| as0 rfl rfl <| zq ?_
 refine x_draw0 4 ((b7, .cells (List.toArray [.int .i64 e]) 164 (0, 0)) :: []) Keeps.mem hmix rfl <| zp 0 rfl rfl (y_move (v := .slice _ _ _) rfl) <| zp 1 rfl rfl (y_fieldAddr rfl) <| zy 2 rfl rfl (y_ld rfl rfl) <| ze 3 rfl rfl <| e_st rfl rfl (by rfl) (by rfl) <| ⟨⟨(by first | exact Le.refl _ | assumption), Keeps.mem⟩, ?_⟩
 refine zt 4 rfl rfl <| e_st rfl rfl (by rfl) (by rfl) <| zz (.block_normal (.dropTo ((c, .cells (List.toArray [.int .i64 e]) 38 (0, 0)) :: (b, .cells (List.toArray [.slice none 0 0]) 132 (0, 0)) :: L) inferInstance (.rec_normal (Le.refl _) ⟨rfl, rfl, rfl⟩)))
theorem caughtHL_spec {wf : FuncId} {first cap : List Value} {K : Option Addr → Nat → Nat → Mem → Prop} {Kp : Int → Prop}
  (hw : ∀ p q, Con Tryz.prog wf (first ++ [] ++ cap).toArray G M (p :: q :: L) (fun v M' L' => L' = p :: q :: L ∧ ∃ A n c, v = .slice A n c ∧ K A n c M') (fun ch M' L' => L' = p :: q :: L ∧ ∃ e, Kp e ∧ ch = hwrong e)) :
  Con Tryz.prog 108 #[.func (.func wf) first.toArray cap.toArray] G M L (fun v M' L' => L' = L ∧ ((∃ A n c, v = .tuple #[.slice A n c, .int .i64 0] ∧ K A n c M') ∨ (∃ e, v = .tuple #[.slice none 0 0, .int .i64 e] ∧ Kp e))) noPanic := by
 refine enterD (args := [_]) (fn := Tryz.f108) ⟨Tryz.func108, rfl, by kernel_rfl, by kernel_rfl⟩ 7 rfl <| zr <| tl_e rfl <| e_alloc <| fun b1 => tl_e rfl <| e_alloc <| fun b2 => zq <| zr <| tl_y rfl (y_makeFunc rfl rfl) <| tl_e rfl <| e_defer rfl rfl rfl <| zq <| zr ?_
 refine mvF rfl rfl <| tl_e rfl (e_callv rfl rfl (hw _ _) (by
  rintro _ M1 _ hM1 ⟨rfl, e, hr, rfl⟩
  refine .retD (cap := [_, _]) (args := []) caughtHL1_wrong ?_
  rintro _ M2 _ hM2 ⟨rfl, rfl, rfl⟩
  exact .inl ⟨rfl, _, L, rv2 rfl (rc_cell (by rfl) rfl (.own inferInstance inferInstance)) (rc_cell (by rfl) rfl (.own inferInstance inferInstance)), inferInstance, hM1, rfl, .inr ⟨e, rfl, hr⟩⟩) ?_)
 rintro _ M1 _ hM1 ⟨rfl, A, n, c, rfl, hk⟩
 refine tl_e rfl <| e_st rfl rfl (by rfl) (by rfl) <| tl_e rfl <| e_st rfl rfl (by rfl) (by rfl) <| zq <| .s2 2 3 rfl rfl <| x_ret <| .retD (cap := [_, _]) (args := []) (caughtHL1_ret (cs := [.slice A n c])) ?_
 rintro _ M2 _ hM2 ⟨rfl, rfl, rfl⟩
 exact .inl ⟨rfl, _, L, rv2 rfl (rc_cell (by rfl) rfl (.own inferInstance inferInstance)) (rc_cell (by rfl) rfl (.own inferInstance inferInstance)), inferInstance, hM1, rfl, .inl ⟨A, n, c, rfl, hk⟩⟩
theorem htake_spec {b : Nat} (h : Bytes M A m c bs) (n : Nat) :
  Con Tryz.prog 207 #[.pointer (some ⟨b, 0, none⟩), .int .i64 (n : Int)] G M ((b, .cells (List.toArray [.slice A m c]) 35 (0, 0)) :: L) (fun v M' L' => L' = (b, .cells (List.toArray [.slice (sl A n c 1) (m - n) (c - n)]) 35 (0, 0)) :: L ∧ n ≤ m ∧ v = .slice (sl A 0 n 1) n n) (fun ch M' L' => L' = (b, .cells (List.toArray [.slice A m c]) 35 (0, 0)) :: L ∧ m < n ∧ ch = hwrong 2) := by
 have hc := h.le
 refine enter (args := [_, _]) (fn := Tryz.f207) ⟨Tryz.func207, rfl, by kernel_rfl, by kernel_rfl⟩ 27 rfl <| zr <| as0 rfl rfl <| zq <| zr <| mvP rfl rfl <| zc rfl rfl <| tl_y rfl (y_ld rfl rfl) <| tl_y rfl (y_len rfl) <| mvI rfl rfl ?_
 refine tl_y rfl (y_geq rfl rfl) <| tl_e rfl (e_call rfl (hmust_spec _ _) (by
  rintro _ _ _ _ ⟨rfl, rfl, ht, rfl⟩
  exact .retA rfl (Le.refl _) ⟨rfl, by simp at ht; omega, rfl⟩) ?_)
 rintro _ _ _ _ ⟨rfl, rfl, ht⟩
 have hn : n ≤ m := by simp at ht; omega
 refine zq <| .s2 0 1 rfl rfl <| zr <| mvP rfl rfl <| zc rfl rfl <| tl_y rfl (y_ld rfl rfl) <| mvI rfl rfl <| mvI rfl rfl <| tl_y rfl (y_slice3 rfl rfl rfl (by omega) (by omega)) <| asS rfl rfl ?_
 refine zq <| .s3 0 1 5 rfl rfl rfl <| zr <| mvP rfl rfl <| mvP rfl rfl <| zc rfl rfl <| tl_y rfl (y_ld rfl rfl) <| mvI rfl rfl <| tl_y rfl (y_sliceL rfl rfl (by omega)) <| zc rfl rfl ?_
 refine tl_e rfl <| e_st rfl rfl (by rfl) (by rfl) <| zq <| .s1 5 rfl <| zr <| mvS rfl rfl <| asS rfl rfl <| zq <| x_ret (ret1 rfl rfl (Le.refl _) ⟨rfl, hn, rfl⟩)
theorem hcount_spec {b : Nat} (h : Bytes M A m c bs) :
  Con Tryz.prog 164 #[.pointer (some ⟨b, 0, none⟩)] G M ((b, .cells (List.toArray [.slice A m c]) 35 (0, 0)) :: L) (fun v M' L' => L' = (b, .cells (List.toArray [.slice (sl A 4 c 1) (m - 4) (c - 4)]) 35 (0, 0)) :: L ∧ 4 ≤ m ∧ v = .int .i64 ((getB (bs.take 4) : Nat) : Int)) (fun ch M' L' => L' = (b, .cells (List.toArray [.slice A m c]) 35 (0, 0)) :: L ∧ m < 4 ∧ ch = hwrong 2) := by
 have hc := h.le
 have hm := h.size
 refine enter (args := [_]) (fn := Tryz.f164) ⟨Tryz.func164, rfl, by kernel_rfl, by kernel_rfl⟩ 13 rfl <| zr <| as0 rfl rfl <| zq <| zr <| mvP rfl rfl <| tl_e rfl (e_call rfl (htake_spec h 4) (by
  rintro _ M1 _ hM1 ⟨rfl, hlt, rfl⟩
  exact .retA rfl hM1 ⟨rfl, hlt, rfl⟩) ?_)
 rintro _ M1 _ hM1 ⟨rfl, h4, rfl⟩
 have hgl := getB_lt (bs.take 4)
 rw [List.length_take, Nat.min_eq_left (by omega)] at hgl
 refine tl_e rfl <| e_call' rfl (Get8_spec (Bytes.take3 (h.mono hM1) 4 4 h4 (Nat.le_refl _) (by omega)) (by omega)) ?_
 rintro _ _ _ _ ⟨rfl, rfl, x, hx, rfl⟩
 refine mvU rfl rfl <| zx rfl rfl <| zx rfl rfl <| asI rfl rfl <| asB rfl rfl <| zq <| .s1 3 rfl <| zr <| mvI rfl rfl <| tl_y rfl (y_convE (b := ((getB (bs.take 4) : Nat) : Int)) rfl (by rw [← hx]; exact IntWalk.i64_in _ (by omega))) ?_
 refine asI rfl rfl <| zq <| x_ret (ret1 rfl rfl hM1 ⟨rfl, h4, rfl⟩)
theorem hkey_spec (hg : LmG M) {b : Nat} (h : Bytes M A m c bs) :
  Con Tryz.prog 165 #[.pointer (some ⟨b, 0, none⟩)] G M ((b, .cells (List.toArray [.slice A m c]) 35 (0, 0)) :: L) (fun v M' L' => keyE bs = 0 ∧ ∃ A' m' c' A2 n2 c2, L' = (b, .cells (List.toArray [.slice A' m' c']) 35 (0, 0)) :: L ∧ v = .slice A2 n2 c2 ∧ Bytes M' A2 n2 c2 (keyT bs) ∧ Bytes M' A' m' c' (keyD bs)) (fun ch M' L' => L' = (b, .cells (List.toArray [.slice A m c]) 35 (0, 0)) :: L ∧ keyE bs ≠ 0 ∧ ch = hwrong (keyE bs)) := by
 have hc := h.le
 have hm := h.size
 refine enter (args := [_]) (fn := Tryz.f165) ⟨Tryz.func165, rfl, by kernel_rfl, by kernel_rfl⟩ 50 rfl <| zr <| as0 rfl rfl <| zq <| zr <| mvP rfl rfl <| zc rfl rfl <| tl_y rfl (y_ld rfl rfl) <| tl_y rfl (y_len rfl) <| tl_y rfl (y_geq rfl rfl) ?_
 refine tl_e rfl (e_call rfl (hmust_spec _ _) (by
  rintro _ _ _ _ ⟨rfl, rfl, ht, rfl⟩
  have e : keyE bs = 2 := by rw [keyE, if_pos (by simp at ht; omega)]
  exact .retA rfl (Le.refl _) ⟨rfl, by rw [e]; decide, by rw [e]⟩) ?_)
 rintro _ _ _ _ ⟨rfl, rfl, ht⟩
 have h8 : 8 ≤ m := by simp at ht; omega
 have hs4 : Bytes M (sl A 4 c 1) 4 (c - 4) ((bs.drop 4).take 4) := Bytes.sub h 4 8 (by omega) h8
 refine zq <| .s1 0 rfl <| zr <| tl_y rfl (y_build rfl) <| tl_e rfl <| e_alloc <| fun b1 => tl_e rfl <| e_st rfl rfl (by rfl) (by rfl) <| zq <| zr <| mvP rfl rfl <| zc rfl rfl ?_
 refine tl_y rfl (y_ld rfl rfl) <| tl_y rfl (y_sliceH rfl rfl (by omega) (by omega)) <| tl_e rfl <| e_call' rfl (Get8_spec (Bytes.take h 4 (by omega)) (by omega)) ?_
 rintro _ _ _ _ ⟨rfl, rfl, x, hx, rfl⟩
 have hgl := getB_lt (bs.take 4)
 rw [List.length_take, Nat.min_eq_left (by omega)] at hgl
 have hcv : ((pairC bs).t.toNat : Int) = (x.toNat : Int) := by rw [pairC, UInt32.toNat_ofNat', hx, Nat.mod_eq_of_lt (by omega)]
 refine mvU rfl rfl <| zx rfl rfl <| zx rfl rfl <| asI rfl rfl <| asB rfl rfl <| zq <| .s3 0 3 4 rfl rfl rfl <| zr <| mvP rfl rfl <| zc rfl rfl ?_
 refine tl_y rfl (y_ld rfl rfl) <| tl_y rfl (y_sliceLH rfl rfl rfl (by omega) (by omega)) <| tl_e rfl <| e_call' rfl (Get8_spec hs4 (by omega)) ?_
 rintro _ _ _ _ ⟨rfl, rfl, y, hy, rfl⟩
 have hgl2 := getB_lt ((bs.drop 4).take 4)
 rw [List.length_take, List.length_drop, Nat.min_eq_left (by omega)] at hgl2
 have hcv2 : ((pairC bs).o.toNat : Int) = (y.toNat : Int) := by rw [pairC, UInt32.toNat_ofNat', hy, Nat.mod_eq_of_lt (by omega)]
 refine mvU rfl rfl <| zx rfl rfl <| zx rfl rfl <| asI rfl rfl <| asB rfl rfl <| zq <| .s4 0 3 4 6 rfl rfl rfl rfl <| zr <| mvI rfl rfl <| tl_y rfl (y_convE (b := ((pairC bs).t.toNat : Int)) rfl (by rw [wrapU32, hcv]; omega)) ?_
 refine mvI rfl rfl <| tl_y rfl (y_convE (b := ((pairC bs).o.toNat : Int)) rfl (by rw [wrapU32, hcv2]; omega)) <| tl_y rfl (y_fieldAddr rfl) <| tl_e rfl <| e_st rfl rfl (by rfl) (by rfl) <| tl_y rfl (y_fieldAddr rfl) <| tl_e rfl <| e_st rfl rfl (by rfl) (by rfl) <| zq <| .s2 0 3 rfl rfl <| zr <| tl_y rfl (y_lg rfl rfl) ?_
 refine tl_e rfl <| e_call' rfl (lMay_spec hg.hs (pairC bs)) ?_
 rintro _ M1 _ hM1 ⟨rfl, rfl⟩
 have hd := hM1
 refine tl_e rfl (e_call rfl (hmust_spec _ _) (by
  rintro _ _ _ _ ⟨rfl, rfl, ht, rfl⟩
  have e : keyE bs = 4 := by rw [keyE, if_neg (by omega), if_pos (by simpa using ht)]
  exact TP.dropTo ((b, .cells (List.toArray [.slice A m c]) 35 (0, 0)) :: L) inferInstance (.retA rfl hd ⟨rfl, by rw [e]; decide, by rw [e]⟩)) ?_)
 rintro _ _ _ _ ⟨rfl, rfl, ht⟩
 have hok : okP (pairC bs) := by simpa using ht
 refine zq <| zr <| tl_y rfl (y_lg rfl rfl) <| tl_e rfl <| e_call' rfl (Sizes_spec (hg.mono hd) (pairC bs)) ?_
 rintro _ M2 _ hM2 ⟨rfl, rfl⟩
 replace hd := hd.trans hM2
 rw [show szP (pairC bs) = pubN (pairC bs) by rw [szP, if_pos hok]]
 refine mvU rfl rfl <| zx rfl rfl <| zx rfl rfl <| asI rfl rfl <| asI rfl rfl <| zq <| .s2 0 8 rfl rfl <| zr <| mvP rfl rfl <| mvI rfl rfl ?_
 refine .dropTo ((b, .cells (List.toArray [.slice A m c]) 35 (0, 0)) :: L) inferInstance <| tl_e rfl (e_call rfl (htake_spec (h.mono hd) (pubN (pairC bs))) (by
  rintro _ M3 _ hM3 ⟨rfl, hlt, rfl⟩
  have e : keyE bs = 2 := by rw [keyE, if_neg (by omega), if_neg (fun h => h hok), if_pos (by omega)]
  exact .retA rfl (hd.trans hM3) ⟨rfl, by rw [e]; decide, by rw [e]⟩) ?_)
 rintro _ M3 _ hM3 ⟨rfl, hle, rfl⟩
 replace hd := hd.trans hM3
 refine asS rfl rfl <| zq <| .s1 2 rfl <| x_ret (ret1 rfl rfl hd ⟨by rw [keyE, if_neg (by omega), if_neg (fun h => h hok), if_neg (by omega)], _, _, _, _, _, _, rfl, rfl, Bytes.take3 (h.mono hd) _ _ hle (Nat.le_refl _) (by omega), Bytes.drop (h.mono hd) _ hle⟩)
theorem hsigned_spec (hg : LmG M) {b : Nat} (h : Bytes M A m c bs) (hmb : m ≤ 1000000000000) {KA : Option Addr} {kl kc : Nat} {k : List UInt8} (hk : Bytes M KA kl kc k) (hkb : kl ≤ 1000000000000) (hk0 : pairE k = 0) :
  Con Tryz.prog 166 #[.slice KA kl kc, .pointer (some ⟨b, 0, none⟩)] G M ((b, .cells (List.toArray [.slice A m c]) 35 (0, 0)) :: L) (fun v M' L' => sigN (pairC k) ≤ m ∧ ∃ A' m' c' A2 n2 c2, L' = (b, .cells (List.toArray [.slice A' m' c']) 35 (0, 0)) :: L ∧ v = .slice A2 n2 c2 ∧ Bytes M' A2 n2 c2 (sgT k bs) ∧ Bytes M' A' m' c' (sgD k bs)) (fun ch M' L' => L' = (b, .cells (List.toArray [.slice A m c]) 35 (0, 0)) :: L ∧ m < sigN (pairC k) ∧ ch = hwrong 2) := by
 obtain ⟨h8, hok, hlen⟩ := pairE_zero hk0
 have hx0 : pairX k = pairC k := by rw [pairX, if_pos hk0]
 refine enter (args := [_, _]) (fn := Tryz.f166) ⟨Tryz.func166, rfl, by kernel_rfl, by kernel_rfl⟩ 31 rfl <| zr <| as0 rfl rfl <| zq <| zr <| mvS rfl rfl <| tl_e rfl <| e_call' rfl (Pair_spec hg hk hkb) ?_
 rintro _ M1 _ hM1 ⟨rfl, rfl⟩
 have hd := hM1
 rw [hx0, hk0]
 refine mvU rfl rfl <| zx rfl rfl <| zx rfl rfl <| tl_e rfl <| e_alloc <| fun b1 => tl_e rfl <| e_st rfl rfl (by rfl) (by rfl) <| asI rfl rfl <| zq <| .s3 1 5 6 rfl rfl rfl <| zr <| mvI rfl rfl ?_
 refine tl_e rfl (e_call rfl (hwell_spec _) (by
  rintro _ _ _ _ ⟨rfl, rfl, hne, rfl⟩
  exact absurd rfl hne) ?_)
 rintro _ _ _ _ ⟨rfl, rfl, _⟩
 refine zq <| x_seq ?_
 have he : Le M1 M1 := Le.refl _
 refine x_draw 12 hmix rfl <| zy 0 rfl rfl (y_lg rfl rfl) <| zp 1 rfl rfl (y_move (v := .pointer _) rfl) <| zp 2 rfl rfl (y_nilCheck rfl) <| zy 3 rfl rfl (y_ld rfl rfl) <| ze 4 rfl rfl <| e_call' rfl (Take_spec (hg.mono hd) (pairC k) (h.mono hd) hmb) ?_
 rintro _ M2 _ hM2 ⟨rfl, A2, n2, c2, A3, n3, c3, rfl, hA2, hA3⟩
 replace hd := hd.trans hM2
 replace he := he.trans hM2
 refine ⟨⟨(by first | exact Le.refl _ | assumption), Keeps.mem⟩, ?_⟩
 refine zp 5 rfl rfl (y_move (v := .tuple _) rfl) <| zp 6 rfl rfl (y_extract rfl) <| zp 7 rfl rfl (y_extract rfl) <| zp 8 rfl rfl (y_extract rfl) <| zp 9 rfl rfl (y_assign (v := .slice _ _ _) rfl) <| zp 10 rfl rfl (y_assign (v := .slice _ _ _) rfl) <| zp 11 rfl rfl (y_assign (v := .int _ _) rfl) <| zz <| .then_normal <| .s4 1 6 7 8 rfl rfl rfl rfl <| zr ?_
 refine mvI rfl rfl <| tl_e rfl (e_call rfl (hwell_spec _) (by
  rintro _ _ _ _ ⟨rfl, rfl, hne, rfl⟩
  have hlt : m < sigN (pairC k) := Nat.lt_of_not_le (fun hle => hne (by rw [takeE, if_neg (fun h => h hok), if_neg (by omega)]))
  exact TP.dropTo ((b, .cells (List.toArray [.slice A m c]) 35 (0, 0)) :: L) inferInstance (.retA rfl hd ⟨rfl, hlt, by rw [takeE, if_neg (fun h => h hok), if_pos hlt]⟩)) ?_)
 rintro _ _ _ _ ⟨rfl, rfl, h0⟩
 rw [if_pos h0] at hA2 hA3
 have hle : sigN (pairC k) ≤ m := Nat.le_of_not_lt (fun hlt => by rw [takeE, if_neg (fun h => h hok), if_pos hlt] at h0; cases h0)
 refine zq <| zr <| mvP rfl rfl <| mvS rfl rfl <| zc rfl rfl <| tl_e rfl <| e_st rfl rfl (by rfl) (by rfl) <| zq <| .s1 7 rfl <| zr <| mvS rfl rfl ?_
 refine asS rfl rfl <| zq <| x_ret (.dropTo ((b, .cells (List.toArray [.slice A3 n3 c3]) 35 (0, 0)) :: L) inferInstance (ret1 rfl rfl hd ⟨hle, _, _, _, _, _, _, rfl, rfl, hA2, hA3⟩))
end
end Go.Proofs.YtiimjodbaogjbaaGreatDoor
set_option linter.unusedVariables false
set_option linter.unusedSimpArgs false
set_option linter.constructorNameAsVariable false
namespace Go.Proofs.YtiimjodbaogjbaaGreatDoor
open Go Go.Eng
theorem keyT_pair {bs : List UInt8} (h : keyE bs = 0) : pairE (keyT bs) = 0 ∧ pairC (keyT bs) = pairC bs ∧ (keyT bs).length = pubN (pairC bs) ∧ 48 ≤ pubN (pairC bs) ∧ pubN (pairC bs) ≤ 56 := by
 obtain ⟨h8, hok, hle⟩ := keyE_zero h
 obtain ⟨n, w, p, H, hx⟩ := okP_facts hok
 obtain ⟨z1, _, _, _, _⟩ := hx.sizes
 have hn := hx.o.n32
 have hl : (keyT bs).length = pubN (pairC bs) := by rw [keyT, List.length_take]; omega
 have hp : pairC (keyT bs) = pairC bs := by
  rw [pairC, pairC, keyT, List.drop_take, List.take_take, List.take_take, Nat.min_eq_left (by omega), Nat.min_eq_left (by omega)]
 refine ⟨?_, hp, hl, by omega, by omega⟩
 rw [pairE, if_neg (by omega), hp, if_neg (fun h' => h' hok), if_neg (by omega)]
theorem parse_succ {j : Nat} {k b : List UInt8} (h1 : sigN (pairC k) ≤ b.length) (h2 : keyE (sgD k b) = 0) :
    (parse (j + 1) k b).1 = (parse j (keyT (sgD k b)) (keyD (sgD k b))).1 ∧ ((parse (j + 1) k b).1 = 0 → (parse (j + 1) k b).2 = ⟨k, sgT k b, keyT (sgD k b)⟩ :: (parse j (keyT (sgD k b)) (keyD (sgD k b))).2) := by
  rw [parse, if_neg (by omega), if_neg (fun h => h h2)]
  by_cases h3 : (parse j (keyT (sgD k b)) (keyD (sgD k b))).1 = 0
  · rw [if_neg (fun h => h h3)]; exact ⟨h3.symm, fun _ => rfl⟩
  · rw [if_pos h3]; exact ⟨rfl, fun h => absurd h h3⟩
theorem pairE_len {k : List UInt8} (h : pairE k = 0) : k.length ≤ 56 := by
 obtain ⟨h8, hok, hlen⟩ := pairE_zero h
 obtain ⟨n, w, p, H, hx⟩ := okP_facts hok
 obtain ⟨z1, _, _, _, _⟩ := hx.sizes
 have := hx.o.n32
 omega
theorem readP_eq {pub sig : List UInt8} (h1 : 4 ≤ pub.length) (h2 : keyE (pub.drop 4) = 0) (h3 : (pub.drop 4).length = pubN (pairC (pub.drop 4))) (h4 : 1 ≤ getB (pub.take 4) ∧ getB (pub.take 4) ≤ 8) (h5 : 4 ≤ sig.length) (h6 : getB (sig.take 4) = getB (pub.take 4) - 1) :
  readP pub sig = parse (getB (pub.take 4) - 1) (pub.drop 4) (sig.drop 4) := by
 rw [readP, if_neg (by omega), if_neg (fun h => h h2), if_neg (fun h => h h3), if_neg (by omega), if_neg (by omega), if_neg (fun h => h h6)]
section
variable {G : World} {M : Mem} {L : Own} {PA TA A : Option Addr} {pl pc tl tc m c : Nat} {pub text sig : List UInt8}
abbrev bx (b : Nat) (A : Option Addr) (m c : Nat) : Nat × Obj := (b, .cells (List.toArray [.slice A m c]) 35 (0, 0))
theorem parts_spec (hg : LmG M) (hpub : Bytes M PA pl pc pub) (hsig : Bytes M A m c sig) (hpb : pl ≤ 1000000000000) (hmb : m ≤ 1000000000000) :
    Con Tryz.prog 105 #[.slice PA pl pc, .slice A m c] G M L (fun v M' L' => L' = L ∧ ∃ A' n' c' vs, v = .slice A' n' c' ∧ (readP pub sig).1 = 0 ∧ n' = (readP pub sig).2.length ∧ Row M' 3 A' n' c' vs ∧ PtRows M' vs (readP pub sig).2) (fun ch M' L' => L' = L ∧ ∃ e, ((readP pub sig).1 ≠ 0 ∧ e = (readP pub sig).1) ∧ ch = hwrong e) := by
  have hps := hpub.size
  have hms := hsig.size
  have hpc := hpub.le
  have hmc := hsig.le
  refine enter (args := [_, _]) (fn := Tryz.f105) ⟨Tryz.func105, rfl, by kernel_rfl, by kernel_rfl⟩ 56 rfl <| zr <| tl_e rfl <| e_box rfl <| fun b1 => tl_e rfl <| e_box rfl <| fun b2 => as0 rfl rfl <| zq <| zr <| .bring b1 inferInstance <| tl_e rfl (e_call rfl (hcount_spec hpub) (by
    rintro _ M1 _ hM1 ⟨rfl, hlt, rfl⟩
    have e : (readP pub sig).1 = 2 := by rw [readP, if_pos (by omega)]
    exact TP.dropTo L inferInstance (.retA rfl hM1 ⟨rfl, _, ⟨by rw [e]; decide, rfl⟩, by rw [e]⟩)) ?_)
  rintro _ M1 _ hM1 ⟨rfl, h4, rfl⟩
  have hd := hM1
  have hp4 : Bytes M1 (sl PA 4 pc 1) (pl - 4) (pc - 4) (pub.drop 4) := Bytes.drop (hpub.mono hd) 4 h4
  have hgl := getB_lt (pub.take 4)
  rw [List.length_take, Nat.min_eq_left (by omega)] at hgl
  obtain ⟨lv, hlv⟩ : ∃ lv, lv = getB (pub.take 4) := ⟨_, rfl⟩
  rw [← hlv] at hgl ⊢
  obtain ⟨p4, hp4e⟩ : ∃ p4, p4 = pub.drop 4 := ⟨_, rfl⟩
  rw [← hp4e] at hp4
  have hp4l : p4.length = pl - 4 := by rw [hp4e, List.length_drop]; omega
  refine asI rfl rfl <| zq <| .s3 2 3 5 rfl rfl rfl <| zr <| tl_e rfl (e_call rfl (hkey_spec (hg.mono hd) hp4) (by
    rintro _ M2 _ hM2 ⟨rfl, hno, rfl⟩
    have e : (readP pub sig).1 = keyE p4 := by rw [readP, if_neg (by omega), ← hp4e, if_pos hno]
    exact TP.dropTo L inferInstance (.retA rfl (hd.trans hM2) ⟨rfl, _, ⟨by rw [e]; exact hno, rfl⟩, by rw [e]⟩)) ?_)
  rintro _ M2 _ hM2 ⟨hk0, A3, m3, c3, A2, n2, c2, rfl, rfl, hkT, hkD⟩
  replace hd := hd.trans hM2
  obtain ⟨kt1, kt2, kt3, kt4, kt5⟩ := keyT_pair hk0
  have hm3 := hkD.size
  rw [keyD, List.length_drop] at hm3
  refine asS rfl rfl <| zq <| zr <| tl_y rfl (y_ld rfl rfl) <| tl_y rfl (y_len rfl) <| tl_y rfl (y_eql rfl rfl) <| tl_e rfl (e_call rfl (hmust_spec _ _) (by
    rintro _ _ _ _ ⟨rfl, rfl, ht, rfl⟩
    have e : (readP pub sig).1 = 5 := by rw [readP, if_neg (by omega), ← hp4e, if_neg (fun h => h hk0), if_pos (by simp at ht; omega)]
    exact TP.dropTo L inferInstance (.retA rfl hd ⟨rfl, _, ⟨by rw [e]; decide, rfl⟩, by rw [e]⟩)) ?_)
  rintro _ _ _ _ ⟨rfl, rfl, ht⟩
  have hpl : p4.length = pubN (pairC p4) := by
    have := (keyE_zero hk0).2.2
    simp at ht; omega
  have hkp : keyT p4 = p4 := by rw [keyT]; exact List.take_of_length_le (by omega)
  rw [hkp] at kt1 kt2 kt3 hkT
  refine zq <| .s3 3 5 6 rfl rfl rfl <| x_join (I := fun F D M3 L3 => (1 ≤ lv ∧ lv ≤ 8) ∧ F = [(3, .pointer (some ⟨b2, 0, none⟩)), (5, .int .i64 ((lv : Nat) : Int)), (6, .slice A2 n2 c2)] ∧ D = [] ∧ M2 = M3 ∧ bx b1 A3 m3 c3 :: bx b2 A m c :: L = L3) ?_ (fun Jq4 => ?_)
  ·
    rintro _ _ _ _ ⟨h18, rfl, rfl, rfl, rfl⟩  -- slots [3, 5, 6]
    refine zr <| .bring b2 inferInstance <| tl_e rfl (e_call rfl (hcount_spec (hsig.mono hd)) (by
      rintro _ M4 _ hM4 ⟨rfl, hlt, rfl⟩
      have e : (readP pub sig).1 = 2 := by rw [readP, if_neg (by omega), ← hp4e, if_neg (fun h => h hk0), if_neg (fun h => h hpl), if_neg (by omega), if_pos (by omega)]
      exact TP.dropTo L inferInstance (.retA rfl (hd.trans hM4) ⟨rfl, _, ⟨by rw [e]; decide, rfl⟩, by rw [e]⟩)) ?_)
    rintro _ M4 _ hM4 ⟨rfl, hs4, rfl⟩
    replace hd := hd.trans hM4
    replace hkT := hkT.mono hM4
    have hs4b : Bytes M4 (sl A 4 c 1) (m - 4) (c - 4) (sig.drop 4) := Bytes.drop (hsig.mono hd) 4 hs4
    have hgl2 := getB_lt (sig.take 4)
    rw [List.length_take, Nat.min_eq_left (by omega)] at hgl2
    refine mvI rfl rfl <| tl_y rfl (y_subI rfl rfl (by omega)) <| tl_y rfl (y_eql rfl rfl) <| tl_e rfl (e_call rfl (hmust_spec _ _) (by
      rintro _ _ _ _ ⟨rfl, rfl, ht2, rfl⟩
      have e : (readP pub sig).1 = 3 := by rw [readP, if_neg (by omega), ← hp4e, if_neg (fun h => h hk0), if_neg (fun h => h hpl), if_neg (by omega), if_neg (by omega), if_pos (by simp at ht2; omega)]
      exact TP.dropTo L inferInstance (.retA rfl hd ⟨rfl, _, ⟨by rw [e]; decide, rfl⟩, by rw [e]⟩)) ?_)
    rintro _ _ _ _ ⟨rfl, rfl, ht2⟩
    have hR : readP pub sig = parse (lv - 1) p4 (sig.drop 4) := by
      rw [readP_eq (by omega) (by rw [← hp4e]; exact hk0) (by rw [← hp4e]; exact hpl) (by omega) (by omega) (by simp at ht2; omega), ← hlv, ← hp4e]
    refine zq <| .s3 3 5 6 rfl rfl rfl <| zr <| as0 rfl rfl <| zq <| zr2 <| mvI rfl rfl <| tl_y rfl (y_subI rfl rfl (by omega)) ?_
    rw [show ((lv : Nat) : Int) - 1 = ((lv - 1 : Nat) : Int) by omega]
    refine mv0 rfl rfl <| zq <| x_block ?_
    refine x_loop (I := fun m' F D M5 L5 => ∃ (i : Nat) (KA : Option Addr) (kl kc : Nat) (k : List UInt8) (BA : Option Addr) (bl bc : Nat) (b : List UInt8) (AO : Option Addr) (cO : Nat) (E : Own) (vs : List Value) (done : List PartB), m' = lv - 1 - i ∧ i ≤ lv - 1 ∧ Le M4 M5 ∧ Bytes M5 KA kl kc k ∧ Bytes M5 BA bl bc b ∧ bl ≤ 1000000000000 ∧ pairE k = 0 ∧ OwnRow 135 3 AO i cO vs E ∧ PtRows M5 vs done ∧ done.length = i ∧ (readP pub sig).1 = (parse (lv - 1 - i) k b).1 ∧ ((readP pub sig).1 = 0 → (readP pub sig).2 = done ++ (parse (lv - 1 - i) k b).2) ∧ D = [] ∧ L5 = E ++ (bx b2 BA bl bc :: bx b1 A3 m3 c3 :: L) ∧ F = [(3, .pointer (some ⟨b2, 0, none⟩)), (6, .slice KA kl kc), (7, .slice AO i cO), (28, .int .i64 ((lv - 1 : Nat) : Int)), (29, .int .i64 i)]) (lv - 1) (F0 := [(3, _), (6, _), (7, _), (28, _), (29, _)]) ?_ (.cons rfl (.cons rfl (.cons rfl (.cons rfl (.cons rfl .nil))))) ?_  -- slots [3, 6, 7, 28, 29], written [6, 7, 29]
    · exact ⟨0, A2, n2, c2, p4, _, _, _, sig.drop 4, none, 0, [], [], [], rfl, by omega, Le.refl _, hkT, hs4b, by omega, kt1, .nil, .nil, rfl, by rw [hR, Nat.sub_zero], fun _ => by rw [hR, Nat.sub_zero, List.nil_append], rfl, rfl, rfl⟩
    rintro m _ _ M5 _ ⟨i, KA, kl, kc, k, BA, bl, bc, b, AO, cO, E, vs, done, rfl, hi, hM5, hkk, hbb, hbl, hpk, hE, hPt, hdl, hr1, hr2, rfl, rfl, rfl⟩
    have hkl := hkk.size
    have hkl2 := pairE_len hpk
    have hbs := hbb.size
    have hd5 := hd.trans hM5
    refine zr <| tl_y rfl (y_lss rfl rfl) <| zq <| x_seq <| x_cond rfl (fun hc1 => ?_) (fun hc1 => ?_)
    ·
      obtain ⟨j, hj⟩ : ∃ j, lv - 1 - i = j + 1 := ⟨lv - 1 - i - 1, by omega⟩
      rw [hj] at hr1 hr2
      refine .bring b2 inferInstance <| x_skip <| .then_normal <| x_seq <| x_block <| zr <| mvS rfl rfl <| mvS rfl rfl <| tl_e rfl (e_call rfl (hsigned_spec (hg.mono hd5) hbb hbl hkk (by omega) hpk) (by
        rintro _ M6 _ hM6 ⟨rfl, hlt, rfl⟩
        have e : (readP pub sig).1 = 2 := by rw [hr1, parse, if_pos (by omega)]
        exact TP.dropTo L inferInstance (.retA rfl (hd5.trans hM6) ⟨rfl, _, ⟨by rw [e]; decide, rfl⟩, by rw [e]⟩)) ?_)
      rintro _ M6 _ hM6 ⟨hsn, A6, m6, c6, A7, n7, c7, rfl, rfl, hsT, hsD⟩
      have hd6 := hd5.trans hM6
      have hm6 := hsD.size
      rw [sgD, List.length_drop] at hm6
      refine tl_y rfl (y_build rfl) <| tl_e rfl <| e_alloc <| fun b3 => tl_e rfl <| e_st rfl rfl (by rfl) (by rfl) <| zq <| .s6 3 6 7 8 28 29 rfl rfl rfl rfl rfl rfl <| zr <| .bring b2 inferInstance <| tl_e rfl (e_call rfl (hkey_spec (hg.mono hd6) hsD) (by
        rintro _ M7 _ hM7 ⟨rfl, hno, rfl⟩
        have e : (readP pub sig).1 = keyE (sgD k b) := by rw [hr1, parse, if_neg (by omega), if_pos hno]
        exact TP.dropTo L inferInstance (.retA rfl (hd6.trans hM7) ⟨rfl, _, ⟨by rw [e]; exact hno, rfl⟩, by rw [e]⟩)) ?_)
      rintro _ M7 _ hM7 ⟨hke, A8, m8, c8, A9, n9, c9, rfl, rfl, hkT2, hkD2⟩
      have hd7 := hd6.trans hM7
      obtain ⟨u1, u2, u3, u4, u5⟩ := keyT_pair hke
      obtain ⟨ps1, ps2⟩ := parse_succ (j := j) (k := k) (b := b) (by omega) hke
      have hm8 := hkD2.size
      rw [keyD, List.length_drop, sgD, List.length_drop] at hm8
      have hn9 := hkT2.size
      refine tl_y rfl (y_fieldAddr rfl) <| tl_e rfl <| e_st rfl rfl (by rfl) (by rfl) <| zq ?_
      have he : Le M7 M7 := Le.refl _
      refine x_draw0 8 ([(b3, .cells (List.toArray [.slice KA kl kc, .slice A7 n7 c7, .slice A9 n9 c9]) 135 (0, 0))]) Keeps.mem hmix rfl <| zp 0 rfl rfl (y_move (v := .slice _ _ _) rfl) <| zy 1 rfl rfl (y_lg rfl rfl) <| zp 4 rfl rfl (y_fieldAddr rfl) <| zy 5 rfl rfl (y_ld rfl rfl) <| ze 2 rfl rfl <| e_buildSlice rfl (by decide) <| fun b4 => ⟨⟨he, Keeps.mem⟩, ?_⟩
      refine .pub b4 inferInstance <| fun M8 hM8 hb8 => ?_
      replace he := he.trans hM8
      refine .bringE E inferInstance <| ze 3 rfl rfl <| e_append (by decide) rfl rfl hE (.row (Row.whole (s := 3) (vs := [Value.slice KA kl kc, .slice A7 n7 c7, .slice A9 n9 c9]) hb8 rfl (by omega))) rfl (by omega) (by omega) <| fun AX cX EX hEX => ⟨⟨he, Keeps.mem⟩, ?_⟩
      refine zp 6 rfl rfl (y_assign (v := .slice _ _ _) rfl) <| zp 7 rfl rfl (y_assign (v := .slice _ _ _) rfl) <| zz <| .block_normal <| .then_normal <| .s5 3 6 7 28 29 rfl rfl rfl rfl rfl <| x_region <| tl_y rfl (y_addI rfl rfl (by omega)) <| mvI rfl rfl <| .dropTo (EX ++ (bx b2 A8 m8 c8 :: bx b1 A3 m3 c3 :: L)) inferInstance <| tl_nil <| .loop_next (m' := lv - 1 - (i + 1)) (by omega) (F' := [(3, _), (6, _), (7, _), (28, _), (29, _)]) (.cons rfl (.cons rfl (.cons rfl (.cons rfl (.cons rfl .nil))))) ?_
      exact ⟨i + 1, A9, n9, c9, keyT (sgD k b), A8, m8, c8, keyD (sgD k b), AX, cX, EX, _, done ++ [⟨k, sgT k b, keyT (sgD k b)⟩], rfl, by omega, hM5.trans (hM6.trans (hM7.trans he)), hkT2.mono he, hkD2.mono he, by omega, u1, hEX,
        (hPt.mono (hM6.trans (hM7.trans he))).snoc (x := ⟨k, sgT k b, keyT (sgD k b)⟩) (hkk.mono (hM6.trans (hM7.trans he))) (hsT.mono (hM7.trans he)) (hkT2.mono he) (fun h => by have h2 := congrArg List.length h; simp only [u3, List.length_nil] at h2; omega),
        by rw [List.length_append, hdl]; rfl, by rw [hr1, ps1]; congr 2; omega, fun h0 => by
          rw [hr2 h0, ps2 (by rw [← hr1]; exact h0), show lv - 1 - (i + 1) = j by omega, List.append_assoc]; rfl, rfl, rfl, rfl⟩
    ·
      obtain rfl : i = lv - 1 := by omega
      rw [Nat.sub_self] at hr1 hr2
      refine .bring b2 inferInstance <| x_exit <| .then_exit <| .loop_exit <| .block_exit <| .then_normal <| zr <| mvS rfl rfl <| mvS rfl rfl <| mvS rfl rfl <| tl_e rfl (e_call rfl (hsigned_spec (hg.mono hd5) hbb hbl hkk (by omega) hpk) (by
        rintro _ M6 _ hM6 ⟨rfl, hlt, rfl⟩
        have e : (readP pub sig).1 = 2 := by rw [hr1, parse, if_pos (by omega)]
        exact TP.dropTo L inferInstance (.retA rfl (hd5.trans hM6) ⟨rfl, _, ⟨by rw [e]; decide, rfl⟩, by rw [e]⟩)) ?_)
      rintro _ M6 _ hM6 ⟨hsn, A6, m6, c6, A7, n7, c7, rfl, rfl, hsT, hsD⟩
      have hd6 := hd5.trans hM6
      have hm6 := hsD.size
      rw [sgD, List.length_drop] at hm6
      refine tl_y rfl (y_build rfl) <| tl_e rfl <| e_buildSlice rfl (by decide) <| fun b4 => .pub b4 inferInstance <| fun M8 hM8 hb8 => ?_
      have hd8 := hd6.trans hM8
      refine .bringE E inferInstance <| tl_e rfl <| e_append (by decide) rfl rfl hE (.row (Row.whole (s := 3) (vs := [Value.slice KA kl kc, .slice A7 n7 c7, .slice none 0 0]) hb8 rfl (by omega))) rfl (by omega) (by omega) <| fun AX cX EX hEX => asS rfl rfl <| zq <| .s2 3 7 rfl rfl <| zr <| tl_y rfl (y_ld rfl rfl) <| tl_y rfl (y_len rfl) <| tl_y rfl (y_eql rfl rfl) <| tl_e rfl (e_call rfl (hmust_spec _ _) (by
        rintro _ _ _ _ ⟨rfl, rfl, ht3, rfl⟩
        have e : (readP pub sig).1 = 5 := by rw [hr1, parse, if_neg (by omega), if_pos (by simp at ht3; omega)]
        exact TP.dropTo L inferInstance (.retA rfl hd8 ⟨rfl, _, ⟨by rw [e]; decide, rfl⟩, by rw [e]⟩)) ?_)
      rintro _ _ _ _ ⟨rfl, rfl, ht3⟩
      have hp0 : parse 0 k b = (0, [⟨k, sgT k b, []⟩]) := by rw [parse, if_neg (by omega), if_neg (by simp at ht3; omega)]
      rw [hp0] at hr1 hr2
      have hr2' := hr2 hr1
      refine .bringE EX inferInstance <| .pubRow hEX <| fun M9 hM9 hrow => zq <| .s1 7 rfl <| zr <| mvS rfl rfl <| asS rfl rfl <| zq <| x_ret (.dropTo L inferInstance (ret1 rfl rfl (hd8.trans hM9) ⟨rfl, _, _, _, _, rfl, hr1, by rw [hr2', List.length_append, hdl]; rfl, hrow, by
        rw [hr2']
        exact ((hPt.mono (hM6.trans (hM8.trans hM9))).snoc (x := ⟨k, sgT k b, []⟩) (hkk.mono (hM6.trans (hM8.trans hM9))) (hsT.mono (hM8.trans hM9)) (Row.nil _ _) (fun _ => rfl))⟩))
  ·
    refine x_region <| mvI rfl rfl <| tl_y rfl (y_geq rfl rfl) <| mvB rfl rfl <| tl_cases (s := 17) rfl (fun hk1 => ?_) (fun hk1 => ?_)
    ·
      refine mvI rfl rfl <| tl_y rfl (y_leq rfl rfl) <| tl_y rfl (y_pickT rfl rfl) <| tl_e rfl (e_call rfl (hmust_spec _ _) (by
        rintro _ _ _ _ ⟨rfl, rfl, ht2, rfl⟩
        have e : (readP pub sig).1 = 3 := by rw [readP, if_neg (by omega), ← hp4e, if_neg (fun h => h hk0), if_neg (fun h => h hpl), if_pos (by first | (cases ht2; done) | (simp at ht2; omega) | omega)]
        exact TP.dropTo L inferInstance (.retA rfl hd ⟨rfl, _, ⟨by rw [e]; decide, rfl⟩, by rw [e]⟩)) ?_)
      rintro _ _ _ _ ⟨rfl, rfl, ht2⟩
      refine zq <| .sub (F' := [(3, _), (5, _), (6, _)]) (.cons rfl (.cons rfl (.cons rfl .nil))) <| Jq4 _ _ _ _ ?_
      exact ⟨by first | (cases ht2; done) | (simp at ht2; omega) | omega, rfl, rfl, rfl, rfl⟩
    ·
      refine tl_skip rfl <| tl_skip rfl <| tl_y rfl (y_pickF rfl rfl) <| tl_e rfl (e_call rfl (hmust_spec _ _) (by
        rintro _ _ _ _ ⟨rfl, rfl, ht2, rfl⟩
        have e : (readP pub sig).1 = 3 := by rw [readP, if_neg (by omega), ← hp4e, if_neg (fun h => h hk0), if_neg (fun h => h hpl), if_pos (by first | (cases ht2; done) | (simp at ht2; omega) | omega)]
        exact TP.dropTo L inferInstance (.retA rfl hd ⟨rfl, _, ⟨by rw [e]; decide, rfl⟩, by rw [e]⟩)) ?_)
      rintro _ _ _ _ ⟨rfl, rfl, ht2⟩
      refine zq <| .sub (F' := [(3, _), (5, _), (6, _)]) (.cons rfl (.cons rfl (.cons rfl .nil))) <| Jq4 _ _ _ _ ?_
      exact ⟨by first | (cases ht2; done) | (simp at ht2; omega) | omega, rfl, rfl, rfl, rfl⟩
end
end Go.Proofs.YtiimjodbaogjbaaGreatDoor
