/-
Contracts of functions, each proved by a walk through its code.
-/
import Derived.Test.YtplkoemjffplcaaGreatDoorSlotsLawEtc
import Derived.Test.YtplkoemjffplcaaGreatDoorEngNEtc
import Derived.Test.YtplkoemjffplcaaGreatDoorOnce3Etc
import Derived.Test.YtplkoemjffplcaaGreatDoorHss15Etc
import Derived.Test.YtplkoemjffplcaaGreatDoorLms4Etc
import Derived.Test.YtplkoemjffplcaaGreatDoorRef13Etc
import Derived.Test.YtplkoemjffplcaaGreatDoorHss2Etc
import Derived.Test.YtplkoemjffplcaaGreatDoorRef1cEtc
import Derived.Test.YtplkoemjffplcaaGreatDoorSetsEtc
import Derived.Test.YtplkoemjffplcaaGreatDoorMerkle3Etc
import Derived.Test.YtplkoemjffplcaaGreatDoorEngWEtc
import Derived.Test.YtplkoemjffplcaaGreatDoorOctCutEtc
set_option linter.all false
namespace Go.Proofs.YtplkoemjffplcaaGreatDoor
open Go Go.Eng
structure KeyS where
 h : KeyH
 x : Cn
 s : SS
def KeyS.head (k : KeyS) : List UInt8 := headB k.h.name k.h.l k.h.sn k.h.ss
def toH (bs : List UInt8) : KeyH := ⟨nameH bs, lH bs, snH bs, ssH bs⟩
def sA (i : Nat) : SS := s0 (8 * i) 4
def loadK (S : DS) (i : Nat) : Int × Option KeyS :=
 if (openC S (sA i)).2 = 11 then (0, none) else if (openC S (sA i)).2 = 6 then (6, none) else if (openC S (sA i)).2 ≠ 0 then (8, none) else
 if goodH (openC S (sA i)).1.2 ∧ (openC S (sA i)).1.1.total.toNat = totN (lH (openC S (sA i)).1.2) then (0, some ⟨toH (openC S (sA i)).1.2, (openC S (sA i)).1.1, (loadRes S (sA i)).1⟩) else (8, none)
def hasK (ks : List KeyS) (nm : List UInt8) : Bool := ks.any fun k => decide (k.h.name = nm)
def openGo (S : DS) : Nat → Int × List KeyS
 | 0 => (0, [])
 | i + 1 => if (openGo S i).1 ≠ 0 then openGo S i else if (loadK S i).1 ≠ 0 then ((loadK S i).1, []) else
  match (loadK S i).2 with
  | none => openGo S i
  | some k => if hasK (openGo S i).2 k.h.name then (8, []) else (0, (openGo S i).2 ++ [k])
def areasN (S : DS) : Nat := min (S.sure.length / 8) 8
def openS (S : DS) : Int × List KeyS := if areasN S = 0 then (1, []) else openGo S (areasN S)
def freeGo (S : DS) (nm : List UInt8) : Nat → Int × Int
 | 0 => (0, -1)
 | i + 1 => if (freeGo S nm i).1 ≠ 0 then freeGo S nm i else if (loadK S i).1 ≠ 0 then ((loadK S i).1, -1) else
  match (loadK S i).2 with
  | none => if (freeGo S nm i).2 < 0 then (0, (i : Int)) else freeGo S nm i
  | some k => if k.h.name = nm then (10, -1) else freeGo S nm i
def freeS (S : DS) (nm : List UInt8) (n : Nat) : Int × Int := if (freeGo S nm n).1 ≠ 0 then freeGo S nm n else if (freeGo S nm n).2 < 0 then (12, -1) else freeGo S nm n
theorem openGo_stuck {S : DS} {i : Nat} (h : (openGo S i).1 ≠ 0) : ∀ n, i ≤ n → openGo S n = openGo S i
  | 0, hn => by obtain rfl : i = 0 := by omega
                rfl
  | n + 1, hn => by
    by_cases e : i = n + 1
    ·
      rw [e]
    have ih := openGo_stuck h n (by omega)
    rw [openGo, if_pos (by rw [ih]; exact h), ih]
theorem freeGo_stuck {S : DS} {nm : List UInt8} {i : Nat} (h : (freeGo S nm i).1 ≠ 0) : ∀ n, i ≤ n → freeGo S nm n = freeGo S nm i
  | 0, hn => by obtain rfl : i = 0 := by omega
                rfl
  | n + 1, hn => by
    by_cases e : i = n + 1
    ·
      rw [e]
    have ih := freeGo_stuck h n (by omega)
    rw [freeGo, if_pos (by rw [ih]; exact h), ih]
theorem freeGo_at {S : DS} {nm : List UInt8} : ∀ n, -1 ≤ (freeGo S nm n).2 ∧ (freeGo S nm n).2 < (n : Int) ∨ n = 0 ∧ (freeGo S nm n).2 = -1
 | 0 => .inr ⟨rfl, rfl⟩
 | n + 1 => by
  left
  have ih : -1 ≤ (freeGo S nm n).2 ∧ (freeGo S nm n).2 < ((n + 1 : Nat) : Int) := by rcases freeGo_at (S := S) (nm := nm) n with h | ⟨rfl, h⟩ <;> omega
  rw [freeGo]
  split
  ·
   exact ih
  split
  ·
   exact ⟨Int.le_refl _, by omega⟩
  split
  ·
   split
   ·
    exact ⟨by show (-1 : Int) ≤ (n : Int); omega, by show (n : Int) < _; omega⟩
   exact ih
  split
  ·
   exact ⟨Int.le_refl _, by show (-1 : Int) < _; omega⟩
  exact ih
theorem rv4 {P : Program} {F : Fr} {M : Mem} {L : Own} {fn : Func} {r r' r'' r3 : ResultVar} {v v' v'' v3 : Value} (hr : fn.results = #[r, r', r'', r3]) (h : RC P F M L r v) (h' : RC P F M L r' v') (h'' : RC P F M L r'' v'') (h3 : RC P F M L r3 v3) : RV P fn F M L (.tuple #[v, v', v'', v3]) := fun w tmps hs ht => by
 have h1 := h w tmps hs ht
 have h2 := h' w tmps hs ht
 have h3' := h'' w tmps hs ht
 have h4 := h3 w tmps hs ht
 simp only [results, hr, List.mapM_toArray, List.mapM_cons, List.mapM_nil, Sem.run_bind, Sem.run_map]
 cases r <;> cases r' <;> cases r'' <;> cases r3 <;> simp_all [Sem.run_bind]
abbrev stL (sp d n mp : Nat) : Nat × Obj := (sp, .cells #[.pointer (some ⟨d, 0, none⟩), .int .i64 (n : Int), .map (some mp)] 79 (0, 0))
abbrev kyL (kp : Nat) (x y z : SlV) (c : Nat) : Nat × Obj := (kp, .cells #[x.v, y.v, z.v, .pointer (some ⟨c, 0, none⟩)] 100 (0, 0))
def ParsedAt (M : Mem) (bs nm : List UInt8) (x y z : SlV) (e : Int) : Prop := (goodH bs ∧ e = 0 ∧ nm = nameH bs ∧ Row M 2 x.a x.n x.c (prow (lH bs)) ∧ Bytes M y.a y.n y.c (snH bs) ∧ Bytes M z.a z.n z.c (ssH bs)) ∨ (¬ goodH bs ∧ e = 3 ∧ nm = [] ∧ x = nilS ∧ y = nilS ∧ z = nilS)
structure KBl (M : Mem) (d : Nat) (k : KeyS) (kp : Nat) (L : Own) : Prop where
 ex : ∃ (c p : Nat) (x y z : SlV) (HA A0 : Option Addr) (hl hc l0 c0 : Nat), L = [kyL kp x y z c, cL c k.x HA hl hc p, sL p d k.s A0 l0 c0] ∧ Row M 2 x.a x.n x.c (prow k.h.l) ∧ Bytes M y.a y.n y.c k.h.sn ∧ Bytes M z.a z.n z.c k.h.ss ∧ Bytes M HA hl hc k.head ∧ Bytes M A0 l0 c0 k.s.b
section
variable {G : World} {M : Mem} {L R : Own}
theorem sParse1_spec (hg : LmG M) {A : Option Addr} {n c b : Nat} {bs : List UInt8} (h : Bytes M A n c bs) (hn : n ≤ 1099511627776) {p q : Nat × Obj} :
  Con Tryz.prog 63 #[.pointer (some ⟨b, 0, none⟩)] G M (p :: q :: bsL b A n c :: L) (fun v M' L' => ∃ L1, L' = p :: q :: L1 ∧ ∃ nm x y z, v = .agg (List.toArray (parsC nm x y z)) ∧ (L1 = bsL b A n c :: L ∧ ParsedAt M' bs nm x y z 0)) (fun ch M' L' => ∃ L1, L' = p :: q :: L1 ∧ ∃ e, (L1 = bsL b A n c :: L ∧ ¬ goodH bs ∧ e = 3) ∧ ch = swrong e) := by
 refine zfn Tryz.func63 rfl 4 rfl <| zr <| tl_e rfl <| e_alloc <| fun b1 => zq <| zr <| tLd rfl rfl <| tl_e rfl (e_call rfl (sparse_spec hg h hn) (by
  rintro _ M1 _ hM1 ⟨rfl, hno, rfl⟩
  exact TP.dropTo (p :: q :: bsL b A n c :: L) iI (.retA rfl hM1 ⟨_, rfl, 3, ⟨rfl, hno, rfl⟩, rfl⟩)) ?_)
 rintro _ M1 _ hM1 ⟨rfl, hgood, x, y, z, rfl, h1, h2, h3⟩
 refine tl_e rfl <| e_sT rfl rfl <| zq <| x_ret (retRV (L' := p :: q :: bsL b A n c :: L) (rv1 rfl (rc_cellAgg (by rfl) rfl (.own iI iI))) iI hM1 ⟨_, rfl, _, x, y, z, rfl, rfl, .inl ⟨hgood, rfl, rfl, h1, h2, h3⟩⟩)
theorem sParse_spec (hg : LmG M) {A : Option Addr} {n c : Nat} {bs : List UInt8} (h : Bytes M A n c bs) (hn : n ≤ 1099511627776) :
  Con Tryz.prog 22 #[.slice A n c] G M L (fun v M' L' => L' = L ∧ ∃ nm x y z e, v = .tuple #[.string (sB nm), x.v, .agg #[y.v, z.v], .int .i64 e] ∧ ParsedAt M' bs nm x y z e) noPanic := by
 refine zfn Tryz.func22 rfl 20 rfl <| zr <| tl_e rfl <| e_box rfl <| fun b1 => as0 rfl <| as0 rfl <| tl_e rfl <| e_alloc <| fun b2 => as0 rfl <| zq <| .s2 1 4 rfl rfl <| zr <| tl_y rfl (y_makeFunc rfl rfl) <| zca rfl (caughtSQ_spec (K := fun nm x y z M' L' => L' = bsL b1 A n c :: (b2, .cells #[.slice none 0 0, .slice none 0 0] 33 (0, 0)) :: L ∧ ParsedAt M' bs nm x y z 0) (Kp := fun e M' L' => L' = bsL b1 A n c :: (b2, .cells #[.slice none 0 0, .slice none 0 0] 33 (0, 0)) :: L ∧ ¬ goodH bs ∧ e = 3) (first := []) (cap := [.pointer (some ⟨b1, 0, none⟩)]) (fun p' q' => Con.to (p' :: q' :: bsL b1 A n c :: (b2, .cells #[.slice none 0 0, .slice none 0 0] 33 (0, 0)) :: L) iI (sParse1_spec hg h hn))) ?_
 rintro v M1 L1 hM1 hv
 obtain ⟨nm, x, y, z, e, rfl, rfl, hp⟩ : ∃ nm x y z e, v = .tuple #[.agg (List.toArray (parsC nm x y z)), .int .i64 e] ∧ L1 = bsL b1 A n c :: (b2, .cells #[.slice none 0 0, .slice none 0 0] 33 (0, 0)) :: L ∧ ParsedAt M1 bs nm x y z e := by
  rcases hv with ⟨nm, x, y, z, rfl, rfl, hp⟩ | ⟨e, rfl, rfl, hno, rfl⟩
  ·
   exact ⟨nm, x, y, z, 0, rfl, rfl, hp⟩
  exact ⟨[], nilS, nilS, nilS, 3, rfl, rfl, .inr ⟨hno, rfl, rfl, rfl, rfl, rfl⟩⟩
 refine mvU rfl <| zx rfl <| zx rfl <| tl_e rfl <| e_alloc <| fun b3 => tl_e rfl <| e_sT rfl rfl <| asI rfl <| zq <| .s3 4 6 7 rfl rfl rfl <| x_seq <| x_draw 9 hmix rfl ?_
 refine pFa 0 rfl rfl <| pLd 1 rfl rfl rfl <| pFa 2 rfl rfl <| pLd 3 rfl rfl rfl <| pFa 4 rfl rfl <| zy 5 rfl rfl (y_lg rfl rfl) <| pmI 6 rfl rfl <| paT 7 rfl rfl <| paS 8 rfl rfl <| zt 9 rfl rfl <| e_sT rfl rfl ?_
 refine paI 10 rfl rfl <| zz <| .then_normal <| .s4 2 3 4 5 rfl rfl rfl rfl <| x_ret (retRV (L' := L) (rv4 rfl (rc_tmp rfl) (rc_tmp rfl) (rc_cellAgg (by rfl) rfl (.own iI iI)) (rc_tmp rfl)) iI hM1 ⟨rfl, nm, x, y, z, e, rfl, hp⟩)
end
section
variable {G : World} {M : Mem} {L : Own} {NA SA : Option Addr} {nl nc sl sc : Nat} {name sec : List UInt8}
theorem RoMay_spec (o : OtsV) :
  Con Tryz.prog 113 #[.agg (List.toArray o.cells), .agg (List.toArray (seedC NA nl nc SA sl sc))] G M L (fun v M' L' => M = M' ∧ L = L' ∧ v = .bool (decide (okY o nl sl))) noPanic := by
 refine zfn Tryz.func113 rfl 34 rfl <| zr <| tl_e rfl <| e_box rfl <| fun b1 => tl_e rfl <| e_box rfl <| fun b2 => as0 rfl <| zq <| zr <| tFa rfl <| tLd rfl rfl <| zca rfl (ROts_spec o.code) ?_
 rintro _ _ _ _ ⟨rfl, rfl, rfl⟩
 refine mvU rfl <| zx rfl <| zx rfl <| tl_e rfl <| e_alloc <| fun b3 => tl_e rfl <| e_sT rfl rfl <| asI rfl <| zq <| .s4 2 3 5 6 rfl rfl rfl rfl <| x_join (I := fun F D M2 L2 => ∃ b : Bool, (b = true ↔ okY o nl sl) ∧ D = [] ∧ M = M2 ∧ DropTo L2 L ∧ F = [(4, .bool b)]) ?_ (fun Jq2 => ?_)
 ·
  rintro _ _ _ L2 ⟨b, hb, rfl, rfl, hdr, rfl⟩
  refine x_ret (.dropTo L hdr (ret1 rfl rfl lR ⟨rfl, rfl, by rw [bool_iff hb]⟩))
 refine x_region <| mvI rfl <| tl_y rfl (y_eql rfl rfl) <| mvB rfl <| tl_cases (s := 15) rfl (fun hk1 => ?_) (fun hk1 => ?_)
 ·
  refine tLg rfl rfl <| tLg rfl rfl <| tl_y rfl (y_eqlS rfl rfl eqs103) <| tPt rfl rfl <| mvB rfl <| tl_cases (s := 20) rfl (fun hk2 => ?_) (fun hk2 => ?_)
  ·
   refine tFa rfl <| tLd rfl rfl <| tLen rfl <| tl_y rfl (y_eql rfl rfl) <| tPt rfl rfl <| mvB rfl <| tl_cases (s := 26) rfl (fun hk3 => ?_) (fun hk3 => ?_)
   ·
    refine tFa rfl <| tLd rfl rfl <| tLen rfl <| tFa rfl <| tLd rfl rfl <| tl_y rfl (y_eql rfl rfl) <| tPt rfl rfl <| asB rfl <| zq <| .sub (F' := [(4, _)]) (.cons rfl .nil) <| Jq2 _ _ _ _ ?_
    exact ⟨_, by
     constructor
     ·
      intro ht
      first | (cases ht; done) | (simp at ht; exact ⟨⟨hk1, ots_eq hk2⟩, by omega, by omega⟩)
     rintro ⟨⟨a1, a2⟩, a3, a4⟩
     first | exact absurd a1 hk1 | exact absurd (eq_ots a2) hk2 | (simp; omega) | omega, rfl, rfl, iI, rfl⟩
   refine sk6 rfl rfl rfl rfl rfl rfl <| tPf rfl rfl <| asB rfl <| zq <| .sub (F' := [(4, _)]) (.cons rfl .nil) <| Jq2 _ _ _ _ ?_
   exact ⟨_, by
    constructor
    ·
     intro ht
     first | (cases ht; done) | (simp at ht; exact ⟨⟨hk1, ots_eq hk2⟩, by omega, by omega⟩)
    rintro ⟨⟨a1, a2⟩, a3, a4⟩
    first | exact absurd a1 hk1 | exact absurd (eq_ots a2) hk2 | (simp; omega) | omega, rfl, rfl, iI, rfl⟩
  refine sk4 rfl rfl rfl rfl <| tPf rfl rfl <| mvB rfl <| sk6 rfl rfl rfl rfl rfl rfl <| tPf rfl rfl <| asB rfl <| zq <| .sub (F' := [(4, _)]) (.cons rfl .nil) <| Jq2 _ _ _ _ ?_
  exact ⟨_, by
   constructor
   ·
    intro ht
    first | (cases ht; done) | (simp at ht; exact ⟨⟨hk1, ots_eq hk2⟩, by omega, by omega⟩)
   rintro ⟨⟨a1, a2⟩, a3, a4⟩
   first | exact absurd a1 hk1 | exact absurd (eq_ots a2) hk2 | (simp; omega) | omega, rfl, rfl, iI, rfl⟩
 refine sk3 rfl rfl rfl <| tPf rfl rfl <| mvB rfl <| sk4 rfl rfl rfl rfl <| tPf rfl rfl <| mvB rfl <| sk6 rfl rfl rfl rfl rfl rfl <| tPf rfl rfl <| asB rfl <| zq <| .sub (F' := [(4, _)]) (.cons rfl .nil) <| Jq2 _ _ _ _ ?_
 exact ⟨_, by
  constructor
  ·
   intro ht
   first | (cases ht; done) | (simp at ht; exact ⟨⟨hk1, ots_eq hk2⟩, by omega, by omega⟩)
  rintro ⟨⟨a1, a2⟩, a3, a4⟩
  first | exact absurd a1 hk1 | exact absurd (eq_ots a2) hk2 | (simp; omega) | omega, rfl, rfl, iI, rfl⟩
end
section
variable {G : World} {M : Mem} {L : Own} {NA SA : Option Addr} {nl nc sl_ sc : Nat} {sn ss nm : List UInt8}
theorem R22May_spec {A : Option Addr} {n c : Nat} {l : List PairV} (h : Row M 2 A n c (prow l)) :
  Con Tryz.prog 60 #[.string (sB nm), .slice A n c, .agg (List.toArray (seedC NA nl nc SA sl_ sc))] G M L (fun v M' L' => M = M' ∧ L = L' ∧ v = .bool (decide (mayK nm.length l nl sl_))) noPanic := by
 have hmx := h.max
 have hle := h.le
 have hln : l.length = n := by have := h.len; rw [prow, flat_len pcl] at this; omega
 have hsz := sB_size nm
 refine zfn Tryz.func60 rfl 48 rfl <| zr <| tl_e rfl <| e_box rfl <| fun b1 => as0 rfl <| zq <| zr2 <| mvT rfl <| tl_y rfl (y_lenStr rfl) <| tl_y rfl (y_lss rfl rfl) <| mvB rfl <| tl_cases (s := 14) rfl (fun hk1 => ?_) (fun hk1 => ?_)
 ·
  refine sk3 rfl rfl rfl <| tPt rfl rfl <| mvB rfl <| sk3 rfl rfl rfl <| tPt rfl rfl <| zq <| .s4 1 5 6 23 rfl rfl rfl rfl <| x_true rfl rfl <| zr <| as0 rfl <| zq <| x_ret (.then_ret (.dropTo L iI (ret1 rfl rfl lR ⟨rfl, rfl, by rw [decide_eq_false]; intro h; have := h.1; omega⟩)))
 refine mvT rfl <| tl_y rfl (y_lenStr rfl) <| tl_y rfl (y_gtr rfl rfl) <| tPf rfl rfl <| mvB rfl <| tl_cases (s := 19) rfl (fun hk2 => ?_) (fun hk2 => ?_)
 ·
  refine sk3 rfl rfl rfl <| tPt rfl rfl <| zq <| .s4 1 5 6 23 rfl rfl rfl rfl <| x_true rfl rfl <| zr <| as0 rfl <| zq <| x_ret (.then_ret (.dropTo L iI (ret1 rfl rfl lR ⟨rfl, rfl, by rw [decide_eq_false]; intro h; have := h.2.1; omega⟩)))
 refine mvS rfl <| zca rfl (RMay13_spec h) ?_
 rintro _ _ _ _ ⟨rfl, rfl, rfl⟩
 refine tl_y rfl (y_notd rfl) <| tPf rfl rfl <| zq <| .s4 1 5 6 23 rfl rfl rfl rfl <| x_cond rfl (fun hc1 => ?_) (fun hc1 => ?_)
 ·
  refine zr <| as0 rfl <| zq <| x_ret (.then_ret (.dropTo L iI (ret1 rfl rfl lR ⟨rfl, rfl, by rw [decide_eq_false]; intro h; exact hc1 (canE_zero h.2.2).1⟩)))
 have hok : okL l := Classical.not_not.1 hc1
 refine x_skip <| .then_normal <| zr2 <| as0 rfl <| zq <| x_block ?_
 refine x_loop (I := fun m' F D M2 L2 => ∃ (k : Nat), m' = n - k ∧ k ≤ n ∧ M = M2 ∧ (∀ p ∈ l.take k, (tv p).h ≤ 10 ∧ okY (otsV p.o) nl sl_) ∧ D = [] ∧ (b1, .cells (List.toArray (seedC NA nl nc SA sl_ sc)) 33 (0, 0)) :: L = L2 ∧ F = [(1, .slice A n c), (5, .pointer (some ⟨b1, 0, none⟩)), (6, .bool false), (7, .int .i64 k)]) (n) (F0 := [(1, _), (5, _), (6, _), (7, _)]) ?_ (cs4 rfl rfl rfl rfl) ?_
 ·
  exact ⟨0, rfl, by omega, rfl, fun p hp => by simp at hp, rfl, rfl, rfl⟩
 rintro m _ _ M2 _ ⟨k, rfl, hk, rfl, hgd, rfl, rfl, rfl⟩
 refine zr2 <| mvI rfl <| mvS rfl <| tLen rfl <| tl_y rfl (y_lss rfl rfl) <| zq <| x_cond rfl (fun hc2 => ?_) (fun hc2 => ?_)
 ·
  have hkn : k < n := by omega
  obtain ⟨p, hp⟩ : ∃ p, l[k]? = some p := ⟨_, List.getElem?_eq_getElem (by omega)⟩
  have hmem : p ∈ l := List.mem_of_getElem? hp
  have htk : l.take (k + 1) = l.take k ++ [p] := by
   rw [List.take_add_one, hp]; rfl
  obtain ⟨g, o, rfl, hcell⟩ := h.cellsN (by omega)
  have hc2 := fun L => hcell L (k * 2) 2 (by rw [prow, flat_len pcl]; omega)
  simp only [prow, flat_take pcl l k p hp] at hc2
  refine x_skip <| .then_normal <| .s4 1 5 6 7 rfl rfl rfl rfl <| x_seq <| x_block <| zr <| mvS rfl <| mvI rfl <| tl_y rfl (y_indexAddr rfl rfl (by omega)) <| tl_y rfl (y_loadAgg rfl rfl (.at_ (hc2 _) (by omega))) ?_
  refine zca rfl (RSets12_spec p) ?_
  rintro _ _ _ _ ⟨rfl, rfl, rfl⟩
  refine mvU rfl <| zx rfl <| zx rfl <| zx rfl <| tl_e rfl <| e_alloc <| fun b2 => tl_e rfl <| e_alloc <| fun b3 => tl_e rfl <| e_sT rfl rfl <| tl_e rfl <| e_sT rfl rfl <| asB rfl <| zq <| .s6 1 5 6 7 8 9 rfl rfl rfl rfl rfl rfl <| zr <| tFa rfl <| tLd rfl rfl ?_
  have hgt : decide ((treeV p.t).h > 10) = decide (¬ (tv p).h ≤ 10) := by rw [decide_eq_decide]; show (treeV p.t).h > 10 ↔ ¬ (treeV p.t).h ≤ 10; omega
  refine tl_y rfl (y_gtr rfl rfl) <| mvB rfl <| tl_cases (s := 42) rfl (fun hk3 => ?_) (fun hk3 => ?_)
  ·
   refine sk4 rfl rfl rfl rfl <| tPt rfl rfl <| zq <| .s5 1 5 6 7 47 rfl rfl rfl rfl rfl <| x_true rfl rfl <| zr <| as0 rfl <| zq <| x_ret (.block_ret (.then_ret (.loop_ret (.block_ret (.then_ret (.dropTo L iI (ret1 rfl rfl lR ⟨rfl, rfl, by
    rw [decide_eq_false]; intro h; have := ((canE_zero h.2.2).2 p hmem).1; have h2 : (treeV p.t).h ≤ 10 := this; omega⟩)))))))
  refine tLg rfl rfl <| tLg rfl rfl <| zca rfl (RoMay_spec (otsV p.o)) ?_
  rintro _ _ _ _ ⟨rfl, rfl, rfl⟩
  refine tl_y rfl (y_notd rfl) <| tPf rfl rfl <| zq <| .s5 1 5 6 7 47 rfl rfl rfl rfl rfl <| x_cond rfl (fun hc3 => ?_) (fun hc3 => ?_)
  ·
   refine zr <| as0 rfl <| zq <| x_ret (.block_ret (.then_ret (.loop_ret (.block_ret (.then_ret (.dropTo L iI (ret1 rfl rfl lR ⟨rfl, rfl, by
    rw [decide_eq_false]; intro h; exact hc3 ((canE_zero h.2.2).2 p hmem).2⟩)))))))
  refine x_skip <| .block_normal <| .then_normal <| x_region <| mvI rfl <| tl_y rfl (y_addI rfl rfl (by omega)) <| asI rfl <| .dropTo ((b1, .cells (List.toArray (seedC NA nl nc SA sl_ sc)) 33 (0, 0)) :: L) iI <| tl_nil <| .loop_next (m' := n - (k + 1)) (by omega) (F' := [(1, _), (5, _), (6, _), (7, _)]) (cs4 rfl rfl rfl rfl) ?_
  exact ⟨k + 1, rfl, by omega, rfl, fun p' hp' => by
   rw [htk, List.mem_append, List.mem_singleton] at hp'
   rcases hp' with hp' | rfl
   ·
    exact hgd p' hp'
   exact ⟨by show (treeV p'.t).h ≤ 10; omega, Classical.not_not.1 hc3⟩, rfl, rfl, rfl⟩
 obtain rfl : k = n := by omega
 rw [List.take_of_length_le (by omega)] at hgd
 refine x_exit <| .then_exit <| .loop_exit <| .block_exit <| .then_normal <| .s0 <| zr <| as0 rfl <| zq <| x_ret (.dropTo L iI (ret1 rfl rfl lR ⟨rfl, rfl, by rw [decide_eq_true]; exact ⟨by omega, by omega, canE_ok hok hgd⟩⟩))
theorem R22Head_spec {A : Option Addr} {n c : Nat} {l : List PairV} (h : Row M 2 A n c (prow l)) (hname : Bytes M NA nl nc sn) (hsec : Bytes M SA sl_ sc ss) :
  Con Tryz.prog 21 #[.string (sB nm), .slice A n c, .agg (List.toArray (seedC NA nl nc SA sl_ sc))] G M L (fun v M' L' => L' = L ∧ ∃ A1 c1, v = .tuple #[.slice A1 (headV nm l sn ss).length c1, .int .i64 (headE nm l sn ss)] ∧ Bytes M' A1 (headV nm l sn ss).length c1 (headV nm l sn ss)) noPanic := by
 have hns := hname.size
 have hss := hsec.size
 have hln : l.length = n := by have := h.len; rw [prow, flat_len pcl] at this; omega
 have hsz := sB_size nm
 refine zfn Tryz.func21 rfl 58 rfl <| zr <| tl_e rfl <| e_box rfl <| fun b1 => as0 rfl <| as0 rfl <| zq <| zr2 <| mvT rfl <| mvS rfl <| tLg rfl rfl <| zca rfl (R22May_spec h) ?_
 rintro _ _ _ _ ⟨rfl, rfl, rfl⟩
 refine tl_y rfl (y_notd rfl) <| zq <| .s4 0 1 5 14 rfl rfl rfl rfl <| x_cond rfl (fun hc1 => ?_) (fun hc1 => ?_)
 ·
  refine zr <| as0 rfl <| as0 rfl <| zq <| .s2 6 7 rfl rfl <| x_ret (.then_ret (.dropTo L iI (ret2 rfl rfl rfl lR (by
   have e : ¬ mayK nm.length l sn.length ss.length := by rw [hns, hss]; exact hc1
   rw [headV, headE, if_neg e, if_neg e]
   exact ⟨rfl, none, 0, rfl, Row.nil _ _⟩))))
 have hmay : mayK nm.length l sn.length ss.length := by rw [hns, hss]; exact Classical.not_not.1 hc1
 obtain ⟨f1, f2, f3, f4, f5⟩ := mayK_facts hmay
 have f6 := hmay.2.1
 have hV : headV nm l sn ss = headB nm l sn ss := if_pos hmay
 have hE : headE nm l sn ss = 0 := if_pos hmay
 have hbl := headB_len nm l sn ss
 rw [hV, hE]
 refine x_skip <| .then_normal <| zr <| mvT rfl <| tl_y rfl (y_lenStr rfl) <| tl_y rfl (y_convN8 rfl (by rw [sB_size]; omega)) <| tl_e rfl <| e_buildSlice rfl (by decide) <| fun b2 => mvT rfl <| tl_e rfl <| e_toBytes rfl (by rw [sB_size]; omega) <| fun A3 c3 M3 hM3 hA3 => ?_
 rw [hsz] at hA3 ⊢
 refine tl_e rfl <| e_append (by decide) rfl rfl (OwnRow.made (n := 1) rfl (by omega)) (.row hA3) (all_one_bv _) (by omega) (by omega) <| fun A4 c4 E4 hE4 => ?_
 have e1 : [Value.int .u8 (nm.length : Int)] = [UInt8.ofNat nm.length].map bv := by
  have e : (UInt8.ofNat nm.length).toNat = nm.length := by rw [UInt8.toNat_ofNat', Nat.mod_eq_of_lt (by omega)]
  simp [bv, e]
 have e2 : [Value.int .u8 (n : Int)] = [UInt8.ofNat l.length].map bv := by
  have e : (UInt8.ofNat l.length).toNat = n := by rw [UInt8.toNat_ofNat', Nat.mod_eq_of_lt (by omega), hln]
  simp [bv, e]
 replace hE4 : OwnRow 5 1 A4 (1 + nm.length) c4 ((UInt8.ofNat nm.length :: nm).map bv) E4 := by
  rw [show (UInt8.ofNat nm.length :: nm) = [UInt8.ofNat nm.length] ++ nm from rfl, List.map_append, ← e1]
  exact hE4
 refine asS rfl <| zq <| .s3 1 5 8 rfl rfl rfl <| zr <| mvS rfl <| mvS rfl <| tLen rfl <| tl_y rfl (y_convN8 rfl (by omega)) <| tl_e rfl <| e_buildSlice rfl (by decide) <| fun b4 => .to (E4 ++ ((b4, .cells #[.int .u8 (n : Int)] 5 (0, 0)) :: (b1, .cells (List.toArray (seedC NA nl nc SA sl_ sc)) 33 (0, 0)) :: L)) iI <| tl_e rfl <| e_append (by decide) rfl rfl hE4 (.own iI rfl) rfl (by omega) (by omega) <| fun A5 c5 E5 hE5 => ?_
 replace hE5 : OwnRow 5 1 A5 (2 + nm.length + 8 * 0) c5 ((UInt8.ofNat nm.length :: (nm ++ UInt8.ofNat l.length :: codsB (l.take 0))).map bv) E5 := by
  have := hE5
  rw [e2, ← List.map_append, show 1 + nm.length + 1 = 2 + nm.length + 8 * 0 by omega] at this
  exact this
 rw [show 1 + nm.length + 1 = 2 + nm.length + 8 * 0 by omega]
 refine asS rfl <| zq <| .s3 1 5 8 rfl rfl rfl <| zr2 <| as0 rfl <| zq <| x_block ?_
 refine x_loop (I := fun m' F D M7 L7 => ∃ (k : Nat) (A7 : Option Addr) (c7 : Nat) (E7 : Own), m' = n - k ∧ k ≤ n ∧ Le M M7 ∧ OwnRow 5 1 A7 (2 + nm.length + 8 * k) c7 ((UInt8.ofNat nm.length :: (nm ++ UInt8.ofNat l.length :: codsB (l.take k))).map bv) E7 ∧ D = [] ∧ DropTo L7 (E7 ++ ((b1, .cells (List.toArray (seedC NA nl nc SA sl_ sc)) 33 (0, 0)) :: L)) ∧ F = [(1, .slice A n c), (5, .pointer (some ⟨b1, 0, none⟩)), (8, .slice A7 (2 + nm.length + 8 * k) c7), (9, .int .i64 k)]) (n) (F0 := [(1, _), (5, _), (8, _), (9, _)]) ?_ (cs4 rfl rfl rfl rfl) ?_
 ·
  exact ⟨0, A5, c5, E5, rfl, Nat.zero_le _, hM3, hE5, rfl, iI, rfl⟩
 rintro m _ _ M7 L7 ⟨k, A7, c7, E7, rfl, hk, hM7, hE7, rfl, hdr, rfl⟩
 refine zr2 <| mvI rfl <| mvS rfl <| tLen rfl <| tl_y rfl (y_lss rfl rfl) <| zq <| x_cond rfl (fun hc2 => ?_) (fun hc2 => ?_)
 ·
  have hkn : k < n := by omega
  obtain ⟨p, hp⟩ : ∃ p, l[k]? = some p := ⟨_, List.getElem?_eq_getElem (by omega)⟩
  have hpk : l.take (k + 1) = l.take k ++ [p] := by rw [List.take_add_one, hp]; rfl
  have hcell := fun M' (hle : Le M M') => (h.mono hle).addr (by omega)
  have hpt := p.t.toNat_lt
  have hpo := p.o.toNat_lt
  have hvo : (prow l)[k * 2 + 0]? = some (.int .u32 (p.o.toNat : Int)) := by rw [prow, flat_get pcl _ k p hp 0 (by omega)]; rfl
  have hvt : (prow l)[k * 2 + 1]? = some (.int .u32 (p.t.toNat : Int)) := by rw [prow, flat_get pcl _ k p hp 1 (by omega)]; rfl
  obtain ⟨g, o, rfl, hc7⟩ := (h.mono hM7).addr (by omega)
  have hc8 : ∀ M' L', Le M7 M' → CellAt M' L' ⟨g, o + (k * 2 + 0), none⟩ (.int .u32 (p.o.toNat : Int)) ∧ CellAt M' L' ⟨g, o + (k * 2 + 1), none⟩ (.int .u32 (p.t.toNat : Int)) := fun M' L' hle => by
   obtain ⟨g', o', hgo, hc⟩ := (h.mono (hM7.trans hle)).addr (by omega)
   obtain ⟨rfl, rfl⟩ : g = g' ∧ o = o' := by simpa using hgo
   exact ⟨hc _ _ _ hvo, hc _ _ _ hvt⟩
  have hfin : ((UInt8.ofNat nm.length :: (nm ++ UInt8.ofNat l.length :: codsB (l.take k))).map bv ++ (putB p.t.toNat 4).map bv) ++ (putB p.o.toNat 4).map bv = (UInt8.ofNat nm.length :: (nm ++ UInt8.ofNat l.length :: codsB (l.take (k + 1)))).map bv := by
   rw [hpk, codsB_snoc]; simp [codB]
  refine .dropTo _ hdr <| x_skip <| .then_normal <| .s4 1 5 8 9 rfl rfl rfl rfl <| x_seq <| x_block ?_
  have he : Le M7 M7 := Le.refl _
  refine x_draw0 8 ([]) Keeps.mem hmix rfl <| pmS 0 rfl rfl <| pmS 1 rfl rfl <| pmI 2 rfl rfl <| zp 3 rfl rfl (y_indexAddr rfl rfl (by omega)) <| pFa 4 rfl rfl <| pmS 9 rfl rfl <| pmI 10 rfl rfl <| zp 11 rfl rfl (y_indexAddr rfl rfl (by omega)) <| pFa 12 rfl rfl ?_
  refine to_two 5 13 (by kernel_rfl) ?_ ?_
  ·
   refine two_e 5 rfl rfl <| tr_y (y_load rfl rfl (.at_ (hc8 _ _ he).2 (by omega))) <| kp ?_
   refine zp 6 rfl rfl (y_convN64 rfl (by omega)) <| to_two 7 13 (by kernel_rfl) ?_ ?_
   ·
    refine two_e 7 rfl rfl <| e_call' rfl (RPutV_spec p.t.toNat 4 (by omega) (by omega)) ?_
    rintro _ M8 _ hM8 ⟨rfl, AT, cT, rfl, hAT⟩
    replace he := he.trans hM8
    refine ⟨⟨he, Keeps.mem⟩, ?_⟩
    refine to_two 8 13 (by kernel_rfl) ?_ ?_
    ·
     refine two_e 8 rfl rfl <| e_append (by decide) rfl rfl hE7 (.row hAT) (all_one_bv _) (by omega) (by omega) <| fun A8 c8 E8 hE8 => kp ?_
     refine zy1 13 rfl rfl (y_load rfl rfl (.at_ (hc8 _ _ he).1 (by omega))) <| zp 14 rfl rfl (y_convN64 rfl (by omega)) ?_
     refine zt 15 rfl rfl <| e_call' rfl (RPutV_spec p.o.toNat 4 (by omega) (by omega)) ?_
     rintro _ M9 _ hM9 ⟨rfl, AO, cO, rfl, hAO⟩
     replace he := he.trans hM9
     refine zt 16 rfl rfl <| e_append (by decide) rfl rfl hE8 (.row hAO) (all_one_bv _) (by omega) (by omega) <| fun A9 c9 E9 hE9 => ?_
     rw [hfin, show 2 + nm.length + 8 * k + 4 + 4 = 2 + nm.length + 8 * (k + 1) by omega] at hE9
     rw [show 2 + nm.length + 8 * k + 4 + 4 = 2 + nm.length + 8 * (k + 1) by omega]
     refine paS 17 rfl rfl <| zz <| .block_normal <| .then_normal <| .s4 1 5 8 9 rfl rfl rfl rfl <| x_region <| mvI rfl <| tl_y rfl (y_addI rfl rfl (by omega)) <| asI rfl <| tl_nil <| .loop_next (m' := n - (k + 1)) (by omega) (F' := [(1, _), (5, _), (8, _), (9, _)]) (cs4 rfl rfl rfl rfl) ?_
     exact ⟨k + 1, A9, c9, E9, rfl, by omega, hM7.trans he, hE9, rfl, iI, rfl⟩
    refine two_e 13 rfl rfl <| tr_y (y_load rfl rfl (.at_ (hc8 _ _ he).1 (by omega))) <| kp ?_
    refine zp 14 rfl rfl (y_convN64 rfl (by omega)) <| zt 8 rfl rfl <| e_append (by decide) rfl rfl hE7 (.row hAT) (all_one_bv _) (by omega) (by omega) <| fun A8 c8 E8 hE8 => ?_
    refine zt 15 rfl rfl <| e_call' rfl (RPutV_spec p.o.toNat 4 (by omega) (by omega)) ?_
    rintro _ M9 _ hM9 ⟨rfl, AO, cO, rfl, hAO⟩
    replace he := he.trans hM9
    refine zt 16 rfl rfl <| e_append (by decide) rfl rfl hE8 (.row hAO) (all_one_bv _) (by omega) (by omega) <| fun A9 c9 E9 hE9 => ?_
    rw [hfin, show 2 + nm.length + 8 * k + 4 + 4 = 2 + nm.length + 8 * (k + 1) by omega] at hE9
    rw [show 2 + nm.length + 8 * k + 4 + 4 = 2 + nm.length + 8 * (k + 1) by omega]
    refine paS 17 rfl rfl <| zz <| .block_normal <| .then_normal <| .s4 1 5 8 9 rfl rfl rfl rfl <| x_region <| mvI rfl <| tl_y rfl (y_addI rfl rfl (by omega)) <| asI rfl <| tl_nil <| .loop_next (m' := n - (k + 1)) (by omega) (F' := [(1, _), (5, _), (8, _), (9, _)]) (cs4 rfl rfl rfl rfl) ?_
    exact ⟨k + 1, A9, c9, E9, rfl, by omega, hM7.trans he, hE9, rfl, iI, rfl⟩
   refine two_e 13 rfl rfl <| tr_y (y_load rfl rfl (.at_ (hc8 _ _ he).1 (by omega))) <| kp ?_
   refine zp 14 rfl rfl (y_convN64 rfl (by omega)) ?_
   refine ze 7 rfl rfl <| e_call' rfl (RPutV_spec p.t.toNat 4 (by omega) (by omega)) ?_
   rintro _ M8 _ hM8 ⟨rfl, AT, cT, rfl, hAT⟩
   replace he := he.trans hM8
   refine ⟨⟨he, Keeps.mem⟩, ?_⟩
   refine zt 8 rfl rfl <| e_append (by decide) rfl rfl hE7 (.row hAT) (all_one_bv _) (by omega) (by omega) <| fun A8 c8 E8 hE8 => ?_
   refine zt 15 rfl rfl <| e_call' rfl (RPutV_spec p.o.toNat 4 (by omega) (by omega)) ?_
   rintro _ M9 _ hM9 ⟨rfl, AO, cO, rfl, hAO⟩
   replace he := he.trans hM9
   refine zt 16 rfl rfl <| e_append (by decide) rfl rfl hE8 (.row hAO) (all_one_bv _) (by omega) (by omega) <| fun A9 c9 E9 hE9 => ?_
   rw [hfin, show 2 + nm.length + 8 * k + 4 + 4 = 2 + nm.length + 8 * (k + 1) by omega] at hE9
   rw [show 2 + nm.length + 8 * k + 4 + 4 = 2 + nm.length + 8 * (k + 1) by omega]
   refine paS 17 rfl rfl <| zz <| .block_normal <| .then_normal <| .s4 1 5 8 9 rfl rfl rfl rfl <| x_region <| mvI rfl <| tl_y rfl (y_addI rfl rfl (by omega)) <| asI rfl <| tl_nil <| .loop_next (m' := n - (k + 1)) (by omega) (F' := [(1, _), (5, _), (8, _), (9, _)]) (cs4 rfl rfl rfl rfl) ?_
   exact ⟨k + 1, A9, c9, E9, rfl, by omega, hM7.trans he, hE9, rfl, iI, rfl⟩
  refine two_e 13 rfl rfl <| tr_y (y_load rfl rfl (.at_ (hc8 _ _ he).1 (by omega))) <| kp ?_
  refine zp 14 rfl rfl (y_convN64 rfl (by omega)) <| zy1 5 rfl rfl (y_load rfl rfl (.at_ (hc8 _ _ he).2 (by omega))) <| zp 6 rfl rfl (y_convN64 rfl (by omega)) ?_
  refine ze 7 rfl rfl <| e_call' rfl (RPutV_spec p.t.toNat 4 (by omega) (by omega)) ?_
  rintro _ M8 _ hM8 ⟨rfl, AT, cT, rfl, hAT⟩
  replace he := he.trans hM8
  refine ⟨⟨he, Keeps.mem⟩, ?_⟩
  refine zt 8 rfl rfl <| e_append (by decide) rfl rfl hE7 (.row hAT) (all_one_bv _) (by omega) (by omega) <| fun A8 c8 E8 hE8 => ?_
  refine zt 15 rfl rfl <| e_call' rfl (RPutV_spec p.o.toNat 4 (by omega) (by omega)) ?_
  rintro _ M9 _ hM9 ⟨rfl, AO, cO, rfl, hAO⟩
  replace he := he.trans hM9
  refine zt 16 rfl rfl <| e_append (by decide) rfl rfl hE8 (.row hAO) (all_one_bv _) (by omega) (by omega) <| fun A9 c9 E9 hE9 => ?_
  rw [hfin, show 2 + nm.length + 8 * k + 4 + 4 = 2 + nm.length + 8 * (k + 1) by omega] at hE9
  rw [show 2 + nm.length + 8 * k + 4 + 4 = 2 + nm.length + 8 * (k + 1) by omega]
  refine paS 17 rfl rfl <| zz <| .block_normal <| .then_normal <| .s4 1 5 8 9 rfl rfl rfl rfl <| x_region <| mvI rfl <| tl_y rfl (y_addI rfl rfl (by omega)) <| asI rfl <| tl_nil <| .loop_next (m' := n - (k + 1)) (by omega) (F' := [(1, _), (5, _), (8, _), (9, _)]) (cs4 rfl rfl rfl rfl) ?_
  exact ⟨k + 1, A9, c9, E9, rfl, by omega, hM7.trans he, hE9, rfl, iI, rfl⟩
 obtain rfl : k = n := by omega
 rw [List.take_of_length_le (by omega)] at hE7
 refine .dropTo _ hdr ?_
 have hfin : ((UInt8.ofNat nm.length :: (nm ++ UInt8.ofNat l.length :: codsB l)).map bv ++ sn.map bv) ++ ss.map bv = (headB nm l sn ss).map bv := by simp [headB]
 refine x_exit <| .then_exit <| .loop_exit <| .block_exit <| .then_normal <| .s2 5 8 rfl rfl <| x_seq <| x_draw0 3 ([(b1, .cells (List.toArray (seedC NA nl nc SA sl_ sc)) 33 (0, 0))]) Keeps.mem hmix rfl <| pmS 0 rfl rfl <| pFa 1 rfl rfl <| pLd 2 rfl rfl rfl <| pFa 4 rfl rfl <| to_two 3 5 (by kernel_rfl) ?_ ?_
 ·
  refine two_e 3 rfl rfl <| e_append (by decide) rfl rfl hE7 (.row (hname.mono hM7)) (all_one_bv _) (by omega) (by omega) <| fun A8 c8 E8 hE8 => kp ?_
  refine zy1 5 rfl rfl (y_ld rfl rfl) <| zt 6 rfl rfl <| e_append (by decide) rfl rfl hE8 (.row (hsec.mono hM7)) (all_one_bv _) (by omega) (by omega) <| fun A9 c9 E9 hE9 => ?_
  rw [hfin, show 2 + nm.length + 8 * k + nl + sl_ = (headB nm l sn ss).length by omega] at hE9
  rw [show 2 + nm.length + 8 * k + nl + sl_ = (headB nm l sn ss).length by omega]
  refine .pubRow hE9 <| fun M9 hM9 hr9 => paS 7 rfl rfl <| zp 8 rfl rfl (y_assign rfl) <| zz <| .then_normal <| .s2 6 7 rfl rfl <| x_ret (.dropTo L iI (ret2 rfl rfl rfl (hM7.trans hM9) ⟨rfl, _, _, rfl, hr9⟩))
 refine two_e 5 rfl rfl <| tr_y (y_ld rfl rfl) <| kp ?_
 refine zt 3 rfl rfl <| e_append (by decide) rfl rfl hE7 (.row (hname.mono hM7)) (all_one_bv _) (by omega) (by omega) <| fun A8 c8 E8 hE8 => zt 6 rfl rfl <| e_append (by decide) rfl rfl hE8 (.row (hsec.mono hM7)) (all_one_bv _) (by omega) (by omega) <| fun A9 c9 E9 hE9 => ?_
 rw [hfin, show 2 + nm.length + 8 * k + nl + sl_ = (headB nm l sn ss).length by omega] at hE9
 rw [show 2 + nm.length + 8 * k + nl + sl_ = (headB nm l sn ss).length by omega]
 refine .pubRow hE9 <| fun M9 hM9 hr9 => paS 7 rfl rfl <| zp 8 rfl rfl (y_assign rfl) <| zz <| .then_normal <| .s2 6 7 rfl rfl <| x_ret (.dropTo L iI (ret2 rfl rfl rfl (hM7.trans hM9) ⟨rfl, _, _, rfl, hr9⟩))
abbrev keyZ : List Value := [.string ⟨#[]⟩, .slice none 0 0, .slice none 0 0, .slice none 0 0, .pointer none]
abbrev keyC (nm : List UInt8) (x y z : SlV) : List Value := [.string (sB nm), x.v, y.v, z.v, .pointer none]
abbrev kzL (b : Nat) : Nat × Obj := (b, .cells (List.toArray keyZ) 58 (0, 0))
theorem R22Parse_spec {A : Option Addr} {n c : Nat} {bs : List UInt8} (h : Bytes M A n c bs) (hn : n ≤ 1099511627776) :
  Con Tryz.prog 23 #[.slice A n c] G M L (fun v M' L' => L' = L ∧ ∃ nm x y z e, v = .tuple #[.agg (List.toArray (keyC nm x y z)), .int .i64 e] ∧ ParsedAt M' bs nm x y z e) noPanic := by
 have hsz := h.size
 have hcl := h.le
 have hget : ∀ j, j < n → (bs.map bv)[j]? = some (.int .u8 ((bs.getD j 0).toNat : Int)) := fun j hj => by
  rw [List.getElem?_map, List.getElem?_eq_getElem (by omega), List.getD_eq_getElem?_getD, List.getElem?_eq_getElem (by omega)]; rfl
 obtain ⟨N, hN⟩ : ∃ N, hdN bs = N := ⟨_, rfl⟩
 have hN256 : N < 256 := by rw [← hN]; exact (bs.getD 0 0).toNat_lt
 have hv0 : 0 < n → (bs.map bv)[0]? = some (.int .u8 (N : Int)) := fun h0 => by rw [hget 0 h0, ← hN]; rfl
 have hbad : ∀ {M'}, ¬ goodH bs → ParsedAt M' bs [] nilS nilS nilS 3 := fun hb => .inr ⟨hb, rfl, rfl, rfl, rfl, rfl⟩
 refine zfn Tryz.func23 rfl 110 rfl <| zr <| tl_e rfl <| e_alloc <| fun b1 => as0 rfl <| zq <| zr <| tl_e rfl <| e_alloc <| fun b2 => zq <| zr2 <| mvS rfl <| tLen rfl <| tl_y rfl (y_lss rfl rfl) <| mvB rfl <| tl_cases (s := 19) rfl (fun hk1 => ?_) (fun hk1 => ?_)
 ·
  refine sk8 rfl rfl rfl rfl rfl rfl rfl rfl <| tPt rfl rfl <| zq <| .s4 0 2 4 28 rfl rfl rfl rfl <| x_true rfl rfl <| zr <| tLg rfl rfl <| tl_e rfl <| e_sT rfl rfl <| as0 rfl <| zq <| .s2 2 3 rfl rfl <| x_ret (.then_ret (retRV (L' := L) (rv2 rfl (rc_cellAgg (by rfl) rfl (.own iI iI)) (rc_tmp rfl)) iI lR ⟨rfl, [], nilS, nilS, nilS, 3, rfl, hbad fun hg => by have := hg.1.1; omega⟩))
 have h0 : 0 < n := by omega
 obtain ⟨g, o, rfl, hcell⟩ := Row.addr h (by omega)
 refine mvS rfl <| tLen rfl <| mvS rfl <| tl_y rfl (y_indexAddr rfl rfl (by omega)) <| tl_y rfl (y_load rfl rfl (.at_ (hcell _ 0 _ (hv0 h0)) (by omega))) <| tl_y rfl (y_convI rfl (by omega)) <| tl_y rfl (y_addI rfl rfl (by omega)) <| tl_y rfl (y_lss rfl rfl) <| tPf rfl rfl <| zq <| .s4 0 2 4 28 rfl rfl rfl rfl <| x_cond rfl (fun hc1 => ?_) (fun hc1 => ?_)
 ·
  refine zr <| tLg rfl rfl <| tl_e rfl <| e_sT rfl rfl <| as0 rfl <| zq <| .s2 2 3 rfl rfl <| x_ret (.then_ret (retRV (L' := L) (rv2 rfl (rc_cellAgg (by rfl) rfl (.own iI iI)) (rc_tmp rfl)) iI lR ⟨rfl, [], nilS, nilS, nilS, 3, rfl, hbad fun hg => by have := hg.1.2.1; omega⟩))
 have h2N : 2 + N ≤ n := by omega
 obtain ⟨m, hm⟩ : ∃ m, hdM bs = m := ⟨_, rfl⟩
 have hm256 : m < 256 := by rw [← hm]; exact (bs.getD (1 + hdN bs) 0).toNat_lt
 have hv1 : (bs.map bv)[1 + N]? = some (.int .u8 (m : Int)) := by rw [hget _ (by omega), ← hm, hdM, hN]
 have hnm : (bs.drop 1).take (1 + N - 1) = nameH bs := by rw [nameH, hN]; congr 1; omega
 have hs1 := Bytes.sub h 1 (1 + N) (by omega) (by omega)
 rw [hnm] at hs1
 refine x_skip <| .then_normal <| zr <| mvS rfl <| tl_y rfl (y_indexAddr rfl rfl (by omega)) <| tl_y rfl (y_load rfl rfl (.at_ (hcell _ 0 _ (hv0 h0)) (by omega))) <| tl_y rfl (y_convI rfl (by omega)) <| asI rfl <| zq <| .s4 0 2 4 5 rfl rfl rfl rfl <| zr <| mvS rfl <| mvI rfl <| tl_y rfl (y_addI rfl rfl (by omega)) ?_
 rw [show (1 : Int) + (N : Int) = ((1 + N : Nat) : Int) by omega]
 refine tl_y rfl (y_sliceLH (l := 1) (h := ((1 + N : Nat) : Int)) rfl rfl rfl (by omega) (by omega)) <| tl_y rfl (y_toStr rfl (.row hs1)) <| asT rfl <| zq <| .s5 0 2 4 5 6 rfl rfl rfl rfl rfl <| zr <| mvS rfl <| mvI rfl <| tl_y rfl (y_addI rfl rfl (by omega)) <| tl_y rfl (y_indexAddr rfl rfl ⟨by omega, by omega⟩) <| tl_y rfl (y_load rfl rfl (.at_ (hcell _ (1 + N) _ hv1) (by omega))) <| tl_y rfl (y_convI rfl (by omega)) <| asI rfl <| zq <| .s6 0 2 4 5 6 7 rfl rfl rfl rfl rfl rfl <| zr <| mvI rfl <| tl_y rfl (y_addI rfl rfl (by omega)) ?_
 rw [show (2 : Int) + (N : Int) = ((2 + N + 8 * 0 : Nat) : Int) by omega]
 refine asI rfl <| zq <| zr2 <| mvS rfl <| tLen rfl <| mvI rfl <| mvI rfl <| tl_y rfl (y_mulI rfl rfl (by omega)) <| tl_y rfl (y_addI rfl rfl (by omega)) <| tl_y rfl (y_addI rfl rfl (by omega)) <| tl_y rfl (y_lss rfl rfl) <| zq <| .s7 0 2 4 6 7 8 54 rfl rfl rfl rfl rfl rfl rfl <| x_cond rfl (fun hc2 => ?_) (fun hc2 => ?_)
 ·
  refine zr <| tLg rfl rfl <| tl_e rfl <| e_sT rfl rfl <| as0 rfl <| zq <| .s2 2 3 rfl rfl <| x_ret (.then_ret (retRV (L' := L) (rv2 rfl (rc_cellAgg (by rfl) rfl (.own iI iI)) (rc_tmp rfl)) iI lR ⟨rfl, [], nilS, nilS, nilS, 3, rfl, hbad fun hg => by have := hg.1.2.2; omega⟩))
 have hok : okLen bs := ⟨by omega, by omega, by omega⟩
 have hend : 2 + N + 8 * m + 16 ≤ n := by omega
 have hdl : (bs.drop (2 + N)).length = n - (2 + N) := by rw [List.length_drop]; omega
 refine x_skip <| .then_normal <| zr <| as0 rfl <| zq <| zr2 <| as0 rfl <| zq <| x_block ?_
 refine x_loop (I := fun m' F D M7 L7 => ∃ (k : Nat) (LA : Option Addr) (lc : Nat) (E : Own), m' = m - k ∧ k ≤ m ∧ Le M M7 ∧ OwnRow 63 2 LA k lc (prow (codesL (bs.drop (2 + N)) k)) E ∧ D = [] ∧ L7 = kzL b2 :: kzL b1 :: (E ++ L) ∧ F = [(0, .slice (some ⟨g, o, none⟩) n c), (2, .pointer (some ⟨b1, 0, none⟩)), (4, .pointer (some ⟨b2, 0, none⟩)), (6, .string (sB (nameH bs))), (7, .int .i64 (m : Int)), (8, .int .i64 ((2 + N + 8 * k : Nat) : Int)), (9, .slice LA k lc), (10, .int .i64 (k : Int))]) (m) (F0 := [(0, _), (2, _), (4, _), (6, _), (7, _), (8, _), (9, _), (10, _)]) ?_ (cs8 rfl rfl rfl rfl rfl rfl rfl rfl) ?_
 ·
  exact ⟨0, none, 0, [], rfl, Nat.zero_le _, Le.refl _, OwnRow.nil, rfl, rfl, rfl⟩
 rintro m _ _ M7 _ ⟨k, LA, lc, E, rfl, hk, hM7, hE, rfl, rfl, rfl⟩
 refine zr2 <| mvI rfl <| mvI rfl <| tl_y rfl (y_lss rfl rfl) <| zq <| x_cond rfl (fun hc3 => ?_) (fun hc3 => ?_)
 ·
  have hkm : k < m := by omega
  have hst := Bytes.sub (h.mono hM7) (2 + N + 8 * k) (2 + N + 8 * k + 4) (by omega) (by omega)
  have hso := Bytes.sub (h.mono hM7) (2 + N + 8 * k + 4) (2 + N + 8 * k + 8) (by omega) (by omega)
  obtain ⟨p, hp⟩ : ∃ p, pairC ((bs.drop (2 + N)).drop (8 * k)) = p := ⟨_, rfl⟩
  have hpt : getB ((bs.drop (2 + N + 8 * k)).take (2 + N + 8 * k + 4 - (2 + N + 8 * k))) = p.t.toNat := by
   rw [← hp, pairC, Nat.add_sub_cancel_left]
   show _ = (UInt32.ofNat _).toNat
   rw [UInt32.toNat_ofNat', Nat.mod_eq_of_lt (getB_lt4 4 (by omega)), List.drop_drop]
  have hpo : getB ((bs.drop (2 + N + 8 * k + 4)).take (2 + N + 8 * k + 8 - (2 + N + 8 * k + 4))) = p.o.toNat := by
   rw [← hp, pairC, List.drop_drop, List.drop_drop, show 2 + N + 8 * k + 8 - (2 + N + 8 * k + 4) = 4 by omega, show 2 + N + (8 * k + 4) = 2 + N + 8 * k + 4 by omega]
   show _ = (UInt32.ofNat _).toNat
   rw [UInt32.toNat_ofNat', Nat.mod_eq_of_lt (getB_lt4 4 (by omega))]
  have hpt2 := p.t.toNat_lt
  have hpo2 := p.o.toNat_lt
  refine x_skip <| .then_normal <| x_seq <| x_block <| zr <| mvS rfl <| mvI rfl <| mvI rfl <| tl_y rfl (y_addI rfl rfl (by omega)) ?_
  rw [show ((2 + N + 8 * k : Nat) : Int) + 4 = ((2 + N + 8 * k + 4 : Nat) : Int) by omega]
  refine tl_y rfl (y_sliceLH (l := ((2 + N + 8 * k : Nat) : Int)) (h := ((2 + N + 8 * k + 4 : Nat) : Int)) rfl rfl rfl (by omega) (by omega)) ?_
  refine zca rfl (RGet_spec hst (by omega)) ?_
  rintro _ _ _ _ ⟨rfl, rfl, x1, hx1, rfl⟩
  rw [hpt] at hx1
  rw [hx1]
  refine mvU rfl <| zx rfl <| zx rfl <| asI rfl <| asB rfl <| zq <| .sub (F' := [(0, _), (2, _), (4, _), (6, _), (7, _), (8, _), (9, _), (10, _), (11, _)]) (cs9 rfl rfl rfl rfl rfl rfl rfl rfl rfl) <| zr <| mvS rfl <| mvI rfl <| tl_y rfl (y_addI rfl rfl (by omega)) ?_
  rw [show ((2 + N + 8 * k : Nat) : Int) + 4 = ((2 + N + 8 * k + 4 : Nat) : Int) by omega]
  refine mvI rfl <| tl_y rfl (y_addI rfl rfl (by omega)) ?_
  rw [show ((2 + N + 8 * k : Nat) : Int) + 8 = ((2 + N + 8 * k + 8 : Nat) : Int) by omega]
  refine tl_y rfl (y_sliceLH (l := ((2 + N + 8 * k + 4 : Nat) : Int)) (h := ((2 + N + 8 * k + 8 : Nat) : Int)) rfl rfl rfl (by omega) (by omega)) ?_
  refine zca rfl (RGet_spec hso (by omega)) ?_
  rintro _ _ _ _ ⟨rfl, rfl, x2, hx2, rfl⟩
  rw [hpo] at hx2
  rw [hx2]
  refine mvU rfl <| zx rfl <| zx rfl <| asI rfl <| asB rfl <| zq <| .sub (F' := [(0, _), (2, _), (4, _), (6, _), (7, _), (8, _), (9, _), (10, _), (11, _), (13, _)]) (cs10 rfl rfl rfl rfl rfl rfl rfl rfl rfl rfl) <| zr <| mvS rfl <| mvI rfl <| tl_y rfl (y_convN32 rfl (by omega)) <| mvI rfl <| tl_y rfl (y_convN32 rfl (by omega)) <| tl_y rfl (y_build rfl) <| tl_e rfl <| e_buildSlice rfl (by decide) <| fun b3 => .pub b3 iI <| fun M10 hM10 hb10 => .to (E ++ (kzL b2 :: kzL b1 :: L)) iI <| tl_e rfl <| e_append (by decide) rfl rfl hE (.row (Row.whole (s := 2) (vs := p.cells) hb10 rfl (by omega))) rfl (by show k + 1 ≤ _; omega) (by show (k + 1) * _ ≤ _; omega) <| fun A11 c11 E11 hE11 => asS rfl <| zq <| .s8 0 2 4 6 7 8 9 10 rfl rfl rfl rfl rfl rfl rfl rfl <| x_region <| mvI rfl <| tl_y rfl (y_addI rfl rfl (by omega)) ?_
  rw [show ((2 + N + 8 * k : Nat) : Int) + 8 = ((2 + N + 8 * (k + 1) : Nat) : Int) by omega]
  refine asI rfl <| tl_nil <| .block_normal <| .then_normal <| x_region <| mvI rfl <| tl_y rfl (y_addI rfl rfl (by omega)) <| asI rfl <| .to (kzL b2 :: kzL b1 :: (E11 ++ L)) iI <| tl_nil <| .loop_next (m' := m - (k + 1)) (by omega) (F' := [(0, _), (2, _), (4, _), (6, _), (7, _), (8, _), (9, _), (10, _)]) (cs8 rfl rfl rfl rfl rfl rfl rfl rfl) ?_
  exact ⟨k + 1, A11, c11, E11, rfl, by omega, hM7.trans hM10, by
   have e : prow (codesL (bs.drop (2 + N)) (k + 1)) = prow (codesL (bs.drop (2 + N)) k) ++ p.cells := by rw [codesL, hp]; simp [prow]
   rw [e]; exact hE11, rfl, rfl, rfl⟩
 obtain rfl : k = m := by omega
 have hlH : lH bs = codesL (bs.drop (2 + N)) k := by rw [lH, hm, hN]
 rw [← hlH] at hE
 have hs2 := Bytes.sub (h.mono hM7) (2 + N + 8 * k) (2 + N + 8 * k + 16) (by omega) (by omega)
 have hs3 := Bytes.drop (h.mono hM7) (2 + N + 8 * k + 16) (by omega)
 have esn : (bs.drop (2 + N + 8 * k)).take (2 + N + 8 * k + 16 - (2 + N + 8 * k)) = snH bs := by rw [snH, hN, hm, Nat.add_sub_cancel_left]
 have ess : bs.drop (2 + N + 8 * k + 16) = ssH bs := by rw [ssH, hN, hm]
 rw [esn] at hs2
 rw [ess] at hs3
 refine x_exit <| .then_exit <| .loop_exit <| .block_exit <| .then_normal <| .s6 0 2 4 6 8 9 rfl rfl rfl rfl rfl rfl <| x_seq <| x_draw 11 hmix rfl <| pmS 0 rfl rfl <| pmI 1 rfl rfl <| pmI 2 rfl rfl <| zp 3 rfl rfl (y_addI rfl rfl (by omega)) ?_
 rw [show ((2 + N + 8 * k : Nat) : Int) + 16 = ((2 + N + 8 * k + 16 : Nat) : Int) by omega]
 refine zp 4 rfl rfl (y_sliceLH (l := ((2 + N + 8 * k : Nat) : Int)) (h := ((2 + N + 8 * k + 16 : Nat) : Int)) rfl rfl rfl (by omega) (by omega)) <| pmS 5 rfl rfl <| pmI 6 rfl rfl <| zp 7 rfl rfl (y_addI rfl rfl (by omega)) ?_
 rw [show ((2 + N + 8 * k : Nat) : Int) + 16 = ((2 + N + 8 * k + 16 : Nat) : Int) by omega]
 refine zp 8 rfl rfl (y_sliceL (l := ((2 + N + 8 * k + 16 : Nat) : Int)) rfl rfl (by omega)) <| zp 9 rfl rfl (y_build rfl) <| ze 10 rfl rfl <| e_alloc <| fun b4 => kp ?_
 refine zt 11 rfl rfl <| e_sT rfl rfl <| zz <| .then_normal <| .s5 2 4 6 9 15 rfl rfl rfl rfl rfl <| zr2 <| mvT rfl <| mvS rfl <| tLg rfl rfl <| .bringE E iI <| .pubRow hE <| fun M11 hM11 hrow => zca rfl (R22May_spec hrow) ?_
 rintro _ _ _ _ ⟨rfl, rfl, rfl⟩
 have hl2 := (hs2.mono hM11).size
 have hl3 := (hs3.mono hM11).size
 have hmy : mayK (nameH bs).length (lH bs) (2 + N + 8 * k + 16 - (2 + N + 8 * k)) (n - (2 + N + 8 * k + 16)) ↔ goodH bs := by
  rw [← hl2, ← hl3]
  exact ⟨fun h => ⟨hok, h⟩, fun h => h.2⟩
 refine tl_y rfl (y_notd rfl) <| zq <| .s6 2 4 6 9 15 104 rfl rfl rfl rfl rfl rfl <| x_cond rfl (fun hc4 => ?_) (fun hc4 => ?_)
 ·
  refine zr <| tLg rfl rfl <| tl_e rfl <| e_sT rfl rfl <| as0 rfl <| zq <| .s2 2 3 rfl rfl <| x_ret (.then_ret (retRV (L' := L) (rv2 rfl (rc_cellAgg (by rfl) rfl (.own iI iI)) (rc_tmp rfl)) iI (hM7.trans hM11) ⟨rfl, [], nilS, nilS, nilS, 3, rfl, hbad fun hg => hc4 (hmy.2 hg)⟩))
 refine x_skip <| .then_normal <| zr <| mvT rfl <| mvS rfl <| tLg rfl rfl <| tl_y rfl (y_build rfl) <| tl_e rfl <| e_sT rfl rfl <| as0 rfl <| zq <| .s2 2 3 rfl rfl <| x_ret (retRV (L' := L) (rv2 rfl (rc_cellAgg (by rfl) rfl (.own iI iI)) (rc_tmp rfl)) iI (hM7.trans hM11) ⟨rfl, nameH bs, ⟨LA, k, lc⟩, ⟨_, _, _⟩, ⟨_, _, _⟩, 0, rfl, .inl ⟨hmy.1 (Classical.not_not.1 hc4), rfl, rfl, hrow, hs2.mono hM11, hs3.mono hM11⟩⟩)
end
section
variable {G : World} {M : Mem} {L R : Own} {sp d n mp : Nat} {S : DS} {r : DRep}
theorem sarea_spec (h : IsDisk M r S) {i : Nat} (hi : i < n) (hn : 8 * n ≤ S.sure.length) :
  Con Tryz.prog 35 #[.pointer (some ⟨sp, 0, none⟩), .int .i64 (i : Int)] G M (dL d r S (stL sp d n mp :: R)) (fun v M' L' => ∃ p, v = .pointer (some ⟨p, 0, none⟩) ∧ SK p d S (sA i) (stL sp d n mp :: R) M' L') noPanic := by
 have hsz := h.sz
 have hsn := h.sn
 refine zfn Tryz.func35 rfl 21 rfl <| zr <| as0 rfl <| zq <| zr <| mvP rfl <| zc rfl <| tFa rfl <| tLd rfl rfl <| mvI rfl <| tl_y rfl (y_mulI rfl rfl (by omega)) <| tl_y rfl (y_mulI rfl rfl (by omega)) ?_
 rw [show (i : Int) * 2 * 4 = ((8 * i : Nat) : Int) by omega]
 refine zca rfl (sNew_ok h (8 * i) 4 (by omega) (by omega)) ?_
 rintro _ M1 _ hM1 ⟨p, rfl, hk⟩
 refine mvU rfl <| zx rfl <| zx rfl <| asP rfl <| asI rfl <| zq <| .s2 5 6 rfl rfl <| zr <| mvI rfl <| zca rfl ((swell_spec 0).mono (fun _ _ _ _ h => h) (fun _ _ _ _ h => absurd rfl h.2.2.1)) ?_
 rintro _ _ _ _ ⟨rfl, rfl, _⟩
 refine zq <| zr <| mvP rfl <| asP rfl <| zq <| .s1 4 rfl <| x_ret (ret1 rfl rfl hM1 ⟨p, rfl, hk⟩)
abbrev ptL (b c : Nat) : Nat × Obj := (b, .cells #[.pointer (some ⟨c, 0, none⟩)] 89 (0, 0))
theorem sload1_spec (hg : LmG M) {b c p hl hc : Nat} {HA : Option Addr} {x : Cn} {bs : List UInt8} (h : Bytes M HA hl hc bs) (hn : hl ≤ 1099511627776) {p' q' : Nat × Obj} :
  Con Tryz.prog 80 #[.pointer (some ⟨b, 0, none⟩)] G M (p' :: q' :: ptL b c :: cL c x HA hl hc p :: R) (fun v M' L' => ∃ L1, L' = p' :: q' :: L1 ∧ ∃ nm x' y z, v = .agg (List.toArray (parsC nm x' y z)) ∧ (L1 = ptL b c :: cL c x HA hl hc p :: R ∧ ParsedAt M' bs nm x' y z 0)) (fun ch M' L' => ∃ L1, L' = p' :: q' :: L1 ∧ ∃ e, (L1 = ptL b c :: cL c x HA hl hc p :: R ∧ ¬ goodH bs ∧ e = 3) ∧ ch = swrong e) := by
 obtain ⟨pb, po⟩ := p'
 obtain ⟨qb, qo⟩ := q'
 refine zfn Tryz.func80 rfl 5 rfl <| zr <| tl_e rfl <| e_alloc <| fun b1 => zq <| zr <| tLd rfl rfl <| zca rfl (Con.bring c iI (Head_spec x h (by omega))) ?_
 rintro _ M1 _ hM1 ⟨rfl, A1, c1, rfl, h1⟩
 refine tl_e rfl (e_call rfl (sparse_spec (hg.mono hM1) h1 hn) (by
  rintro _ M2 _ hM2 ⟨rfl, hno, rfl⟩
  exact TP.dropTo ((pb, po) :: (qb, qo) :: ptL b c :: cL c x HA hl hc p :: R) iI (.retA rfl (hM1.trans hM2) ⟨_, rfl, 3, ⟨rfl, hno, rfl⟩, rfl⟩)) ?_)
 rintro _ M2 _ hM2 ⟨rfl, hgood, x', y, z, rfl, k1, k2, k3⟩
 refine tl_e rfl <| e_sT rfl rfl <| zq <| .s1 1 rfl <| x_ret (retRV (L' := (pb, po) :: (qb, qo) :: ptL b c :: cL c x HA hl hc p :: R) (rv1 rfl (rc_cellAgg (by rfl) rfl (.own iI iI))) iI (hM1.trans hM2) ⟨_, rfl, _, x', y, z, rfl, rfl, .inl ⟨hgood, rfl, rfl, k1, k2, k3⟩⟩)
theorem sload_spec (hg : LmG M) (hsh : ShaG M) (h : IsDisk M r S) {i : Nat} (hi : i < n) (hn : 8 * n ≤ S.sure.length) :
  Con Tryz.prog 31 #[.pointer (some ⟨sp, 0, none⟩), .int .i64 (i : Int)] G M (dL d r S (stL sp d n mp :: R))
   (fun v M' L' => ∃ r', IsDisk M' r' S ∧ ((loadK S i = (0, none) ∧ v = .tuple #[.string ⟨#[]⟩, .pointer none] ∧ L' = dL d r' S (stL sp d n mp :: R)) ∨ (∃ k kp B, loadK S i = (0, some k) ∧ v = .tuple #[.string (sB k.h.name), .pointer (some ⟨kp, 0, none⟩)] ∧ KBl M' d k kp B ∧ L' = dL d r' S (stL sp d n mp :: (B ++ R)))))
   (fun ch M' L' => ∃ r', IsDisk M' r' S ∧ L' = dL d r' S (stL sp d n mp :: R) ∧ (loadK S i).1 ≠ 0 ∧ ch = swrong (loadK S i).1) := by
 have hok : OkS S (sA i) := okS0 (by omega) (by omega)
 refine zfn Tryz.func31 rfl 50 rfl <| zr <| as0 rfl <| as0 rfl <| zq <| zr <| mvP rfl <| mvI rfl <| zca rfl (sarea_spec h hi hn) ?_
 rintro _ M1 _ hM1 ⟨p, rfl, r1, A1, l1, c1, h1, hb1, rfl⟩
 have hd := hM1
 refine zca rfl (cOpen_spec (hsh.mono hd) h1 hok hb1) ?_
 rintro v M2 L2 hM2 hv
 replace hd := hd.trans hM2
 have hlb : (loadRes S (sA i)).1.b.length + 28 ≤ 512 := by have := (loadRes_ok hok).b; have := (loadRes_ok hok).n; omega
 obtain ⟨e, he⟩ : ∃ e, (openC S (sA i)).2 = e := ⟨_, rfl⟩
 obtain ⟨P, X, r2, A2, l2, c2, rfl, h2, hb2, rfl, hcase⟩ : ∃ P X r2 A2 l2 c2, v = .tuple #[.pointer P, .int .i64 e] ∧ IsDisk M2 r2 S ∧ Bytes M2 A2 l2 c2 (loadRes S (sA i)).1.b ∧ L2 = dL d r2 S (sL p d (loadRes S (sA i)).1 A2 l2 c2 :: X) ∧ ((e = 0 ∧ ∃ c A' n' c', P = some ⟨c, 0, none⟩ ∧ Bytes M2 A' n' c' (openC S (sA i)).1.2 ∧ X = cL c (openC S (sA i)).1.1 A' n' c' p :: stL sp d n mp :: R) ∨ (e ≠ 0 ∧ X = stL sp d n mp :: R)) := by
  rw [he] at hv
  split at hv
  ·
   rename_i h0
   obtain ⟨c, A', n', c', rfl, hA', r2, A2, l2, c2, h2, hb2, rfl⟩ := hv
   exact ⟨_, _, r2, A2, l2, c2, by rw [h0], h2, hb2, rfl, .inl ⟨h0, c, A', n', c', rfl, hA', rfl⟩⟩
  rename_i h0
  obtain ⟨rfl, r2, A2, l2, c2, h2, hb2, rfl⟩ := hv
  exact ⟨none, _, r2, A2, l2, c2, rfl, h2, hb2, rfl, .inr ⟨h0, rfl⟩⟩
 refine mvU rfl <| zx rfl <| zx rfl <| tl_e rfl <| e_alloc <| fun b1 => tl_e rfl <| e_sT rfl rfl <| asI rfl <| zq <| .s2 6 7 rfl rfl <| zr2 <| mvI rfl <| tl_y rfl (y_eql rfl rfl) <| zq <| x_condb rfl (fun hc1 => ?_) (fun hc1 => ?_)
 ·
  refine zr <| as0 rfl <| as0 rfl <| zq <| .s2 4 5 rfl rfl <| x_ret (.then_ret ((by
   have he11 : e = 11 := by simpa using hc1
   rcases hcase with ⟨h0, _⟩ | ⟨h0, rfl⟩
   ·
    omega
   exact .dropTo (dL d r2 S (stL sp d n mp :: R)) iI (ret2 rfl rfl rfl hd ⟨r2, h2, .inl ⟨by rw [loadK, he, if_pos he11], rfl, rfl⟩⟩))))
 have he11 : e ≠ 11 := by simpa using hc1
 refine x_skip <| .then_normal <| zr <| mvI rfl <| tl_y rfl (y_neq rfl rfl) <| tl_e rfl (e_call rfl (smust_spec _ _) (by
  rintro _ _ _ _ ⟨rfl, rfl, ht, rfl⟩
  have he6 : e = 6 := by simpa using ht
  rcases hcase with ⟨h0, _⟩ | ⟨h0, rfl⟩
  ·
   omega
  have hl : loadK S i = (6, none) := by rw [loadK, he, if_neg he11, if_pos he6]
  exact TP.dropTo (dL d r2 S (stL sp d n mp :: R)) iI (.retA rfl hd ⟨r2, h2, rfl, by rw [hl]; decide, by rw [hl]⟩)) ?_)
 rintro _ _ _ _ ⟨rfl, rfl, ht⟩
 have he6 : e ≠ 6 := by simpa using ht
 refine zq <| .s2 6 7 rfl rfl <| zr <| mvI rfl <| tl_y rfl (y_eql rfl rfl) <| tl_e rfl (e_call rfl (smust_spec _ _) (by
  rintro _ _ _ _ ⟨rfl, rfl, ht, rfl⟩
  have he0 : e ≠ 0 := by simpa using ht
  rcases hcase with ⟨h0, _⟩ | ⟨h0, rfl⟩
  ·
   omega
  have hl : loadK S i = (8, none) := by rw [loadK, he, if_neg he11, if_neg he6, if_pos he0]
  exact TP.dropTo (dL d r2 S (stL sp d n mp :: R)) iI (.retA rfl hd ⟨r2, h2, rfl, by rw [hl]; decide, by rw [hl]⟩)) ?_)
 rintro _ _ _ _ ⟨rfl, rfl, ht⟩
 have he0 : e = 0 := by simpa using ht
 obtain ⟨_, c, HA, hl, hc, rfl, hH, rfl⟩ : e = 0 ∧ ∃ c A' n' c', P = some ⟨c, 0, none⟩ ∧ Bytes M2 A' n' c' (openC S (sA i)).1.2 ∧ X = cL c (openC S (sA i)).1.1 A' n' c' p :: stL sp d n mp :: R := by
  rcases hcase with h | ⟨h0, _⟩
  ·
   exact h
  omega
 have hlk : loadK S i = if goodH (openC S (sA i)).1.2 ∧ (openC S (sA i)).1.1.total.toNat = totN (lH (openC S (sA i)).1.2) then (0, some ⟨toH (openC S (sA i)).1.2, (openC S (sA i)).1.1, (loadRes S (sA i)).1⟩) else (8, none) := by rw [loadK, he, if_neg he11, if_neg he6, if_neg (by omega)]
 obtain ⟨bs, hbs⟩ : ∃ bs, (openC S (sA i)).1.2 = bs := ⟨_, rfl⟩
 obtain ⟨x, hx⟩ : ∃ x, (openC S (sA i)).1.1 = x := ⟨_, rfl⟩
 rw [hbs, hx] at hlk
 rw [hbs] at hH
 rw [hx]
 have hHl : hl ≤ 1099511627776 := by
  have h1 : (openC S (sA i)).1.2.length ≤ 512 := by
   rw [openC]
   split
   ·
    exact Nat.zero_le _
   rw [readC]
   split
   ·
    exact Nat.zero_le _
   split
   ·
    exact Nat.zero_le _
   show (List.drop 25 _).length ≤ 512
   rw [List.length_drop]; omega
  rw [hbs, hH.size] at h1; omega
 refine zq <| .s1 6 rfl <| zr <| tl_y rfl (y_makeFunc rfl rfl) <| zca rfl (caughtSQ_spec (K := fun nm x' y z M' L' => L' = ptL b1 c :: cL c x HA hl hc p :: dL d r2 S (sL p d (loadRes S (sA i)).1 A2 l2 c2 :: stL sp d n mp :: R) ∧ ParsedAt M' bs nm x' y z 0) (Kp := fun e M' L' => L' = ptL b1 c :: cL c x HA hl hc p :: dL d r2 S (sL p d (loadRes S (sA i)).1 A2 l2 c2 :: stL sp d n mp :: R) ∧ ¬ goodH bs ∧ e = 3) (first := []) (cap := [.pointer (some ⟨b1, 0, none⟩)]) (fun p' q' => Con.to (p' :: q' :: ptL b1 c :: cL c x HA hl hc p :: dL d r2 S (sL p d (loadRes S (sA i)).1 A2 l2 c2 :: stL sp d n mp :: R)) iI (sload1_spec (hg.mono hd) hH hHl))) ?_
 rintro v M3 L3 hM3 hv
 obtain ⟨nm, x', y, z, e', rfl, rfl, hp⟩ : ∃ nm x' y z e', v = .tuple #[.agg (List.toArray (parsC nm x' y z)), .int .i64 e'] ∧ L3 = ptL b1 c :: cL c x HA hl hc p :: dL d r2 S (sL p d (loadRes S (sA i)).1 A2 l2 c2 :: stL sp d n mp :: R) ∧ ParsedAt M3 bs nm x' y z e' := by
  rcases hv with ⟨nm, x, y, z, rfl, rfl, hp⟩ | ⟨e, rfl, rfl, hno, rfl⟩
  ·
   exact ⟨nm, x, y, z, 0, rfl, rfl, hp⟩
  exact ⟨[], nilS, nilS, nilS, 3, rfl, rfl, .inr ⟨hno, rfl, rfl, rfl, rfl, rfl⟩⟩
 replace hd := hd.trans hM3
 have h3 := h2.mono hM3
 refine mvU rfl <| zx rfl <| zx rfl <| tl_e rfl <| e_alloc <| fun b2 => tl_e rfl <| e_sT rfl rfl <| asI rfl <| zq <| .s3 6 7 8 rfl rfl rfl <| x_seq ?_
 have hw : Le M3 M3 := Le.refl _
 refine x_draw 12 hmix rfl <| pmI 0 rfl rfl <| zp 1 rfl rfl (y_eql rfl rfl) <| pmB 2 rfl rfl <| to_casesb (s := 31) rfl (fun hk1 => ?_) (fun hk1 => ?_)
 ·
  obtain ⟨hgood, rfl, rfl, w1, w2, w3⟩ : goodH bs ∧ e' = 0 ∧ nm = nameH bs ∧ Row M3 2 x'.a x'.n x'.c (prow (lH bs)) ∧ Bytes M3 y.a y.n y.c (snH bs) ∧ Bytes M3 z.a z.n z.c (ssH bs) := by
   have h0 : e' = 0 := by simpa using hk1
   rcases hp with h | ⟨_, h, _⟩
   ·
    exact h
   omega
  refine pLd 3 rfl rfl rfl <| pFa 6 rfl rfl <| pLd 7 rfl rfl rfl <| ze 4 rfl rfl <| e_call' rfl (Con.bring c iI (State_spec x)) ?_
  rintro _ _ _ _ ⟨rfl, rfl, rfl⟩
  refine kp ?_
  refine zp 5 rfl rfl (y_field rfl) <| ze 8 rfl rfl <| e_call' rfl (Total_spec (hg.mono hd).hs w1) ?_
  rintro _ M4 _ hM4 ⟨rfl, rfl⟩
  replace hd := hd.trans hM4
  replace hw := hw.trans hM4
  refine ⟨⟨hw, Keeps.mem⟩, ?_⟩
  refine zp 9 rfl rfl (y_eql rfl rfl) <| zp 10 rfl rfl (y_pickT rfl rfl) <| to_e 11 rfl (by kernel_rfl) rfl (e_call rfl (smust_spec _ _) (by
   rintro _ _ _ _ ⟨rfl, rfl, ht, rfl⟩
   have hne : ¬ (goodH bs ∧ x.total.toNat = totN (lH bs)) := by
    have : ¬ ((x.total.toNat : Int) = (totN (lH bs) : Nat)) := by simpa using ht
    omega
   rw [if_neg hne] at hlk
   exact TP.dropTo (dL d r2 S (stL sp d n mp :: R)) iI (.retA rfl hd ⟨r2, h3.mono hM4, rfl, by rw [hlk]; decide, by rw [hlk]⟩)) ?_)
  rintro _ _ _ _ ⟨rfl, rfl, ht⟩
  have htot : x.total.toNat = totN (lH bs) := by
   have : ((x.total.toNat : Int) = (totN (lH bs) : Nat)) := by simpa using ht
   omega
  rw [if_pos ⟨hgood, htot⟩] at hlk
  refine ⟨⟨hw, Keeps.mem⟩, ?_⟩
  refine zz <| .then_normal <| .s2 6 8 rfl rfl <| x_seq <| x_draw 11 hmix rfl <| pFa 0 rfl rfl <| pLd 1 rfl rfl rfl <| pFa 2 rfl rfl <| pLd 3 rfl rfl rfl <| pFa 4 rfl rfl <| zy 5 rfl rfl (y_lg rfl rfl) ?_
  refine pLd 6 rfl rfl rfl <| zp 7 rfl rfl (y_build rfl) <| paT 9 rfl rfl <| ze 8 rfl rfl <| e_box rfl <| fun b3 => kp ?_
  refine paP 10 rfl rfl <| zz <| .then_normal <| .s2 4 5 rfl rfl <| x_ret (.dropTo (dL d r2 S (stL sp d n mp :: kyL b3 x' y z c :: cL c x HA hl hc p :: sL p d (loadRes S (sA i)).1 A2 l2 c2 :: R)) iI (ret2 rfl rfl rfl hd ⟨r2, h3.mono hM4, .inr ⟨_, b3, [kyL b3 x' y z c, cL c x HA hl hc p, sL p d (loadRes S (sA i)).1 A2 l2 c2], hlk, rfl, ⟨c, p, x', y, z, HA, A2, hl, hc, l2, c2, rfl, w1.mono hM4, w2.mono hM4, w3.mono hM4, by
   show Bytes _ _ _ _ (headB (nameH bs) (lH bs) (snH bs) (ssH bs))
   rw [headB_parse hgood.1]; exact hH.mono (hM3.trans hM4), hb2.mono (hM3.trans hM4)⟩, rfl⟩⟩))
 refine zs 3 rfl rfl <| zs 4 rfl rfl <| zs 5 rfl rfl <| zs 6 rfl rfl <| zs 7 rfl rfl <| zs 8 rfl rfl <| zs 9 rfl rfl <| zp 10 rfl rfl (y_pickF rfl rfl) <| to_e 11 rfl (by kernel_rfl) rfl (e_call rfl (smust_spec _ _) (by
  rintro _ _ _ _ ⟨rfl, rfl, ht, rfl⟩
  have hne : ¬ (goodH bs ∧ x.total.toNat = totN (lH bs)) := fun hh => by
   have h0 : e' ≠ 0 := by simpa using hk1
   rcases hp with h | ⟨h, _⟩
   ·
    exact h0 h.2.1
   exact h hh.1
  rw [if_neg hne] at hlk
  exact TP.dropTo (dL d r2 S (stL sp d n mp :: R)) iI (.retA rfl hd ⟨r2, h3, rfl, by rw [hlk]; decide, by rw [hlk]⟩)) ?_)
 rintro _ _ _ _ ⟨rfl, rfl, ht⟩
 refine kp ?_
 refine zz <| .then_normal <| .s2 6 8 rfl rfl <| x_seq <| x_draw 11 hmix rfl <| pFa 0 rfl rfl <| pLd 1 rfl rfl rfl <| pFa 2 rfl rfl <| pLd 3 rfl rfl rfl <| pFa 4 rfl rfl <| zy 5 rfl rfl (y_lg rfl rfl) ?_
 refine pLd 6 rfl rfl rfl <| zp 7 rfl rfl (y_build rfl) <| paT 9 rfl rfl <| ze 8 rfl rfl <| e_box rfl <| fun b4 => kp ?_
 refine paP 10 rfl rfl <| zz <| .then_normal <| .s2 4 5 rfl rfl <| x_ret (absurd ht (by decide))
end
end Go.Proofs.YtplkoemjffplcaaGreatDoor
