/-
Contracts of functions, each proved by a walk through its code.
-/
import Derived.Test.YtplkoemjffplcaaGreatDoorSlotsPureEtc
import Derived.Test.YtplkoemjffplcaaGreatDoorEngNEtc
set_option linter.all false
namespace Go.Proofs.YtplkoemjffplcaaGreatDoor
open Go Go.Eng
structure KeyS where
 h : KeyH
 x : Cn
 s : SS
def KeyS.head (k : KeyS) : List UInt8 := headB k.h.name k.h.l k.h.sn k.h.ss
def toH (bs : List UInt8) : KeyH := ⟨nameH bs, lH bs, snH bs, ssH bs⟩
def sA (i : Nat) : SS := s0 (8 * i) 4
def loadK (S : DS) (i : Nat) : Int × Option KeyS :=
 if (openC S (sA i)).2 = 11 then (0, none) else if (openC S (sA i)).2 = 6 then (6, none) else if (openC S (sA i)).2 ≠ 0 then (8, none) else
 if goodH (openC S (sA i)).1.2 ∧ (openC S (sA i)).1.1.total.toNat = totN (lH (openC S (sA i)).1.2) then (0, some ⟨toH (openC S (sA i)).1.2, (openC S (sA i)).1.1, (loadRes S (sA i)).1⟩) else (8, none)
def hasK (ks : List KeyS) (nm : List UInt8) : Bool := ks.any fun k => decide (k.h.name = nm)
def openGo (S : DS) : Nat → Int × List KeyS
 | 0 => (0, [])
 | i + 1 => if (openGo S i).1 ≠ 0 then openGo S i else if (loadK S i).1 ≠ 0 then ((loadK S i).1, []) else
  match (loadK S i).2 with
  | none => openGo S i
  | some k => if hasK (openGo S i).2 k.h.name then (8, []) else (0, (openGo S i).2 ++ [k])
def areasN (S : DS) : Nat := min (S.sure.length / 8) 8
def openS (S : DS) : Int × List KeyS := if areasN S = 0 then (1, []) else openGo S (areasN S)
def freeGo (S : DS) (nm : List UInt8) : Nat → Int × Int
 | 0 => (0, -1)
 | i + 1 => if (freeGo S nm i).1 ≠ 0 then freeGo S nm i else if (loadK S i).1 ≠ 0 then ((loadK S i).1, -1) else
  match (loadK S i).2 with
  | none => if (freeGo S nm i).2 < 0 then (0, (i : Int)) else freeGo S nm i
  | some k => if k.h.name = nm then (10, -1) else freeGo S nm i
def freeS (S : DS) (nm : List UInt8) (n : Nat) : Int × Int := if (freeGo S nm n).1 ≠ 0 then freeGo S nm n else if (freeGo S nm n).2 < 0 then (12, -1) else freeGo S nm n
theorem openGo_stuck {S : DS} {i : Nat} (h : (openGo S i).1 ≠ 0) : ∀ n, i ≤ n → openGo S n = openGo S i
  | 0, hn => by obtain rfl : i = 0 := by omega
                rfl
  | n + 1, hn => by
    by_cases e : i = n + 1
    ·
      rw [e]
    have ih := openGo_stuck h n (by omega)
    rw [openGo, if_pos (by rw [ih]; exact h), ih]
theorem freeGo_stuck {S : DS} {nm : List UInt8} {i : Nat} (h : (freeGo S nm i).1 ≠ 0) : ∀ n, i ≤ n → freeGo S nm n = freeGo S nm i
  | 0, hn => by obtain rfl : i = 0 := by omega
                rfl
  | n + 1, hn => by
    by_cases e : i = n + 1
    ·
      rw [e]
    have ih := freeGo_stuck h n (by omega)
    rw [freeGo, if_pos (by rw [ih]; exact h), ih]
theorem freeGo_at {S : DS} {nm : List UInt8} : ∀ n, -1 ≤ (freeGo S nm n).2 ∧ (freeGo S nm n).2 < (n : Int) ∨ n = 0 ∧ (freeGo S nm n).2 = -1
 | 0 => .inr ⟨rfl, rfl⟩
 | n + 1 => by
  left
  have ih : -1 ≤ (freeGo S nm n).2 ∧ (freeGo S nm n).2 < ((n + 1 : Nat) : Int) := by rcases freeGo_at (S := S) (nm := nm) n with h | ⟨rfl, h⟩ <;> omega
  rw [freeGo]
  split
  ·
   exact ih
  split
  ·
   exact ⟨Int.le_refl _, by omega⟩
  split
  ·
   split
   ·
    exact ⟨by show (-1 : Int) ≤ (n : Int); omega, by show (n : Int) < _; omega⟩
   exact ih
  split
  ·
   exact ⟨Int.le_refl _, by show (-1 : Int) < _; omega⟩
  exact ih
abbrev stL (sp d n mp : Nat) : Nat × Obj := (sp, .cells #[.pointer (some ⟨d, 0, none⟩), .int .i64 (n : Int), .map (some mp)] 79 (0, 0))
abbrev kyL (kp : Nat) (x y z : SlV) (c : Nat) : Nat × Obj := (kp, .cells #[x.v, y.v, z.v, .pointer (some ⟨c, 0, none⟩)] 100 (0, 0))
def ParsedAt (M : Mem) (bs nm : List UInt8) (x y z : SlV) (e : Int) : Prop := (goodH bs ∧ e = 0 ∧ nm = nameH bs ∧ Row M 2 x.a x.n x.c (prow (lH bs)) ∧ Bytes M y.a y.n y.c (snH bs) ∧ Bytes M z.a z.n z.c (ssH bs)) ∨ (¬ goodH bs ∧ e = 3 ∧ nm = [] ∧ x = nilS ∧ y = nilS ∧ z = nilS)
structure KBl (M : Mem) (d : Nat) (k : KeyS) (kp : Nat) (L : Own) : Prop where
 ex : ∃ (c p : Nat) (x y z : SlV) (HA A0 : Option Addr) (hl hc l0 c0 : Nat), L = [kyL kp x y z c, cL c k.x HA hl hc p, sL p d k.s A0 l0 c0] ∧ Row M 2 x.a x.n x.c (prow k.h.l) ∧ Bytes M y.a y.n y.c k.h.sn ∧ Bytes M z.a z.n z.c k.h.ss ∧ Bytes M HA hl hc k.head ∧ Bytes M A0 l0 c0 k.s.b
section
variable {G : World} {M : Mem} {L R : Own}
end
section
variable {G : World} {M : Mem} {L R : Own} {sp d n mp : Nat} {S : DS} {r : DRep}
theorem sarea_spec (h : IsDisk M r S) {i : Nat} (hi : i < n) (hn : 8 * n ≤ S.sure.length) :
  Con Tryz.prog 35 #[.pointer (some ⟨sp, 0, none⟩), .int .i64 (i : Int)] G M (dL d r S (stL sp d n mp :: R)) (fun v M' L' => ∃ p, v = .pointer (some ⟨p, 0, none⟩) ∧ SK p d S (sA i) (stL sp d n mp :: R) M' L') noPanic := by
 have hsz := h.sz
 have hsn := h.sn
 refine zfn Tryz.func35 rfl 21 rfl <| zr <| as0 rfl <| zq <| zr <| mvP rfl <| zc rfl <| tFa rfl <| tLd rfl rfl <| mvI rfl <| tl_y rfl (y_mulI rfl rfl (by omega)) <| tl_y rfl (y_mulI rfl rfl (by omega)) ?_
 rw [show (i : Int) * 2 * 4 = ((8 * i : Nat) : Int) by omega]
 refine zca rfl (sNew_ok h (8 * i) 4 (by omega) (by omega)) ?_
 rintro _ M1 _ hM1 ⟨p, rfl, hk⟩
 refine mvU rfl <| zx rfl <| zx rfl <| asP rfl <| asI rfl <| zq <| .s2 5 6 rfl rfl <| zr <| mvI rfl <| zca rfl ((swell_spec 0).mono (fun _ _ _ _ h => h) (fun _ _ _ _ h => absurd rfl h.2.2.1)) ?_
 rintro _ _ _ _ ⟨rfl, rfl, _⟩
 refine zq <| zr <| mvP rfl <| asP rfl <| zq <| .s1 4 rfl <| x_ret (ret1 rfl rfl hM1 ⟨p, rfl, hk⟩)
abbrev ptL (b c : Nat) : Nat × Obj := (b, .cells #[.pointer (some ⟨c, 0, none⟩)] 89 (0, 0))
theorem sload1_spec (hg : LmG M) {b c p hl hc : Nat} {HA : Option Addr} {x : Cn} {bs : List UInt8} (h : Bytes M HA hl hc bs) (hn : hl ≤ 1099511627776) {p' q' : Nat × Obj} :
  Con Tryz.prog 80 #[.pointer (some ⟨b, 0, none⟩)] G M (p' :: q' :: ptL b c :: cL c x HA hl hc p :: R) (fun v M' L' => ∃ L1, L' = p' :: q' :: L1 ∧ ∃ nm x' y z, v = .agg (List.toArray (parsC nm x' y z)) ∧ (L1 = ptL b c :: cL c x HA hl hc p :: R ∧ ParsedAt M' bs nm x' y z 0)) (fun ch M' L' => ∃ L1, L' = p' :: q' :: L1 ∧ ∃ e, (L1 = ptL b c :: cL c x HA hl hc p :: R ∧ ¬ goodH bs ∧ e = 3) ∧ ch = swrong e) := by
 obtain ⟨pb, po⟩ := p'
 obtain ⟨qb, qo⟩ := q'
 refine zfn Tryz.func80 rfl 5 rfl <| zr <| tl_e rfl <| e_alloc <| fun b1 => zq <| zr <| tLd rfl rfl <| zca rfl (Con.bring c iI (Head_spec x h (by omega))) ?_
 rintro _ M1 _ hM1 ⟨rfl, A1, c1, rfl, h1⟩
 refine tl_e rfl (e_call rfl (sparse_spec (hg.mono hM1) h1 hn) (by
  rintro _ M2 _ hM2 ⟨rfl, hno, rfl⟩
  exact TP.dropTo ((pb, po) :: (qb, qo) :: ptL b c :: cL c x HA hl hc p :: R) iI (.retA rfl (hM1.trans hM2) ⟨_, rfl, 3, ⟨rfl, hno, rfl⟩, rfl⟩)) ?_)
 rintro _ M2 _ hM2 ⟨rfl, hgood, x', y, z, rfl, k1, k2, k3⟩
 refine tl_e rfl <| e_sT rfl rfl <| zq <| .s1 1 rfl <| x_ret (retRV (L' := (pb, po) :: (qb, qo) :: ptL b c :: cL c x HA hl hc p :: R) (rv1 rfl (rc_cellAgg (by rfl) rfl (.own iI iI))) iI (hM1.trans hM2) ⟨_, rfl, _, x', y, z, rfl, rfl, .inl ⟨hgood, rfl, rfl, k1, k2, k3⟩⟩)
theorem sload_spec (hg : LmG M) (hsh : ShaG M) (h : IsDisk M r S) {i : Nat} (hi : i < n) (hn : 8 * n ≤ S.sure.length) :
  Con Tryz.prog 31 #[.pointer (some ⟨sp, 0, none⟩), .int .i64 (i : Int)] G M (dL d r S (stL sp d n mp :: R))
   (fun v M' L' => ∃ r', IsDisk M' r' S ∧ ((loadK S i = (0, none) ∧ v = .tuple #[.string ⟨#[]⟩, .pointer none] ∧ L' = dL d r' S (stL sp d n mp :: R)) ∨ (∃ k kp B, loadK S i = (0, some k) ∧ v = .tuple #[.string (sB k.h.name), .pointer (some ⟨kp, 0, none⟩)] ∧ KBl M' d k kp B ∧ L' = dL d r' S (stL sp d n mp :: (B ++ R)))))
   (fun ch M' L' => ∃ r', IsDisk M' r' S ∧ L' = dL d r' S (stL sp d n mp :: R) ∧ (loadK S i).1 ≠ 0 ∧ ch = swrong (loadK S i).1) := by
 have hok : OkS S (sA i) := okS0 (by omega) (by omega)
 refine zfn Tryz.func31 rfl 50 rfl <| zr <| as0 rfl <| as0 rfl <| zq <| zr <| mvP rfl <| mvI rfl <| zca rfl (sarea_spec h hi hn) ?_
 rintro _ M1 _ hM1 ⟨p, rfl, r1, A1, l1, c1, h1, hb1, rfl⟩
 have hd := hM1
 refine zca rfl (cOpen_spec (hsh.mono hd) h1 hok hb1) ?_
 rintro v M2 L2 hM2 hv
 replace hd := hd.trans hM2
 have hlb : (loadRes S (sA i)).1.b.length + 28 ≤ 512 := by have := (loadRes_ok hok).b; have := (loadRes_ok hok).n; omega
 obtain ⟨e, he⟩ : ∃ e, (openC S (sA i)).2 = e := ⟨_, rfl⟩
 obtain ⟨P, X, r2, A2, l2, c2, rfl, h2, hb2, rfl, hcase⟩ : ∃ P X r2 A2 l2 c2, v = .tuple #[.pointer P, .int .i64 e] ∧ IsDisk M2 r2 S ∧ Bytes M2 A2 l2 c2 (loadRes S (sA i)).1.b ∧ L2 = dL d r2 S (sL p d (loadRes S (sA i)).1 A2 l2 c2 :: X) ∧ ((e = 0 ∧ ∃ c A' n' c', P = some ⟨c, 0, none⟩ ∧ Bytes M2 A' n' c' (openC S (sA i)).1.2 ∧ X = cL c (openC S (sA i)).1.1 A' n' c' p :: stL sp d n mp :: R) ∨ (e ≠ 0 ∧ X = stL sp d n mp :: R)) := by
  rw [he] at hv
  split at hv
  ·
   rename_i h0
   obtain ⟨c, A', n', c', rfl, hA', r2, A2, l2, c2, h2, hb2, rfl⟩ := hv
   exact ⟨_, _, r2, A2, l2, c2, by rw [h0], h2, hb2, rfl, .inl ⟨h0, c, A', n', c', rfl, hA', rfl⟩⟩
  rename_i h0
  obtain ⟨rfl, r2, A2, l2, c2, h2, hb2, rfl⟩ := hv
  exact ⟨none, _, r2, A2, l2, c2, rfl, h2, hb2, rfl, .inr ⟨h0, rfl⟩⟩
 refine mvU rfl <| zx rfl <| zx rfl <| tl_e rfl <| e_alloc <| fun b1 => tl_e rfl <| e_sT rfl rfl <| asI rfl <| zq <| .s2 6 7 rfl rfl <| zr2 <| mvI rfl <| tl_y rfl (y_eql rfl rfl) <| zq <| x_condb rfl (fun hc1 => ?_) (fun hc1 => ?_)
 ·
  refine zr <| as0 rfl <| as0 rfl <| zq <| .s2 4 5 rfl rfl <| x_ret (.then_ret ((by
   have he11 : e = 11 := by simpa using hc1
   rcases hcase with ⟨h0, _⟩ | ⟨h0, rfl⟩
   ·
    omega
   exact .dropTo (dL d r2 S (stL sp d n mp :: R)) iI (ret2 rfl rfl rfl hd ⟨r2, h2, .inl ⟨by rw [loadK, he, if_pos he11], rfl, rfl⟩⟩))))
 have he11 : e ≠ 11 := by simpa using hc1
 refine x_skip <| .then_normal <| zr <| mvI rfl <| tl_y rfl (y_neq rfl rfl) <| tl_e rfl (e_call rfl (smust_spec _ _) (by
  rintro _ _ _ _ ⟨rfl, rfl, ht, rfl⟩
  have he6 : e = 6 := by simpa using ht
  rcases hcase with ⟨h0, _⟩ | ⟨h0, rfl⟩
  ·
   omega
  have hl : loadK S i = (6, none) := by rw [loadK, he, if_neg he11, if_pos he6]
  exact TP.dropTo (dL d r2 S (stL sp d n mp :: R)) iI (.retA rfl hd ⟨r2, h2, rfl, by rw [hl]; decide, by rw [hl]⟩)) ?_)
 rintro _ _ _ _ ⟨rfl, rfl, ht⟩
 have he6 : e ≠ 6 := by simpa using ht
 refine zq <| .s2 6 7 rfl rfl <| zr <| mvI rfl <| tl_y rfl (y_eql rfl rfl) <| tl_e rfl (e_call rfl (smust_spec _ _) (by
  rintro _ _ _ _ ⟨rfl, rfl, ht, rfl⟩
  have he0 : e ≠ 0 := by simpa using ht
  rcases hcase with ⟨h0, _⟩ | ⟨h0, rfl⟩
  ·
   omega
  have hl : loadK S i = (8, none) := by rw [loadK, he, if_neg he11, if_neg he6, if_pos he0]
  exact TP.dropTo (dL d r2 S (stL sp d n mp :: R)) iI (.retA rfl hd ⟨r2, h2, rfl, by rw [hl]; decide, by rw [hl]⟩)) ?_)
 rintro _ _ _ _ ⟨rfl, rfl, ht⟩
 have he0 : e = 0 := by simpa using ht
 obtain ⟨_, c, HA, hl, hc, rfl, hH, rfl⟩ : e = 0 ∧ ∃ c A' n' c', P = some ⟨c, 0, none⟩ ∧ Bytes M2 A' n' c' (openC S (sA i)).1.2 ∧ X = cL c (openC S (sA i)).1.1 A' n' c' p :: stL sp d n mp :: R := by
  rcases hcase with h | ⟨h0, _⟩
  ·
   exact h
  omega
 have hlk : loadK S i = if goodH (openC S (sA i)).1.2 ∧ (openC S (sA i)).1.1.total.toNat = totN (lH (openC S (sA i)).1.2) then (0, some ⟨toH (openC S (sA i)).1.2, (openC S (sA i)).1.1, (loadRes S (sA i)).1⟩) else (8, none) := by rw [loadK, he, if_neg he11, if_neg he6, if_neg (by omega)]
 obtain ⟨bs, hbs⟩ : ∃ bs, (openC S (sA i)).1.2 = bs := ⟨_, rfl⟩
 obtain ⟨x, hx⟩ : ∃ x, (openC S (sA i)).1.1 = x := ⟨_, rfl⟩
 rw [hbs, hx] at hlk
 rw [hbs] at hH
 rw [hx]
 have hHl : hl ≤ 1099511627776 := by
  have h1 : (openC S (sA i)).1.2.length ≤ 512 := by
   rw [openC]
   split
   ·
    exact Nat.zero_le _
   rw [readC]
   split
   ·
    exact Nat.zero_le _
   split
   ·
    exact Nat.zero_le _
   show (List.drop 25 _).length ≤ 512
   rw [List.length_drop]; omega
  rw [hbs, hH.size] at h1; omega
 refine zq <| .s1 6 rfl <| zr <| tl_y rfl (y_makeFunc rfl rfl) <| zca rfl (caughtSQ_spec (K := fun nm x' y z M' L' => L' = ptL b1 c :: cL c x HA hl hc p :: dL d r2 S (sL p d (loadRes S (sA i)).1 A2 l2 c2 :: stL sp d n mp :: R) ∧ ParsedAt M' bs nm x' y z 0) (Kp := fun e M' L' => L' = ptL b1 c :: cL c x HA hl hc p :: dL d r2 S (sL p d (loadRes S (sA i)).1 A2 l2 c2 :: stL sp d n mp :: R) ∧ ¬ goodH bs ∧ e = 3) (first := []) (cap := [.pointer (some ⟨b1, 0, none⟩)]) (fun p' q' => Con.to (p' :: q' :: ptL b1 c :: cL c x HA hl hc p :: dL d r2 S (sL p d (loadRes S (sA i)).1 A2 l2 c2 :: stL sp d n mp :: R)) iI (sload1_spec (hg.mono hd) hH hHl))) ?_
 rintro v M3 L3 hM3 hv
 obtain ⟨nm, x', y, z, e', rfl, rfl, hp⟩ : ∃ nm x' y z e', v = .tuple #[.agg (List.toArray (parsC nm x' y z)), .int .i64 e'] ∧ L3 = ptL b1 c :: cL c x HA hl hc p :: dL d r2 S (sL p d (loadRes S (sA i)).1 A2 l2 c2 :: stL sp d n mp :: R) ∧ ParsedAt M3 bs nm x' y z e' := by
  rcases hv with ⟨nm, x, y, z, rfl, rfl, hp⟩ | ⟨e, rfl, rfl, hno, rfl⟩
  ·
   exact ⟨nm, x, y, z, 0, rfl, rfl, hp⟩
  exact ⟨[], nilS, nilS, nilS, 3, rfl, rfl, .inr ⟨hno, rfl, rfl, rfl, rfl, rfl⟩⟩
 replace hd := hd.trans hM3
 have h3 := h2.mono hM3
 refine mvU rfl <| zx rfl <| zx rfl <| tl_e rfl <| e_alloc <| fun b2 => tl_e rfl <| e_sT rfl rfl <| asI rfl <| zq <| .s3 6 7 8 rfl rfl rfl <| x_seq ?_
 have hw : Le M3 M3 := Le.refl _
 refine x_draw 12 hmix rfl <| pmI 0 rfl rfl <| zp 1 rfl rfl (y_eql rfl rfl) <| pmB 2 rfl rfl <| to_casesb (s := 31) rfl (fun hk1 => ?_) (fun hk1 => ?_)
 ·
  obtain ⟨hgood, rfl, rfl, w1, w2, w3⟩ : goodH bs ∧ e' = 0 ∧ nm = nameH bs ∧ Row M3 2 x'.a x'.n x'.c (prow (lH bs)) ∧ Bytes M3 y.a y.n y.c (snH bs) ∧ Bytes M3 z.a z.n z.c (ssH bs) := by
   have h0 : e' = 0 := by simpa using hk1
   rcases hp with h | ⟨_, h, _⟩
   ·
    exact h
   omega
  refine pLd 3 rfl rfl rfl <| pFa 6 rfl rfl <| pLd 7 rfl rfl rfl <| ze 4 rfl rfl <| e_call' rfl (Con.bring c iI (State_spec x)) ?_
  rintro _ _ _ _ ⟨rfl, rfl, rfl⟩
  refine kp ?_
  refine zp 5 rfl rfl (y_field rfl) <| ze 8 rfl rfl <| e_call' rfl (Total_spec (hg.mono hd).hs w1) ?_
  rintro _ M4 _ hM4 ⟨rfl, rfl⟩
  replace hd := hd.trans hM4
  replace hw := hw.trans hM4
  refine ⟨⟨hw, Keeps.mem⟩, ?_⟩
  refine zp 9 rfl rfl (y_eql rfl rfl) <| zp 10 rfl rfl (y_pickT rfl rfl) <| to_e 11 rfl (by kernel_rfl) rfl (e_call rfl (smust_spec _ _) (by
   rintro _ _ _ _ ⟨rfl, rfl, ht, rfl⟩
   have hne : ¬ (goodH bs ∧ x.total.toNat = totN (lH bs)) := by
    have : ¬ ((x.total.toNat : Int) = (totN (lH bs) : Nat)) := by simpa using ht
    omega
   rw [if_neg hne] at hlk
   exact TP.dropTo (dL d r2 S (stL sp d n mp :: R)) iI (.retA rfl hd ⟨r2, h3.mono hM4, rfl, by rw [hlk]; decide, by rw [hlk]⟩)) ?_)
  rintro _ _ _ _ ⟨rfl, rfl, ht⟩
  have htot : x.total.toNat = totN (lH bs) := by
   have : ((x.total.toNat : Int) = (totN (lH bs) : Nat)) := by simpa using ht
   omega
  rw [if_pos ⟨hgood, htot⟩] at hlk
  refine ⟨⟨hw, Keeps.mem⟩, ?_⟩
  refine zz <| .then_normal <| .s2 6 8 rfl rfl <| x_seq <| x_draw 11 hmix rfl <| pFa 0 rfl rfl <| pLd 1 rfl rfl rfl <| pFa 2 rfl rfl <| pLd 3 rfl rfl rfl <| pFa 4 rfl rfl <| zy 5 rfl rfl (y_lg rfl rfl) ?_
  refine pLd 6 rfl rfl rfl <| zp 7 rfl rfl (y_build rfl) <| paT 9 rfl rfl <| ze 8 rfl rfl <| e_box rfl <| fun b3 => kp ?_
  refine paP 10 rfl rfl <| zz <| .then_normal <| .s2 4 5 rfl rfl <| x_ret (.dropTo (dL d r2 S (stL sp d n mp :: kyL b3 x' y z c :: cL c x HA hl hc p :: sL p d (loadRes S (sA i)).1 A2 l2 c2 :: R)) iI (ret2 rfl rfl rfl hd ⟨r2, h3.mono hM4, .inr ⟨_, b3, [kyL b3 x' y z c, cL c x HA hl hc p, sL p d (loadRes S (sA i)).1 A2 l2 c2], hlk, rfl, ⟨c, p, x', y, z, HA, A2, hl, hc, l2, c2, rfl, w1.mono hM4, w2.mono hM4, w3.mono hM4, by
   show Bytes _ _ _ _ (headB (nameH bs) (lH bs) (snH bs) (ssH bs))
   rw [headB_parse hgood.1]; exact hH.mono (hM3.trans hM4), hb2.mono (hM3.trans hM4)⟩, rfl⟩⟩))
 refine zs 3 rfl rfl <| zs 4 rfl rfl <| zs 5 rfl rfl <| zs 6 rfl rfl <| zs 7 rfl rfl <| zs 8 rfl rfl <| zs 9 rfl rfl <| zp 10 rfl rfl (y_pickF rfl rfl) <| to_e 11 rfl (by kernel_rfl) rfl (e_call rfl (smust_spec _ _) (by
  rintro _ _ _ _ ⟨rfl, rfl, ht, rfl⟩
  have hne : ¬ (goodH bs ∧ x.total.toNat = totN (lH bs)) := fun hh => by
   have h0 : e' ≠ 0 := by simpa using hk1
   rcases hp with h | ⟨h, _⟩
   ·
    exact h0 h.2.1
   exact h hh.1
  rw [if_neg hne] at hlk
  exact TP.dropTo (dL d r2 S (stL sp d n mp :: R)) iI (.retA rfl hd ⟨r2, h3, rfl, by rw [hlk]; decide, by rw [hlk]⟩)) ?_)
 rintro _ _ _ _ ⟨rfl, rfl, ht⟩
 refine kp ?_
 refine zz <| .then_normal <| .s2 6 8 rfl rfl <| x_seq <| x_draw 11 hmix rfl <| pFa 0 rfl rfl <| pLd 1 rfl rfl rfl <| pFa 2 rfl rfl <| pLd 3 rfl rfl rfl <| pFa 4 rfl rfl <| zy 5 rfl rfl (y_lg rfl rfl) ?_
 refine pLd 6 rfl rfl rfl <| zp 7 rfl rfl (y_build rfl) <| paT 9 rfl rfl <| ze 8 rfl rfl <| e_box rfl <| fun b4 => kp ?_
 refine paP 10 rfl rfl <| zz <| .then_normal <| .s2 4 5 rfl rfl <| x_ret (absurd ht (by decide))
end
theorem sB_inj {a b : List UInt8} : sB a = sB b ↔ a = b := ⟨fun h => by have := congrArg (fun s => s.data.toList) h; exact this, fun h => by rw [h]⟩
def kvsK (ks : List (KeyS × Nat)) : List (ByteArray × Value) := ks.map fun q => (sB q.1.h.name, .pointer (some ⟨q.2, 0, none⟩))
def findP : List (KeyS × Nat) → List UInt8 → Option (KeyS × Nat)
 | [], _ => none
 | q :: r, nm => if q.1.h.name = nm then some q else findP r nm
theorem mFind_none {nm : List UInt8} : ∀ {ks : List (KeyS × Nat)} {j : Nat}, findP ks nm = none → mFind (kvsK ks) (sB nm) j = none
 | [], _, _ => rfl
 | q :: r, j, h => by
  by_cases e : q.1.h.name = nm
  ·
   simp [findP, e] at h
  rw [findP, if_neg e] at h
  show (if sB q.1.h.name = sB nm then _ else mFind (kvsK r) (sB nm) (j + 1)) = none
  rw [if_neg (fun h => e (sB_inj.1 h))]; exact mFind_none h
theorem mFind_some {nm : List UInt8} {q : KeyS × Nat} : ∀ {ks : List (KeyS × Nat)} {j : Nat}, findP ks nm = some q → ∃ i, mFind (kvsK ks) (sB nm) j = some (i, .pointer (some ⟨q.2, 0, none⟩))
 | [], _, h => by cases h
 | q' :: r, j, h => by
  by_cases e : q'.1.h.name = nm
  ·
   rw [findP, if_pos e] at h
   obtain rfl : q' = q := by simpa using h
   exact ⟨j, by
    show (if sB q'.1.h.name = sB nm then _ else _) = _
    rw [if_pos (sB_inj.2 e)]⟩
  rw [findP, if_neg e] at h
  obtain ⟨i, hi⟩ := mFind_some (j := j + 1) h
  exact ⟨i, by
   show (if sB q'.1.h.name = sB nm then _ else mFind (kvsK r) (sB nm) (j + 1)) = _
   rw [if_neg (fun h => e (sB_inj.1 h))]; exact hi⟩
theorem findP_mem {nm : List UInt8} {q : KeyS × Nat} : ∀ {ks : List (KeyS × Nat)}, findP ks nm = some q → q ∈ ks ∧ q.1.h.name = nm
 | [], h => by cases h
 | q' :: r, h => by
  by_cases e : q'.1.h.name = nm
  ·
   rw [findP, if_pos e] at h
   obtain rfl : q' = q := by simpa using h
   exact ⟨List.mem_cons_self, e⟩
  rw [findP, if_neg e] at h
  obtain ⟨h1, h2⟩ := findP_mem h
  exact ⟨List.mem_cons_of_mem _ h1, h2⟩
section
variable {G : World} {M : Mem} {L R : Own} {sp d n mp : Nat} {S : DS} {r : DRep}
theorem ofNo_spec {nm : List UInt8} {ks : List (KeyS × Nat)} [hs : Has L sp (stL sp d n mp).2] [hm : Has L mp (mapO (kvsK ks))] (hf : findP ks nm = none) :
  Con Tryz.prog 44 #[.pointer (some ⟨sp, 0, none⟩), .string (sB nm)] G M L (fun v M' L' => False) (fun ch M' L' => M = M' ∧ L = L' ∧ ch = swrong 11) := by
 refine zfn Tryz.func44 rfl 19 rfl <| zr <| as0 rfl <| zq <| zr <| mvP rfl <| zc rfl <| tFa rfl <| tLd rfl rfl <| mvT rfl <| tl_y rfl (y_lookupNo rfl rfl hm (mFind_none hf)) <| mvU rfl <| zx rfl <| zx rfl <| asP rfl <| asB rfl <| zq <| .s2 5 6 rfl rfl <| zr <| mvB rfl <| tl_e rfl (e_call rfl (smust_spec _ _) (by
  rintro _ _ _ _ ⟨rfl, rfl, _, rfl⟩
  exact .retA rfl lR ⟨rfl, rfl, rfl⟩) ?_)
 rintro _ _ _ _ ⟨rfl, rfl, ht⟩
 refine zq <| zr <| mvP rfl <| asP rfl <| zq <| .s1 4 rfl <| x_ret (absurd ht (by decide))
theorem ofYes_spec {nm : List UInt8} {ks : List (KeyS × Nat)} {q : KeyS × Nat} [hs : Has L sp (stL sp d n mp).2] [hm : Has L mp (mapO (kvsK ks))] (hf : findP ks nm = some q) :
  Con Tryz.prog 44 #[.pointer (some ⟨sp, 0, none⟩), .string (sB nm)] G M L (fun v M' L' => M = M' ∧ L = L' ∧ v = .pointer (some ⟨q.2, 0, none⟩)) noPanic := by
 obtain ⟨i, hi⟩ := mFind_some (j := 0) hf
 refine zfn Tryz.func44 rfl 19 rfl <| zr <| as0 rfl <| zq <| zr <| mvP rfl <| zc rfl <| tFa rfl <| tLd rfl rfl <| mvT rfl <| tl_y rfl (y_lookupYes rfl rfl hm hi) <| mvU rfl <| zx rfl <| zx rfl <| asP rfl <| asB rfl <| zq <| .s2 5 6 rfl rfl <| zr <| mvB rfl <| zca rfl ((smust_spec true 11).mono (fun _ _ _ _ h => h) (fun _ _ _ _ h => absurd h.2.2.1 (by decide))) ?_
 rintro _ _ _ _ ⟨rfl, rfl, _⟩
 refine zq <| zr <| mvP rfl <| asP rfl <| zq <| .s1 4 rfl <| x_ret (ret1 rfl rfl lR ⟨rfl, rfl, rfl⟩)
theorem sof_spec {nm : List UInt8} {ks : List (KeyS × Nat)} [hs : Has L sp (stL sp d n mp).2] [hm : Has L mp (mapO (kvsK ks))] :
  Con Tryz.prog 44 #[.pointer (some ⟨sp, 0, none⟩), .string (sB nm)] G M L (fun v M' L' => M = M' ∧ L = L' ∧ ∃ q, findP ks nm = some q ∧ v = .pointer (some ⟨q.2, 0, none⟩)) (fun ch M' L' => M = M' ∧ L = L' ∧ findP ks nm = none ∧ ch = swrong 11) := by
 cases hf : findP ks nm with
 | none => exact (ofNo_spec hf).mono (fun _ _ _ _ h => h.elim) (fun _ _ _ _ h => ⟨h.1, h.2.1, rfl, h.2.2⟩)
 | some q => exact (ofYes_spec hf).mono (fun _ _ _ _ h => ⟨h.1, h.2.1, q, rfl, h.2.2⟩) (fun _ _ _ _ h => h.elim)
theorem sfree_spec (hg : LmG M) (hsh : ShaG M) (h : IsDisk M r S) (nm : List UInt8) (hn : 8 * n ≤ S.sure.length) :
  Con Tryz.prog 36 #[.pointer (some ⟨sp, 0, none⟩), .string (sB nm)] G M (dL d r S (stL sp d n mp :: R))
   (fun v M' L' => ∃ r', IsDisk M' r' S ∧ L' = dL d r' S (stL sp d n mp :: R) ∧ (freeS S nm n).1 = 0 ∧ v = .int .i64 (freeS S nm n).2)
   (fun ch M' L' => ∃ r', IsDisk M' r' S ∧ L' = dL d r' S (stL sp d n mp :: R) ∧ (freeS S nm n).1 ≠ 0 ∧ ch = swrong (freeS S nm n).1) := by
 have hsz := h.sz
 have stuck : ∀ k, k + 1 ≤ n → (freeGo S nm (k + 1)).1 ≠ 0 → freeS S nm n = freeGo S nm (k + 1) := fun k hk hh => by
  have := freeGo_stuck hh n hk
  rw [freeS, this, if_pos hh]
 refine zfn Tryz.func36 rfl 42 rfl <| zr <| as0 rfl <| zq <| zr <| as0 rfl <| zq <| zr2 <| mvP rfl <| zc rfl <| tFa rfl <| tLd rfl rfl <| mv0 rfl <| zq <| .s5 0 1 5 12 13 rfl rfl rfl rfl rfl <| x_block ?_
 refine x_loop (I := fun m' F D M7 L7 => ∃ (k : Nat) (r7 : DRep), m' = n - k ∧ k ≤ n ∧ Le M M7 ∧ IsDisk M7 r7 S ∧ (freeGo S nm k).1 = 0 ∧ D = [] ∧ L7 = dL d r7 S (stL sp d n mp :: R) ∧ F = [(0, .pointer (some ⟨sp, 0, none⟩)), (1, .string (sB nm)), (5, .int .i64 (freeGo S nm k).2), (12, .int .i64 n), (13, .int .i64 k)]) (n) (F0 := [(0, _), (1, _), (5, _), (12, _), (13, _)]) ?_ (cs5 rfl rfl rfl rfl rfl) ?_
 ·
  exact ⟨0, r, rfl, by omega, Le.refl _, h, rfl, rfl, rfl, rfl⟩
 rintro m _ _ M7 L7 ⟨k, r7, rfl, hk, hM7, h7, hz, rfl, rfl, rfl⟩
 refine zr <| tl_y rfl (y_lss rfl rfl) <| zq <| x_seq <| x_cond rfl (fun hc1 => ?_) (fun hc1 => ?_)
 ·
  have hkn : k < n := by omega
  obtain ⟨a, ha⟩ : ∃ a, (freeGo S nm k).2 = a := ⟨_, rfl⟩
  rw [ha]
  have hgo : freeGo S nm (k + 1) = if (loadK S k).1 ≠ 0 then ((loadK S k).1, -1) else match (loadK S k).2 with | none => if a < 0 then (0, (k : Int)) else freeGo S nm k | some x => if x.h.name = nm then (10, -1) else freeGo S nm k := by rw [freeGo, if_neg (by omega), ha] <;> rfl
  have hst := stuck k (by omega)
  refine x_skip <| .then_normal <| x_seq <| x_block <| zr <| mvI rfl <| asI rfl <| zq <| zr <| mvP rfl <| mvI rfl <| tl_e rfl (e_call rfl (sload_spec (hg.mono hM7) (hsh.mono hM7) h7 hkn hn) (by
   rintro _ M8 _ hM8 ⟨r8, h8, rfl, hno, rfl⟩
   rw [if_pos hno] at hgo
   have e := hst (by rw [hgo]; exact hno)
   exact .retA rfl (hM7.trans hM8) ⟨r8, h8, rfl, by rw [e, hgo]; exact hno, by rw [e, hgo]⟩) ?_)
  rintro v M8 L8 hM8 ⟨r8, h8, hv⟩
  replace hM8 := hM7.trans hM8
  obtain ⟨NM, P, E, rfl, rfl, hcase⟩ : ∃ NM P E, v = .tuple #[.string NM, .pointer P] ∧ L8 = dL d r8 S (stL sp d n mp :: (E ++ R)) ∧ ((loadK S k = (0, none) ∧ P.isNone = true) ∨ (∃ x, loadK S k = (0, some x) ∧ NM = sB x.h.name ∧ P.isNone = false)) := by
   rcases hv with ⟨h1, rfl, rfl⟩ | ⟨x, kp, B, h1, rfl, _, rfl⟩
   ·
    exact ⟨_, _, [], rfl, rfl, .inl ⟨h1, rfl⟩⟩
   exact ⟨_, _, B, rfl, rfl, .inr ⟨x, h1, rfl, rfl⟩⟩
  refine mvU rfl <| zx rfl <| zx rfl <| asT rfl <| asP rfl <| zq <| .s8 0 1 5 6 7 8 12 13 rfl rfl rfl rfl rfl rfl rfl rfl <| zr <| mvP rfl <| tl_y rfl (y_eqNilPtr rfl rfl) <| mvB rfl <| tl_casesb (s := 24) rfl (fun hk1 => ?_) (fun hk1 => ?_)
  ·
   have hl : loadK S k = (0, none) := by
    rcases hcase with h | ⟨_, _, _, h⟩
    ·
     exact h.1
    rw [h] at hk1; cases hk1
   rw [hl, if_neg (by simp)] at hgo
   change freeGo S nm (k + 1) = if a < 0 then (0, (k : Int)) else freeGo S nm k at hgo
   refine sk3 rfl rfl rfl <| tPt rfl rfl <| zca rfl ((smust_spec _ _).mono (fun _ _ _ _ h => h) (fun _ _ _ _ h => absurd h.2.2.1 (by decide))) ?_
   rintro _ _ _ _ ⟨rfl, rfl, _⟩
   refine zq <| .s7 0 1 5 6 8 12 13 rfl rfl rfl rfl rfl rfl rfl <| zr <| mvP rfl <| tl_y rfl (y_eqNilPtr rfl rfl) <| mvB rfl <| tl_casesb (s := 32) rfl (fun hk2 => ?_) (fun hk2 => ?_)
   ·
    refine mvI rfl <| tl_y rfl (y_lss rfl rfl) <| tPt rfl rfl <| zq <| .s7 0 1 5 6 12 13 35 rfl rfl rfl rfl rfl rfl rfl <| x_condb rfl (fun hc2 => ?_) (fun hc2 => ?_)
    ·
     rw [if_pos (by simpa using hc2)] at hgo
     refine x_region <| mvI rfl <| asI rfl <| tl_nil <| .block_normal <| .then_normal <| x_region <| tl_y rfl (y_addI rfl rfl (by omega)) <| mvI rfl <| .dropTo (dL d r8 S (stL sp d n mp :: R)) iI <| tl_nil <| .loop_next (m' := n - (k + 1)) (by omega) (F' := [(0, _), (1, _), (5, _), (12, _), (13, _)]) (cs5 rfl rfl rfl rfl rfl) ?_
     exact ⟨k + 1, r8, rfl, by omega, hM8, h8, by rw [hgo], rfl, rfl, by rw [hgo]; rfl⟩
    rw [if_neg (by simpa using hc2)] at hgo
    refine x_skip <| .block_normal <| .then_normal <| x_region <| tl_y rfl (y_addI rfl rfl (by omega)) <| mvI rfl <| .dropTo (dL d r8 S (stL sp d n mp :: R)) iI <| tl_nil <| .loop_next (m' := n - (k + 1)) (by omega) (F' := [(0, _), (1, _), (5, _), (12, _), (13, _)]) (cs5 rfl rfl rfl rfl rfl) ?_
    exact ⟨k + 1, r8, rfl, by omega, hM8, h8, by rw [hgo]; exact hz, rfl, rfl, by rw [hgo, ha]; rfl⟩
   refine sk2 rfl rfl <| tPf rfl rfl <| zq <| .s7 0 1 5 6 12 13 35 rfl rfl rfl rfl rfl rfl rfl <| x_false rfl rfl <| x_skip <| .block_normal <| .then_normal <| x_region <| tl_y rfl (y_addI rfl rfl (by omega)) <| mvI rfl <| tl_nil <| .loop_next (m' := n - (k + 1)) (by omega) (F' := [(0, _), (1, _), (5, _), (12, _), (13, _)]) (cs5 rfl rfl rfl rfl rfl) ?_
   exact absurd hk1 (by rw [hk2]; decide)
  obtain ⟨x, hl, rfl, hPf⟩ : ∃ x, loadK S k = (0, some x) ∧ NM = sB x.h.name ∧ P.isNone = false := by
   rcases hcase with h | h
   ·
    rw [h.2] at hk1; cases hk1
   exact h
  rw [hl, if_neg (by simp)] at hgo
  change freeGo S nm (k + 1) = if x.h.name = nm then (10, -1) else freeGo S nm k at hgo
  refine mvT rfl <| mvT rfl <| tl_y rfl (y_neqStr rfl rfl) <| tPf rfl rfl <| tl_e rfl (e_call rfl (smust_spec _ _) (by
   rintro _ _ _ _ ⟨rfl, rfl, ht, rfl⟩
   have hnm : x.h.name = nm := by
    have : sB x.h.name = sB nm := by simpa using ht
    exact sB_inj.1 this
   rw [if_pos hnm] at hgo
   have e := hst (by rw [hgo]; decide)
   exact TP.dropTo (dL d r8 S (stL sp d n mp :: R)) iI (.retA rfl hM8 ⟨r8, h8, rfl, by rw [e, hgo]; decide, by rw [e, hgo]⟩)) ?_)
  rintro _ _ _ _ ⟨rfl, rfl, ht⟩
  have hnm : ¬ x.h.name = nm := fun e => by
   have : ¬ (sB x.h.name = sB nm) := by simpa using ht
   exact this (by rw [e])
  rw [if_neg hnm] at hgo
  refine zq <| .s7 0 1 5 6 8 12 13 rfl rfl rfl rfl rfl rfl rfl <| zr <| mvP rfl <| tl_y rfl (y_eqNilPtr rfl rfl) <| mvB rfl <| tl_casesb (s := 32) rfl (fun hk3 => ?_) (fun hk3 => ?_)
  ·
   refine mvI rfl <| tl_y rfl (y_lss rfl rfl) <| tPt rfl rfl <| zq <| .s7 0 1 5 6 12 13 35 rfl rfl rfl rfl rfl rfl rfl <| x_condb rfl (fun hc3 => ?_) (fun hc3 => ?_)
   ·
    refine x_region <| mvI rfl <| asI rfl <| tl_nil <| .block_normal <| .then_normal <| x_region <| tl_y rfl (y_addI rfl rfl (by omega)) <| mvI rfl <| tl_nil <| .loop_next (m' := n - (k + 1)) (by omega) (F' := [(0, _), (1, _), (5, _), (12, _), (13, _)]) (cs5 rfl rfl rfl rfl rfl) ?_
    exact absurd hPf (by rw [hk3]; decide)
   refine x_skip <| .block_normal <| .then_normal <| x_region <| tl_y rfl (y_addI rfl rfl (by omega)) <| mvI rfl <| tl_nil <| .loop_next (m' := n - (k + 1)) (by omega) (F' := [(0, _), (1, _), (5, _), (12, _), (13, _)]) (cs5 rfl rfl rfl rfl rfl) ?_
   exact absurd hPf (by rw [hk3]; decide)
  refine sk2 rfl rfl <| tPf rfl rfl <| zq <| .s7 0 1 5 6 12 13 35 rfl rfl rfl rfl rfl rfl rfl <| x_false rfl rfl <| x_skip <| .block_normal <| .then_normal <| x_region <| tl_y rfl (y_addI rfl rfl (by omega)) <| mvI rfl <| .dropTo (dL d r8 S (stL sp d n mp :: R)) iI <| tl_nil <| .loop_next (m' := n - (k + 1)) (by omega) (F' := [(0, _), (1, _), (5, _), (12, _), (13, _)]) (cs5 rfl rfl rfl rfl rfl) ?_
  exact ⟨k + 1, r8, rfl, by omega, hM8, h8, by rw [hgo]; exact hz, rfl, rfl, by rw [hgo, ha]; rfl⟩
 obtain rfl : k = n := by omega
 refine x_exit <| .then_exit <| .loop_exit <| .block_exit <| .then_normal <| .s1 5 rfl <| zr <| mvI rfl <| tl_y rfl (y_geq rfl rfl) <| tl_e rfl (e_call rfl (smust_spec _ _) (by
  rintro _ _ _ _ ⟨rfl, rfl, ht, rfl⟩
  have hlt : (freeGo S nm k).2 < 0 := by simpa using ht
  have e : freeS S nm k = (12, -1) := by rw [freeS, if_neg (by omega), if_pos hlt]
  exact .retA rfl hM7 ⟨r7, h7, rfl, by rw [e]; decide, by rw [e]⟩) ?_)
 rintro _ _ _ _ ⟨rfl, rfl, ht⟩
 have hge : ¬ (freeGo S nm k).2 < 0 := by
  have : (0 : Int) ≤ (freeGo S nm k).2 := by simpa using ht
  omega
 have e : freeS S nm k = freeGo S nm k := by rw [freeS, if_neg (by omega), if_neg hge]
 refine zq <| zr <| mvI rfl <| asI rfl <| zq <| .s1 4 rfl <| x_ret (ret1 rfl rfl hM7 ⟨r7, h7, rfl, by rw [e]; exact hz, by rw [e]⟩)
end
theorem KBl.mono {M M' : Mem} {d kp : Nat} {k : KeyS} {B : Own} (h : KBl M d k kp B) (hle : Le M M') : KBl M' d k kp B := by
 obtain ⟨c, p, x, y, z, HA, A0, hl, hc, l0, c0, e, h1, h2, h3, h4, h5⟩ := h.ex
 exact ⟨c, p, x, y, z, HA, A0, hl, hc, l0, c0, e, h1.mono hle, h2.mono hle, h3.mono hle, h4.mono hle, h5.mono hle⟩
inductive KeysAt (M : Mem) (d : Nat) : List (KeyS × Nat) → Own → Prop
 | nil : KeysAt M d [] []
 | cons {k : KeyS} {kp : Nat} {ks : List (KeyS × Nat)} {B E E' : Own} : KBl M d k kp B → KeysAt M d ks E → E'.Perm (B ++ E) → KeysAt M d ((k, kp) :: ks) E'
theorem KeysAt.mono {M M' : Mem} {d : Nat} (hle : Le M M') {ks : List (KeyS × Nat)} {E : Own} (h : KeysAt M d ks E) : KeysAt M' d ks E := by
 induction h with
 | nil => exact .nil
 | cons h1 _ h3 ih => exact .cons (h1.mono hle) ih h3
theorem perm_mid {α : Type} (A B C : List α) : (A ++ (B ++ C)).Perm (B ++ (A ++ C)) := by
 rw [← List.append_assoc, ← List.append_assoc]; exact List.Perm.append_right _ List.perm_append_comm
theorem KeysAt.snoc {M : Mem} {d : Nat} {ks : List (KeyS × Nat)} {E : Own} (h : KeysAt M d ks E) {k : KeyS} {kp : Nat} {B : Own} (hb : KBl M d k kp B) : KeysAt M d (ks ++ [(k, kp)]) (B ++ E) := by
 induction h with
 | nil => exact .cons hb .nil (List.Perm.refl _)
 | @cons k0 kp0 ks B0 E0 E' h1 h2 h3 ih => exact .cons h1 ih ((h3.append_left B).trans (perm_mid _ _ _))
def lookP (ks : List (KeyS × Nat)) (nm : List UInt8) : Option Addr := (findP ks nm).map fun q => ⟨q.2, 0, none⟩
def hasP (ks : List (KeyS × Nat)) (nm : List UInt8) : Bool := (findP ks nm).isSome
theorem hasP_eq (nm : List UInt8) : ∀ ks : List (KeyS × Nat), hasK (ks.map (·.1)) nm = hasP ks nm
 | [] => rfl
 | q :: r => by
  have ih := hasP_eq nm r
  by_cases e : q.1.h.name = nm
  ·
   simp [hasK, hasP, findP, e]
  rw [hasP, findP, if_neg e, ← hasP, ← ih]; simp [hasK, e]
theorem y_lookK {P : Program} {F : Fr} {M : Mem} {L : Own} {ty t kt et e : TypeId} {z0 zk : Value} {s0 b0 s b sk bk : Nat} [ti : TI P t (.map kt et) z0 s0 b0] [tk : TI P kt .string zk sk bk] [te : TI P et (.pointer e) (.pointer none) s b] {x y : Operand} {m : Nat} {nm : List UInt8} {ks : List (KeyS × Nat)}
  (hx : ev F x = some (.map (some m))) (hy : ev F y = some (.string (sB nm))) (hm : Has L m (mapO (kvsK ks))) :
  Yld P (.lookup t x y true) ty F M L (.tuple #[.pointer (lookP ks nm), .bool (hasP ks nm)]) := by
 cases hf : findP ks nm with
 | none =>
  have := y_lookupNo (P := P) (ty := ty) (F := F) (M := M) (t := t) (kt := kt) (et := et) (te := te) hx hy hm (mFind_none hf)
  rw [lookP, hasP, hf]; exact this
 | some q =>
  obtain ⟨i, hi⟩ := mFind_some (j := 0) hf
  have := y_lookupYes (P := P) (ty := ty) (F := F) (M := M) (t := t) (kt := kt) (et := et) (te := te) hx hy hm hi
  rw [lookP, hasP, hf]; exact this
abbrev dkL (b d : Nat) : Nat × Obj := (b, .cells #[.pointer (some ⟨d, 0, none⟩)] 24 (0, 0))
abbrev mpL (mp : Nat) (ks : List (KeyS × Nat)) : Nat × Obj := (mp, mapO (kvsK ks))
section
variable {G : World} {M : Mem} {L R : Own} {d : Nat} {S : DS} {r : DRep}
theorem sOpen1_spec (hg : LmG M) (hsh : ShaG M) (h : IsDisk M r S) {bd : Nat} {p' q' : Nat × Obj} :
  Con Tryz.prog 29 #[.pointer (some ⟨bd, 0, none⟩)] G M (p' :: q' :: dkL bd d :: dL d r S R)
   (fun v M' L' => ∃ L1, L' = p' :: q' :: L1 ∧ ∃ sp, v = .pointer (some ⟨sp, 0, none⟩) ∧ ∃ mp r' ks E, IsDisk M' r' S ∧ openS S = (0, ks.map (·.1)) ∧ KeysAt M' d ks E ∧ L1 = dkL bd d :: dL d r' S (stL sp d (areasN S) mp :: mpL mp ks :: (E ++ R)))
   (fun ch M' L' => ∃ L1, L' = p' :: q' :: L1 ∧ ∃ e, (∃ r', IsDisk M' r' S ∧ L1 = dkL bd d :: dL d r' S R ∧ (openS S).1 ≠ 0 ∧ e = (openS S).1) ∧ ch = swrong e) := by
 obtain ⟨pb, po⟩ := p'
 obtain ⟨qb, qo⟩ := q'
 have hsz := h.sz
 have hmin : (if (8 : Int) < (S.sure.length : Int) / 8 then (8 : Int) else (S.sure.length : Int) / 8) = ((areasN S : Nat) : Int) := by
  rw [areasN]; split <;> omega
 have han : 8 * areasN S ≤ S.sure.length := by rw [areasN]; omega
 have ha8 : areasN S ≤ 8 := by rw [areasN]; omega
 have stuck : ∀ k, k + 1 ≤ areasN S → (openGo S (k + 1)).1 ≠ 0 → openS S = openGo S (k + 1) := fun k hk hh => by
  rw [openS, if_neg (by omega), openGo_stuck hh _ hk]
 refine zfn Tryz.func29 rfl 58 rfl <| zr <| as0 rfl <| zq <| x_seq <| x_meet (I := fun F D M2 L2 => ∃ sp mp, F = [(2, .pointer (some ⟨sp, 0, none⟩))] ∧ D = [] ∧ Le M M2 ∧ DropTo L2 (dL d r S (stL sp d (areasN S) mp :: (mp, mapO []) :: (pb, po) :: (qb, qo) :: dkL bd d :: R))) ?_ (fun Jd1 => ?_)
 ·
  rintro _ _ M2 L2 ⟨sp, mp, rfl, rfl, hM2, hdr⟩
  refine .dropTo _ hdr ?_
  refine zr <| mvP rfl <| zc rfl <| tFa rfl <| tLd rfl rfl <| tl_y rfl (y_gtr rfl rfl) <| tl_e rfl (e_call rfl (smust_spec _ _) (by
   rintro _ _ _ _ ⟨rfl, rfl, ht, rfl⟩
   have h0 : areasN S = 0 := by
    have : (areasN S : Int) ≤ 0 := by simpa using ht
    omega
   have e : openS S = (1, []) := by rw [openS, if_pos h0]
   exact TP.dropTo ((pb, po) :: (qb, qo) :: dkL bd d :: dL d r S R) iI (.retA rfl hM2 ⟨_, rfl, 1, ⟨r, h.mono hM2, rfl, by rw [e]; decide, by rw [e]⟩, rfl⟩)) ?_)
  rintro _ _ _ _ ⟨rfl, rfl, ht⟩
  have h0 : areasN S ≠ 0 := by
   have : (0 : Int) < (areasN S : Int) := by simpa using ht
   omega
  obtain ⟨n, hn⟩ : ∃ n, areasN S = n := ⟨_, rfl⟩
  rw [hn] at stuck han ha8
  rw [hn]
  refine zq <| .s1 2 rfl <| zr2 <| mvP rfl <| zc rfl <| tFa rfl <| tLd rfl rfl <| mv0 rfl <| zq <| x_block ?_
  refine x_loop (I := fun m' F D M7 L7 => ∃ (k : Nat) (r7 : DRep) (ks : List (KeyS × Nat)) (E : Own), m' = n - k ∧ k ≤ n ∧ Le M M7 ∧ IsDisk M7 r7 S ∧ openGo S k = (0, ks.map (·.1)) ∧ KeysAt M7 d ks E ∧ D = [] ∧ L7 = dL d r7 S (stL sp d n mp :: mpL mp ks :: (E ++ ((pb, po) :: (qb, qo) :: dkL bd d :: R))) ∧ F = [(2, .pointer (some ⟨sp, 0, none⟩)), (26, .int .i64 n), (27, .int .i64 k)]) (n) (F0 := [(2, _), (26, _), (27, _)]) ?_ (cs3 rfl rfl rfl) ?_
  ·
   exact ⟨0, r, [], [], rfl, by omega, hM2, h.mono hM2, rfl, .nil, rfl, rfl, rfl⟩
  rintro m _ _ M7 L7 ⟨k, r7, ks, E, rfl, hk, hM7, h7, hz, hE, rfl, rfl, rfl⟩
  refine zr <| tl_y rfl (y_lss rfl rfl) <| zq <| x_seq <| x_cond rfl (fun hc1 => ?_) (fun hc1 => ?_)
  ·
   have hkn : k < n := by omega
   have hgo : openGo S (k + 1) = if (loadK S k).1 ≠ 0 then ((loadK S k).1, []) else match (loadK S k).2 with | none => openGo S k | some x => if hasK (ks.map (·.1)) x.h.name then (8, []) else (0, ks.map (·.1) ++ [x]) := by rw [openGo, hz, if_neg (by simp)] <;> rfl
   have hst := stuck k (by omega)
   refine x_skip <| .then_normal <| x_seq <| x_block <| zr <| mvI rfl <| asI rfl <| zq <| zr <| mvP rfl <| mvI rfl <| tl_e rfl (e_call rfl (sload_spec (hg.mono hM7) (hsh.mono hM7) h7 hkn han) (by
    rintro _ M8 _ hM8 ⟨r8, h8, rfl, hno, rfl⟩
    rw [if_pos hno] at hgo
    have e := hst (by rw [hgo]; exact hno)
    exact TP.dropTo ((pb, po) :: (qb, qo) :: dkL bd d :: dL d r8 S R) iI (.retA rfl (hM7.trans hM8) ⟨_, rfl, _, ⟨r8, h8, rfl, by rw [e, hgo]; exact hno, by rw [e, hgo]⟩, rfl⟩)) ?_)
   rintro v M8 L8 hM8 ⟨r8, h8, hv⟩
   obtain ⟨NM, P, B, rfl, rfl, hcase⟩ : ∃ NM P B, v = .tuple #[.string NM, .pointer P] ∧ L8 = dL d r8 S (stL sp d n mp :: (B ++ (mpL mp ks :: (E ++ ((pb, po) :: (qb, qo) :: dkL bd d :: R))))) ∧ ((loadK S k = (0, none) ∧ P.isNone = true) ∨ (∃ x kp, loadK S k = (0, some x) ∧ NM = sB x.h.name ∧ P = some ⟨kp, 0, none⟩ ∧ KBl M8 d x kp B)) := by
    rcases hv with ⟨h1, rfl, rfl⟩ | ⟨x, kp, B, h1, rfl, hB, rfl⟩
    ·
     exact ⟨_, _, [], rfl, rfl, .inl ⟨h1, rfl⟩⟩
    exact ⟨_, _, B, rfl, rfl, .inr ⟨x, kp, h1, rfl, rfl, hB⟩⟩
   replace hE := hE.mono hM8
   replace hM8 := hM7.trans hM8
   refine mvU rfl <| zx rfl <| zx rfl <| asT rfl <| asP rfl <| zq <| .s5 2 4 5 26 27 rfl rfl rfl rfl rfl <| zr2 <| mvP rfl <| tl_y rfl (y_eqNilPtr rfl rfl) <| zq <| x_condb rfl (fun hc2 => ?_) (fun hc2 => ?_)
   ·
    have hl : loadK S k = (0, none) := by
     rcases hcase with h | ⟨_, _, _, _, h, _⟩
     ·
      exact h.1
     rw [h] at hc2; cases hc2
    rw [hl, if_neg (by simp)] at hgo
    change openGo S (k + 1) = openGo S k at hgo
    refine x_exit <| .then_exit <| .block_exit <| .then_normal <| .s3 2 26 27 rfl rfl rfl <| x_region <| tl_y rfl (y_addI rfl rfl (by omega)) <| mvI rfl <| .dropTo (dL d r8 S (stL sp d n mp :: mpL mp ks :: (E ++ ((pb, po) :: (qb, qo) :: dkL bd d :: R)))) iI <| tl_nil <| .loop_next (m' := n - (k + 1)) (by omega) (F' := [(2, _), (26, _), (27, _)]) (cs3 rfl rfl rfl) ?_
    exact ⟨k + 1, r8, ks, E, rfl, by omega, hM8, h8, by rw [hgo]; exact hz, hE, rfl, rfl, rfl⟩
   obtain ⟨x, kp, hl, rfl, rfl, hB⟩ : ∃ x kp, loadK S k = (0, some x) ∧ NM = sB x.h.name ∧ P = some ⟨kp, 0, none⟩ ∧ KBl M8 d x kp B := by
    rcases hcase with h | h
    ·
     rw [h.2] at hc2; cases hc2
    exact h
   rw [hl, if_neg (by simp)] at hgo
   change openGo S (k + 1) = if hasK (ks.map (·.1)) x.h.name then (8, []) else (0, ks.map (·.1) ++ [x]) at hgo
   rw [hasP_eq] at hgo
   refine x_skip <| .then_normal <| zr <| mvP rfl <| zc rfl <| tFa rfl <| tLd rfl rfl <| mvT rfl <| tl_y rfl (y_lookK rfl rfl iI) <| mvU rfl <| zx rfl <| zx rfl <| asP rfl <| asB rfl <| zq <| .s6 2 4 5 7 26 27 rfl rfl rfl rfl rfl rfl <| zr <| mvB rfl <| tl_y rfl (y_not rfl) <| tl_e rfl (e_call rfl (smust_spec _ _) (by
    rintro _ _ _ _ ⟨rfl, rfl, ht, rfl⟩
    rw [if_pos (by simpa using ht)] at hgo
    have e := hst (by rw [hgo]; decide)
    exact TP.dropTo ((pb, po) :: (qb, qo) :: dkL bd d :: dL d r8 S R) iI (.retA rfl hM8 ⟨_, rfl, _, ⟨r8, h8, rfl, by rw [e, hgo]; decide, by rw [e, hgo]⟩, rfl⟩)) ?_)
   rintro _ _ _ _ ⟨rfl, rfl, ht⟩
   have hno : hasP ks x.h.name = false := by simpa using ht
   rw [if_neg (by rw [hno]; decide)] at hgo
   have hfn : findP ks x.h.name = none := by rw [hasP] at hno; simpa using hno
   have hms : mSet (kvsK ks) (sB x.h.name) (.pointer (some ⟨kp, 0, none⟩)) = kvsK (ks ++ [(x, kp)]) := by rw [mSet_none (j := 0) (mFind_none hfn), kvsK, kvsK, List.map_append]; rfl
   refine zq <| .s5 2 4 5 26 27 rfl rfl rfl rfl rfl <| x_region <| mvP rfl <| zc rfl <| tFa rfl <| tLd rfl rfl <| mvT rfl <| mvP rfl <| tl_e rfl <| e_mapUpdate rfl rfl rfl iI iI <| tl_nil <| .block_normal <| .then_normal <| .s3 2 26 27 rfl rfl rfl <| x_region <| tl_y rfl (y_addI rfl rfl (by omega)) <| mvI rfl ?_
   rw [hms]
   refine .dropTo (dL d r8 S (stL sp d n mp :: mpL mp (ks ++ [(x, kp)]) :: (B ++ (E ++ ((pb, po) :: (qb, qo) :: dkL bd d :: R))))) iI <| tl_nil <| .loop_next (m' := n - (k + 1)) (by omega) (F' := [(2, _), (26, _), (27, _)]) (cs3 rfl rfl rfl) ?_
   exact ⟨k + 1, r8, ks ++ [(x, kp)], B ++ E, rfl, by omega, hM8, h8, by rw [hgo, List.map_append]; rfl, hE.snoc hB, rfl, by rw [List.append_assoc], rfl⟩
  obtain rfl : k = n := by omega
  have hop : openS S = (0, ks.map (·.1)) := by rw [openS, if_neg h0, hn, hz]
  refine x_exit <| .then_exit <| .loop_exit <| .block_exit <| .then_normal <| zr <| mvP rfl <| asP rfl <| zq <| .s1 1 rfl <| x_ret (.to ((pb, po) :: (qb, qo) :: dkL bd d :: dL d r7 S (stL sp d k mp :: mpL mp ks :: (E ++ R))) iI (ret1 rfl rfl hM7 ⟨_, rfl, sp, rfl, mp, r7, ks, E, h7, hop, hE, rfl⟩))
 have he : Le M M := Le.refl _
 refine x_draw0 10 (dkL bd d :: []) Keeps.mem hmix rfl <| pLd 0 rfl rfl rfl <| pLd 1 rfl rfl rfl <| to_two 2 6 (by kernel_rfl) ?_ ?_
 ·
  refine two_e 2 rfl rfl <| e_call' rfl (Con.to (dL d r S ((pb, po) :: (qb, qo) :: dkL bd d :: R)) iI (Sure_spec h)) ?_
  rintro _ M1 _ hM1 ⟨rfl, A1, n1, c1, vs1, rfl, hr1, hb1⟩
  have hn1 : n1 = S.sure.length := by have := hr1.len; have := hb1.len; omega
  subst hn1
  replace he := he.trans hM1
  refine ⟨⟨he, Keeps.mem⟩, ?_⟩
  refine zp 3 rfl rfl (y_len rfl) <| zp 4 rfl rfl (y_quoI rfl rfl (by omega)) <| zp 5 rfl rfl (y_min rfl rfl) <| ze 6 rfl rfl <| e_makeMap <| fun b1 => kp ?_
  refine zp 7 rfl rfl (y_build rfl) <| ze 8 rfl rfl <| e_box rfl <| fun b2 => ?_
  rw [hmin]
  refine kp ?_
  refine paP 9 rfl rfl <| zz <| .then_normal <| .sub (F' := [(2, _)]) (.cons rfl .nil) <| Jd1 _ _ _ _ ?_
  exact by first | exact ⟨b2, b1, rfl, rfl, he, iI⟩ | exact ⟨b4, b3, rfl, rfl, he, iI⟩
 refine two_e 6 rfl rfl <| e_makeMap <| fun b3 => kp ?_
 refine ze 2 rfl rfl <| e_call' rfl (Con.to (dL d r S ((b3, mapO []) :: (pb, po) :: (qb, qo) :: dkL bd d :: R)) iI (Sure_spec h)) ?_
 rintro _ M1 _ hM1 ⟨rfl, A1, n1, c1, vs1, rfl, hr1, hb1⟩
 have hn1 : n1 = S.sure.length := by have := hr1.len; have := hb1.len; omega
 subst hn1
 replace he := he.trans hM1
 refine ⟨⟨he, Keeps.mem⟩, ?_⟩
 refine zp 3 rfl rfl (y_len rfl) <| zp 4 rfl rfl (y_quoI rfl rfl (by omega)) <| zp 5 rfl rfl (y_min rfl rfl) <| zp 7 rfl rfl (y_build rfl) <| ze 8 rfl rfl <| e_box rfl <| fun b4 => ?_
 rw [hmin]
 refine kp ?_
 refine paP 9 rfl rfl <| zz <| .then_normal <| .sub (F' := [(2, _)]) (.cons rfl .nil) <| Jd1 _ _ _ _ ?_
 exact by first | exact ⟨b2, b1, rfl, rfl, he, iI⟩ | exact ⟨b4, b3, rfl, rfl, he, iI⟩
theorem sOpen_spec (hg : LmG M) (hsh : ShaG M) (h : IsDisk M r S) :
  Con Tryz.prog 9 #[.pointer (some ⟨d, 0, none⟩)] G M (dL d r S R)
   (fun v M' L' => (∃ sp mp r' ks E, openS S = (0, ks.map (·.1)) ∧ v = .tuple #[.pointer (some ⟨sp, 0, none⟩), .int .i64 0] ∧ IsDisk M' r' S ∧ KeysAt M' d ks E ∧ L' = dL d r' S (stL sp d (areasN S) mp :: mpL mp ks :: (E ++ R))) ∨ (∃ r', (openS S).1 ≠ 0 ∧ v = .tuple #[.pointer none, .int .i64 (openS S).1] ∧ IsDisk M' r' S ∧ L' = dL d r' S R)) noPanic := by
 refine zfn Tryz.func9 rfl 8 rfl <| zr <| tl_e rfl <| e_box rfl <| fun b1 => as0 rfl <| as0 rfl <| zq <| zr <| tl_y rfl (y_makeFunc rfl rfl) <| zca rfl (caughtSP_spec (K := fun sp M' L1 => ∃ (mp : Nat) (r' : DRep) (ks : List (KeyS × Nat)) (E : Own), IsDisk M' r' S ∧ openS S = (0, ks.map (·.1)) ∧ KeysAt M' d ks E ∧ L1 = dkL b1 d :: dL d r' S (stL sp d (areasN S) mp :: mpL mp ks :: (E ++ R))) (Kp := fun e M' L1 => ∃ r', IsDisk M' r' S ∧ L1 = dkL b1 d :: dL d r' S R ∧ (openS S).1 ≠ 0 ∧ e = (openS S).1) (first := []) (cap := [.pointer (some ⟨b1, 0, none⟩)]) (fun p' q' => sOpen1_spec hg hsh h)) ?_
 rintro v M1 L1 hM1 hv
 obtain ⟨P, e, rfl, hw⟩ : ∃ P e, v = .tuple #[.pointer P, .int .i64 e] ∧ ((∃ (sp mp : Nat) (r' : DRep) (ks : List (KeyS × Nat)) (E : Own), openS S = (0, ks.map (·.1)) ∧ P = some ⟨sp, 0, none⟩ ∧ e = 0 ∧ IsDisk M1 r' S ∧ KeysAt M1 d ks E ∧ L1 = dkL b1 d :: dL d r' S (stL sp d (areasN S) mp :: mpL mp ks :: (E ++ R))) ∨ (∃ r', (openS S).1 ≠ 0 ∧ P = none ∧ e = (openS S).1 ∧ IsDisk M1 r' S ∧ L1 = dkL b1 d :: dL d r' S R)) := by
  rcases hv with ⟨sp, rfl, mp, r', ks, E, h1, h2, h3, rfl⟩ | ⟨e, rfl, r', h1, rfl, h2, rfl⟩
  ·
   exact ⟨_, _, rfl, .inl ⟨sp, mp, r', ks, E, h2, rfl, rfl, h1, h3, rfl⟩⟩
  exact ⟨_, _, rfl, .inr ⟨r', h2, rfl, rfl, h1, rfl⟩⟩
 refine zx rfl <| zx rfl <| asP rfl <| asI rfl <| zq <| .s2 2 3 rfl rfl <| x_ret ((by
  rcases hw with ⟨sp, mp, r', ks, E, h2, rfl, rfl, h1, h3, rfl⟩ | ⟨r', h2, rfl, rfl, h1, rfl⟩
  ·
   exact .dropTo (dL d r' S (stL sp d (areasN S) mp :: mpL mp ks :: (E ++ R))) iI (ret2 rfl rfl rfl hM1 (.inl ⟨sp, mp, r', ks, E, h2, rfl, h1, h3, rfl⟩))
  exact .dropTo (dL d r' S R) iI (ret2 rfl rfl rfl hM1 (.inr ⟨r', h2, rfl, h1, rfl⟩))))
end
def setP : List (KeyS × Nat) → KeyS × Nat → List (KeyS × Nat)
 | [], q => [q]
 | q0 :: r, q => if q0.1.h.name = q.1.h.name then q :: r else q0 :: setP r q
theorem mSet_kvs (q : KeyS × Nat) : ∀ ks : List (KeyS × Nat), mSet (kvsK ks) (sB q.1.h.name) (.pointer (some ⟨q.2, 0, none⟩)) = kvsK (setP ks q)
 | [] => rfl
 | q0 :: r => by
  have ih := mSet_kvs q r
  show (if sB q0.1.h.name = sB q.1.h.name then _ else _ :: mSet (kvsK r) _ _) = _
  by_cases e : q0.1.h.name = q.1.h.name
  ·
   rw [if_pos (sB_inj.2 e), setP, if_pos e]; rfl
  rw [if_neg (fun h => e (sB_inj.1 h)), setP, if_neg e, ih]; rfl
theorem KeysAt.set {M : Mem} {d : Nat} {ks : List (KeyS × Nat)} {E : Own} (h : KeysAt M d ks E) {k : KeyS} {kp : Nat} {B : Own} (hb : KBl M d k kp B) : ∃ E' K, KeysAt M d (setP ks (k, kp)) E' ∧ (B ++ E).Perm (K ++ E') := by
 induction h with
 | nil => exact ⟨B, [], .cons hb .nil (by simp), by simp⟩
 | @cons k0 kp0 ks B0 E0 E1 h1 h2 h3 ih =>
  by_cases e : k0.h.name = k.h.name
  ·
   refine ⟨B ++ E0, B0, ?_, (h3.append_left B).trans (perm_mid _ _ _)⟩
   rw [setP, if_pos e]; exact .cons hb h2 (List.Perm.refl _)
  obtain ⟨E', K, h4, h5⟩ := ih
  refine ⟨B0 ++ E', K, ?_, ((h3.append_left B).trans (perm_mid _ _ _)).trans ((h5.append_left B0).trans (perm_mid _ _ _))⟩
  rw [setP, if_neg e]; exact .cons h1 h4 (List.Perm.refl _)
theorem setP_map (q : KeyS × Nat) : ∀ ks : List (KeyS × Nat), findP ks q.1.h.name = none → setP ks q = ks ++ [q]
 | [], _ => rfl
 | q0 :: r, h => by
  by_cases e : q0.1.h.name = q.1.h.name
  ·
   simp [findP, e] at h
  rw [findP, if_neg e] at h
  rw [setP, if_neg e, setP_map q r h]; rfl
def createS (S : DS) (n : Nat) (h : KeyH) (batch : UInt64) : (DS × Option KeyS) × Int :=
 if ¬ (mayK h.name.length h.l h.sn.length h.ss.length ∧ 1 ≤ batch.toNat ∧ batch.toNat ≤ 65536) then ((S, none), 1) else
 if (freeS S h.name n).1 ≠ 0 then ((S, none), (freeS S h.name n).1) else
 if (newC S (sA (freeS S h.name n).2.toNat) (headB h.name h.l h.sn h.ss) (UInt64.ofNat (totN h.l)) batch).2 ≠ 0 then
  (((newC S (sA (freeS S h.name n).2.toNat) (headB h.name h.l h.sn h.ss) (UInt64.ofNat (totN h.l)) batch).1.1, none), (newC S (sA (freeS S h.name n).2.toNat) (headB h.name h.l h.sn h.ss) (UInt64.ofNat (totN h.l)) batch).2)
 else (((newC S (sA (freeS S h.name n).2.toNat) (headB h.name h.l h.sn h.ss) (UInt64.ofNat (totN h.l)) batch).1.1, some ⟨h, newX (UInt64.ofNat (totN h.l)) batch, (newC S (sA (freeS S h.name n).2.toNat) (headB h.name h.l h.sn h.ss) (UInt64.ofNat (totN h.l)) batch).1.2⟩), 0)
theorem freeS_at {S : DS} {nm : List UInt8} {n : Nat} (h : (freeS S nm n).1 = 0) : ∃ a : Nat, (freeS S nm n).2 = (a : Int) ∧ a < n := by
 unfold freeS at h ⊢
 split at h
 ·
  rename_i h1; exact absurd h h1
 rename_i h1
 rw [if_neg h1]
 split at h
 ·
  cases h
 rename_i h2
 rw [if_neg h2]
 have := freeGo_at (S := S) (nm := nm) n
 exact ⟨(freeGo S nm n).2.toNat, by omega, by omega⟩
abbrev psL (b sp : Nat) : Nat × Obj := (b, .cells #[.pointer (some ⟨sp, 0, none⟩)] 28 (0, 0))
abbrev nmL (b : Nat) (nm : List UInt8) : Nat × Obj := (b, .cells #[.string (sB nm)] 9 (0, 0))
abbrev lvL (b : Nat) (A : Option Addr) (n c : Nat) : Nat × Obj := (b, .cells #[.slice A n c] 31 (0, 0))
abbrev sdL (b : Nat) (NA : Option Addr) (nl nc : Nat) (SA : Option Addr) (sl_ sc : Nat) : Nat × Obj := (b, .cells (List.toArray (seedC NA nl nc SA sl_ sc)) 33 (0, 0))
abbrev btL (b : Nat) (x : UInt64) : Nat × Obj := (b, .cells #[.int .u64 (x.toNat : Int)] 38 (0, 0))
section
variable {G : World} {M : Mem} {L R : Own} {sp d n mp : Nat} {S : DS} {r : DRep} {NA SA : Option Addr} {nl nc sl_ sc : Nat} {sn ss nm : List UInt8}
theorem sCreate1_spec (hg : LmG M) (hsh : ShaG M) (h : IsDisk M r S) (hn : 8 * n ≤ S.sure.length) {B : Nat} (hw : S.within B) (hB : B ≤ 1000000) {ks : List (KeyS × Nat)} {E : Own} (hE : KeysAt M d ks E) {A : Option Addr} {ln lc : Nat} {l : List PairV} (hl : Row M 2 A ln lc (prow l)) (hname : Bytes M NA nl nc sn) (hsec : Bytes M SA sl_ sc ss) (x : UInt64) {c1 c2 c3 c4 c5 : Nat} {p' q' : Nat × Obj} :
  Con Tryz.prog 33 #[.pointer (some ⟨c2, 0, none⟩), .pointer (some ⟨c3, 0, none⟩), .pointer (some ⟨c4, 0, none⟩), .pointer (some ⟨c5, 0, none⟩), .pointer (some ⟨c1, 0, none⟩)] G M (p' :: q' :: btL c5 x :: sdL c4 NA nl nc SA sl_ sc :: lvL c3 A ln lc :: nmL c2 nm :: psL c1 sp :: dL d r S (stL sp d n mp :: mpL mp ks :: (E ++ R)))
   (fun v M' L' => ∃ L1, L' = p' :: q' :: L1 ∧ ∃ t, v = .bool t ∧ ∃ S' k kp r' E', createS S n ⟨nm, l, sn, ss⟩ x = ((S', some k), 0) ∧ IsDisk M' r' S' ∧ KeysAt M' d (setP ks (k, kp)) E' ∧ L1 = btL c5 x :: sdL c4 NA nl nc SA sl_ sc :: lvL c3 A ln lc :: nmL c2 nm :: psL c1 sp :: dL d r' S' (stL sp d n mp :: mpL mp (setP ks (k, kp)) :: (E' ++ R)))
   (fun ch M' L' => ∃ L1, L' = p' :: q' :: L1 ∧ ∃ e, (∃ S' r', createS S n ⟨nm, l, sn, ss⟩ x = ((S', none), e) ∧ e ≠ 0 ∧ IsDisk M' r' S' ∧ L1 = btL c5 x :: sdL c4 NA nl nc SA sl_ sc :: lvL c3 A ln lc :: nmL c2 nm :: psL c1 sp :: dL d r' S' (stL sp d n mp :: mpL mp ks :: (E ++ R))) ∧ ch = swrong e) := by
 obtain ⟨pb, po⟩ := p'
 obtain ⟨qb, qo⟩ := q'
 have hns := hname.size
 have hss := hsec.size
 have hsz := h.sz
 refine zfn Tryz.func33 rfl 57 rfl <| zr <| as0 rfl <| zq <| zr <| tLd rfl rfl <| tLd rfl rfl <| tLg rfl rfl <| zca rfl (shead_spec hg hl hname hsec) ?_
 rintro _ M1 _ hM1 ⟨rfl, A1, k1, rfl, hh1⟩
 have hd := hM1
 refine mvU rfl <| zx rfl <| zx rfl <| asS rfl <| asI rfl <| zq <| .s6 0 1 3 4 6 7 rfl rfl rfl rfl rfl rfl <| x_join (I := fun F D M2 L2 => (mayK nm.length l sn.length ss.length ∧ 1 ≤ x.toNat ∧ x.toNat ≤ 65536) ∧ F = [(0, .pointer (some ⟨c2, 0, none⟩)), (1, .pointer (some ⟨c3, 0, none⟩)), (3, .pointer (some ⟨c5, 0, none⟩)), (4, .pointer (some ⟨c1, 0, none⟩)), (6, .slice A1 (headV nm l sn ss).length k1)] ∧ D = [] ∧ M1 = M2 ∧ (pb, po) :: (qb, qo) :: btL c5 x :: sdL c4 NA nl nc SA sl_ sc :: lvL c3 A ln lc :: nmL c2 nm :: psL c1 sp :: dL d r S (stL sp d n mp :: mpL mp ks :: (E ++ R)) = L2) ?_ (fun Jq2 => ?_)
 ·
  rintro _ _ _ _ ⟨hok, rfl, rfl, rfl, rfl⟩
  refine x_seq ?_
  have he : Le M1 M1 := Le.refl _
  have hV : headV nm l sn ss = headB nm l sn ss := if_pos hok.1
  rw [hV] at hh1
  rw [hV]
  obtain ⟨g1, g2, g3, g4, g5⟩ := mayK_facts hok.1
  have hbl := headB_len nm l sn ss
  have hnm16 := hok.1.2.1
  have hcr : createS S n ⟨nm, l, sn, ss⟩ x = if (freeS S nm n).1 ≠ 0 then ((S, none), (freeS S nm n).1) else if (newC S (sA (freeS S nm n).2.toNat) (headB nm l sn ss) (UInt64.ofNat (totN l)) x).2 ≠ 0 then (((newC S (sA (freeS S nm n).2.toNat) (headB nm l sn ss) (UInt64.ofNat (totN l)) x).1.1, none), (newC S (sA (freeS S nm n).2.toNat) (headB nm l sn ss) (UInt64.ofNat (totN l)) x).2) else (((newC S (sA (freeS S nm n).2.toNat) (headB nm l sn ss) (UInt64.ofNat (totN l)) x).1.1, some ⟨⟨nm, l, sn, ss⟩, newX (UInt64.ofNat (totN l)) x, (newC S (sA (freeS S nm n).2.toNat) (headB nm l sn ss) (UInt64.ofNat (totN l)) x).1.2⟩), 0) := by rw [createS, if_neg (fun h => h hok)]
  refine x_draw0 15 (btL c5 x :: sdL c4 NA nl nc SA sl_ sc :: lvL c3 A ln lc :: nmL c2 nm :: psL c1 sp :: []) Keeps.mem hmix rfl <| pLd 0 rfl rfl rfl <| pLd 1 rfl rfl rfl <| pLd 2 rfl rfl rfl <| pmS 5 rfl rfl <| pLd 6 rfl rfl rfl <| pLd 8 rfl rfl rfl <| to_e 3 rfl (by kernel_rfl) rfl (e_call rfl (Con.to (dL d r S (stL sp d n mp :: ((pb, po) :: (qb, qo) :: btL c5 x :: sdL c4 NA nl nc SA sl_ sc :: lvL c3 A ln lc :: nmL c2 nm :: psL c1 sp :: mpL mp ks :: (E ++ R)))) iI (sfree_spec (hg.mono hd) (hsh.mono hd) (h.mono hd) nm hn)) (by
   rintro _ M2 _ hM2 ⟨r2, h2, rfl, hno, rfl⟩
   exact TP.dropTo ((pb, po) :: (qb, qo) :: btL c5 x :: sdL c4 NA nl nc SA sl_ sc :: lvL c3 A ln lc :: nmL c2 nm :: psL c1 sp :: dL d r2 S (stL sp d n mp :: mpL mp ks :: (E ++ R))) iI (.retA rfl (hd.trans hM2) ⟨_, rfl, _, ⟨S, r2, by rw [hcr, if_pos hno], hno, h2, rfl⟩, rfl⟩)) ?_)
  rintro _ M2 _ hM2 ⟨r2, h2, rfl, hf0, rfl⟩
  replace he := he.trans hM2
  replace hd := hd.trans hM2
  obtain ⟨a, ha, han⟩ := freeS_at hf0
  rw [if_neg (fun h => h hf0), ha, Int.toNat_natCast] at hcr
  rw [ha]
  refine ⟨⟨he, Keeps.mem⟩, ?_⟩
  refine ze 4 rfl rfl <| e_call' rfl (sarea_spec h2 han hn) ?_
  rintro _ M3 _ hM3 ⟨p, rfl, r3, A3, l3, k3, h3, hb3, rfl⟩
  replace he := he.trans hM3
  replace hd := hd.trans hM3
  refine ⟨⟨he, Keeps.mem⟩, ?_⟩
  refine ze 7 rfl rfl <| e_call' rfl (Total_spec (hg.mono hd).hs (hl.mono hd)) ?_
  rintro _ M4 _ hM4 ⟨rfl, rfl⟩
  replace he := he.trans hM4
  replace hd := hd.trans hM4
  obtain ⟨tot, htot, htn⟩ : ∃ tot : UInt64, UInt64.ofNat (totN l) = tot ∧ tot.toNat = totN l := ⟨_, rfl, by rw [UInt64.toNat_ofNat', Nat.mod_eq_of_lt (totN_lt l)]⟩
  rw [htot] at hcr
  rw [← htn]
  obtain ⟨N, hN⟩ : ∃ N, newC S (sA a) (headB nm l sn ss) tot x = N := ⟨_, rfl⟩
  rw [hN] at hcr
  refine ⟨⟨he, Keeps.mem⟩, ?_⟩
  refine ze 9 rfl rfl <| e_call' rfl (cNew_spec (hsh.mono hd) (h3.mono hM4) (show OkS S (sA a) from okS0 (by omega) (by omega)) hw hB (hb3.mono hM4) (hh1.mono he) tot x) ?_
  rintro v M5 L5 hM5 hv
  rw [hN] at hv
  replace he := he.trans hM5
  replace hd := hd.trans hM5
  obtain ⟨e, hee⟩ : ∃ e, N.2 = e := ⟨_, rfl⟩
  rw [hee] at hv hcr
  obtain ⟨P, X, r5, A5, l5, k5, rfl, h5, hb5, rfl, hcase⟩ : ∃ P X r5 A5 l5 k5, v = .tuple #[.pointer P, .int .i64 e] ∧ IsDisk M5 r5 N.1.1 ∧ Bytes M5 A5 l5 k5 N.1.2.b ∧ L5 = dL d r5 N.1.1 (sL p d N.1.2 A5 l5 k5 :: X) ∧ ((e = 0 ∧ ∃ c A' c', P = some ⟨c, 0, none⟩ ∧ Bytes M5 A' (headB nm l sn ss).length c' (headB nm l sn ss) ∧ X = cL c (newX tot x) A' (headB nm l sn ss).length c' p :: stL sp d n mp :: ((pb, po) :: (qb, qo) :: btL c5 x :: sdL c4 NA nl nc SA sl_ sc :: lvL c3 A ln lc :: nmL c2 nm :: psL c1 sp :: mpL mp ks :: (E ++ R))) ∨ (e ≠ 0 ∧ X = stL sp d n mp :: ((pb, po) :: (qb, qo) :: btL c5 x :: sdL c4 NA nl nc SA sl_ sc :: lvL c3 A ln lc :: nmL c2 nm :: psL c1 sp :: mpL mp ks :: (E ++ R)))) := by
   split at hv
   ·
    rename_i h0
    obtain ⟨c, A', c', rfl, hA', r2, A2, l2, c2, h2, hb2, rfl⟩ := hv
    exact ⟨_, _, r2, A2, l2, c2, by rw [h0], h2, hb2, rfl, .inl ⟨h0, c, A', c', rfl, hA', rfl⟩⟩
   rename_i h0
   obtain ⟨rfl, r2, A2, l2, c2, h2, hb2, rfl⟩ := hv
   exact ⟨none, _, r2, A2, l2, c2, rfl, h2, hb2, rfl, .inr ⟨h0, rfl⟩⟩
  refine ⟨⟨he, by rcases hcase with ⟨_, _, _, _, _, _, rfl⟩ | ⟨_, rfl⟩ <;> exact Keeps.mem⟩, ?_⟩
  refine pmU 10 rfl rfl <| zp 11 rfl rfl (y_extract rfl) <| zp 12 rfl rfl (y_extract rfl) <| paP 13 rfl rfl <| paI 14 rfl rfl <| zz <| .then_normal <| .s5 0 4 6 7 8 rfl rfl rfl rfl rfl <| zr <| mvI rfl <| tl_e rfl (e_call rfl (swell_spec _) (by
   rintro _ _ _ _ ⟨rfl, rfl, hno, rfl⟩
   rw [if_pos hno] at hcr
   rcases hcase with ⟨h0, _⟩ | ⟨_, rfl⟩
   ·
    exact absurd h0 hno
   exact TP.dropTo ((pb, po) :: (qb, qo) :: btL c5 x :: sdL c4 NA nl nc SA sl_ sc :: lvL c3 A ln lc :: nmL c2 nm :: psL c1 sp :: dL d r5 N.1.1 (stL sp d n mp :: mpL mp ks :: (E ++ R))) iI (.retA rfl hd ⟨_, rfl, _, ⟨N.1.1, r5, hcr, hno, h5, rfl⟩, rfl⟩)) ?_)
  rintro _ _ _ _ ⟨rfl, rfl, he0⟩
  obtain ⟨_, c, HA, hc, rfl, hH, rfl⟩ : e = 0 ∧ ∃ c A' c', P = some ⟨c, 0, none⟩ ∧ Bytes M5 A' (headB nm l sn ss).length c' (headB nm l sn ss) ∧ X = cL c (newX tot x) A' (headB nm l sn ss).length c' p :: stL sp d n mp :: ((pb, po) :: (qb, qo) :: btL c5 x :: sdL c4 NA nl nc SA sl_ sc :: lvL c3 A ln lc :: nmL c2 nm :: psL c1 sp :: mpL mp ks :: (E ++ R)) := by
   rcases hcase with h | ⟨h0, _⟩
   ·
    exact h
   exact absurd he0 h0
  rw [if_neg (fun h => h he0)] at hcr
  refine zq <| zr <| mvS rfl <| tl_e rfl (e_call rfl (sparse_spec (hg.mono hd) (hh1.mono he) (by omega)) (by
   rintro _ _ _ _ ⟨_, hno, _⟩
   exact absurd (parse_headB hok.1).1 hno) ?_)
  rintro _ M6 _ hM6 ⟨rfl, hgood, y1, y2, y3, rfl, w1, w2, w3⟩
  obtain ⟨_, z1, z2, z3, z4⟩ := parse_headB hok.1
  rw [z1]
  rw [z2] at w1
  rw [z3] at w2
  rw [z4] at w3
  replace hd := hd.trans hM6
  obtain ⟨kk, hkk⟩ : ∃ kk : KeyS, (⟨⟨nm, l, sn, ss⟩, newX tot x, N.1.2⟩ : KeyS) = kk := ⟨_, rfl⟩
  rw [hkk] at hcr
  refine tl_e rfl <| e_alloc <| fun b1 => tl_e rfl <| e_sT rfl rfl <| zq <| .s4 0 4 8 9 rfl rfl rfl rfl <| x_seq ?_
  have hf : Le M6 M6 := Le.refl _
  refine x_draw0 12 (psL c1 sp :: stL sp d n mp :: nmL c2 nm :: parsL b1 nm y1 y2 y3 :: []) Keeps.mem hmix rfl <| pLd 0 rfl rfl rfl <| zp 1 rfl rfl (y_nilCheck rfl) <| pFa 2 rfl rfl <| pLd 3 rfl rfl rfl <| pLd 4 rfl rfl rfl <| pFa 5 rfl rfl <| pLd 6 rfl rfl rfl <| pFa 7 rfl rfl <| zy 8 rfl rfl (y_lg rfl rfl) ?_
  refine pmP 9 rfl rfl <| zp 10 rfl rfl (y_build rfl) <| ze 11 rfl rfl <| e_box rfl <| fun b2 => ⟨⟨hf, Keeps.mem⟩, ?_⟩
  have hKB : KBl M6 d kk b2 [kyL b2 y1 y2 y3 c, cL c (newX tot x) HA (headB nm l sn ss).length hc p, sL p d N.1.2 A5 l5 k5] := by
   rw [← hkk]; exact ⟨c, p, y1, y2, y3, HA, A5, _, hc, l5, k5, rfl, w1, w2, w3, hH.mono hM6, hb5.mono hM6⟩
  obtain ⟨E', K, hE', hperm⟩ := (hE.mono hd).set hKB
  have hms := mSet_kvs (kk, b2) ks
  rw [← hkk] at hms
  change mSet (kvsK ks) (sB nm) (.pointer (some ⟨b2, 0, none⟩)) = _ at hms
  rw [hkk] at hms
  refine zt 12 rfl rfl <| e_mapUpdate rfl rfl rfl iI iI <| zz <| .then_normal <| .s0 <| zr <| as0 rfl <| zq ?_
  rw [hms]
  refine x_ret (.dropTo ([kyL b2 y1 y2 y3 c, cL c (newX tot x) HA (headB nm l sn ss).length hc p, sL p d N.1.2 A5 l5 k5] ++ (E ++ ((pb, po) :: (qb, qo) :: btL c5 x :: sdL c4 NA nl nc SA sl_ sc :: lvL c3 A ln lc :: nmL c2 nm :: psL c1 sp :: dL d r5 N.1.1 (stL sp d n mp :: mpL mp (setP ks (kk, b2)) :: R)))) (by simp only [List.cons_append, List.nil_append]; infer_instance) (.dropTo (E' ++ ((pb, po) :: (qb, qo) :: btL c5 x :: sdL c4 NA nl nc SA sl_ sc :: lvL c3 A ln lc :: nmL c2 nm :: psL c1 sp :: dL d r5 N.1.1 (stL sp d n mp :: mpL mp (setP ks (kk, b2)) :: R))) ⟨K, by rw [← List.append_assoc, ← List.append_assoc]; exact hperm.append_right _⟩ (.to ((pb, po) :: (qb, qo) :: btL c5 x :: sdL c4 NA nl nc SA sl_ sc :: lvL c3 A ln lc :: nmL c2 nm :: psL c1 sp :: dL d r5 N.1.1 (stL sp d n mp :: mpL mp (setP ks (kk, b2)) :: (E' ++ R))) iI (ret1 rfl rfl hd ⟨_, rfl, true, rfl, N.1.1, kk, b2, r5, E', hcr, h5.mono hM6, hE', rfl⟩))))
 refine x_region <| mvI rfl <| tl_y rfl (y_eql rfl rfl) <| mvB rfl <| tl_casesb (s := 19) rfl (fun hk1 => ?_) (fun hk1 => ?_)
 ·
  refine tLd rfl rfl <| tl_y rfl (y_geq rfl rfl) <| tPt rfl rfl <| mvB rfl <| tl_casesb (s := 23) rfl (fun hk2 => ?_) (fun hk2 => ?_)
  ·
   refine tLd rfl rfl <| tl_y rfl (y_leq rfl rfl) <| tPt rfl rfl <| tl_e rfl (e_call rfl (smust_spec _ _) (by
    rintro _ _ _ _ ⟨rfl, rfl, ht, rfl⟩
    have hno : ¬ (mayK nm.length l sn.length ss.length ∧ 1 ≤ x.toNat ∧ x.toNat ≤ 65536) := by
     rintro ⟨h1, h2, h3⟩
     have h0 : headE nm l sn ss = 0 := if_pos h1
     first | (rw [h0] at hk1; exact absurd hk1 (by decide)) | (simp at hk2; omega) | (simp at ht; omega)
    have e : createS S n ⟨nm, l, sn, ss⟩ x = ((S, none), 1) := by rw [createS, if_pos hno]
    exact .retA rfl hd ⟨_, rfl, 1, ⟨S, r, e, by decide, h.mono hd, rfl⟩, rfl⟩) ?_)
   rintro _ _ _ _ ⟨rfl, rfl, ht⟩
   refine zq <| .sub (F' := [(0, _), (1, _), (3, _), (4, _), (6, _)]) (cs5 rfl rfl rfl rfl rfl) <| Jq2 _ _ _ _ ?_
   exact ⟨by
    refine ⟨?_, ?_, ?_⟩
    ·
     have h0 : headE nm l sn ss = 0 := by first | (cases ht; done) | simpa using hk1
     unfold headE at h0
     split at h0
     ·
      assumption
     cases h0
    ·
     first | (cases ht; done) | (simp at hk2; omega)
    first | (cases ht; done) | (simp at ht; omega), rfl, rfl, rfl, rfl⟩
  refine sk2 rfl rfl <| tPf rfl rfl <| tl_e rfl (e_call rfl (smust_spec _ _) (by
   rintro _ _ _ _ ⟨rfl, rfl, ht, rfl⟩
   have hno : ¬ (mayK nm.length l sn.length ss.length ∧ 1 ≤ x.toNat ∧ x.toNat ≤ 65536) := by
    rintro ⟨h1, h2, h3⟩
    have h0 : headE nm l sn ss = 0 := if_pos h1
    first | (rw [h0] at hk1; exact absurd hk1 (by decide)) | (simp at hk2; omega) | (simp at ht; omega)
   have e : createS S n ⟨nm, l, sn, ss⟩ x = ((S, none), 1) := by rw [createS, if_pos hno]
   exact .retA rfl hd ⟨_, rfl, 1, ⟨S, r, e, by decide, h.mono hd, rfl⟩, rfl⟩) ?_)
  rintro _ _ _ _ ⟨rfl, rfl, ht⟩
  refine zq <| .sub (F' := [(0, _), (1, _), (3, _), (4, _), (6, _)]) (cs5 rfl rfl rfl rfl rfl) <| Jq2 _ _ _ _ ?_
  exact ⟨by
   refine ⟨?_, ?_, ?_⟩
   ·
    have h0 : headE nm l sn ss = 0 := by first | (cases ht; done) | simpa using hk1
    unfold headE at h0
    split at h0
    ·
     assumption
    cases h0
   ·
    first | (cases ht; done) | (simp at hk2; omega)
   first | (cases ht; done) | (simp at ht; omega), rfl, rfl, rfl, rfl⟩
 refine sk2 rfl rfl <| tPf rfl rfl <| mvB rfl <| sk2 rfl rfl <| tPf rfl rfl <| tl_e rfl (e_call rfl (smust_spec _ _) (by
  rintro _ _ _ _ ⟨rfl, rfl, ht, rfl⟩
  have hno : ¬ (mayK nm.length l sn.length ss.length ∧ 1 ≤ x.toNat ∧ x.toNat ≤ 65536) := by
   rintro ⟨h1, h2, h3⟩
   have h0 : headE nm l sn ss = 0 := if_pos h1
   first | (rw [h0] at hk1; exact absurd hk1 (by decide)) | (simp at hk2; omega) | (simp at ht; omega)
  have e : createS S n ⟨nm, l, sn, ss⟩ x = ((S, none), 1) := by rw [createS, if_pos hno]
  exact .retA rfl hd ⟨_, rfl, 1, ⟨S, r, e, by decide, h.mono hd, rfl⟩, rfl⟩) ?_)
 rintro _ _ _ _ ⟨rfl, rfl, ht⟩
 refine zq <| .sub (F' := [(0, _), (1, _), (3, _), (4, _), (6, _)]) (cs5 rfl rfl rfl rfl rfl) <| Jq2 _ _ _ _ ?_
 exact ⟨by
  refine ⟨?_, ?_, ?_⟩
  ·
   have h0 : headE nm l sn ss = 0 := by first | (cases ht; done) | simpa using hk1
   unfold headE at h0
   split at h0
   ·
    assumption
   cases h0
  ·
   first | (cases ht; done) | (simp at hk2; omega)
  first | (cases ht; done) | (simp at ht; omega), rfl, rfl, rfl, rfl⟩
end
end Go.Proofs.YtplkoemjffplcaaGreatDoor
