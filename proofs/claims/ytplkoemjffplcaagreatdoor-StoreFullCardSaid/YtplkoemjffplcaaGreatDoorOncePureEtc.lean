/-
Contracts of functions, each proved by a walk through its code.
-/
import Derived.Test.YtplkoemjffplcaaGreatDoorChainEtc
import Derived.Test.YtplkoemjffplcaaGreatDoorShaEtc
set_option linter.all false
namespace Go.Proofs.YtplkoemjffplcaaGreatDoor
open Go Go.Eng
def okO (o : OtsV) : Prop := otsE o.code = 0 ∧ otsV o.code = o
instance {o : OtsV} : Decidable (okO o) := inferInstanceAs (Decidable (_ ∧ _))
def okY (o : OtsV) (nl sl : Nat) : Prop := okO o ∧ nl = 16 ∧ (sl : Int) = o.n
instance {o : OtsV} {nl sl : Nat} : Decidable (okY o nl sl) := inferInstanceAs (Decidable (_ ∧ _))
structure OF (o : OtsV) (n w p : Nat) : Prop where
 ok : okO o
 c : okC o.kind o.n
 hn : o.n = (n : Int)
 hw : o.w = (w : Int)
 hp : o.p = (p : Int)
 isn : isN n
 isw : isW w
 up : p = shU n w + shV n w
 p1 : 26 ≤ p
 p2 : p ≤ 265
theorem okO_facts {o : OtsV} (h : okO o) : ∃ n w p, OF o n w p := by
 obtain ⟨k, hk, e1, e2, _⟩ := otsE_some h.1
 have h2 := h.2
 rw [e2] at h2
 obtain ⟨h3, h4, h5, w, hw, hw2⟩ := otsT_facts hk
 rw [h2] at h3 h4 h5
 refine ⟨szN (k / 4), 2 ^ (k % 4), shU (szN (k / 4)) (2 ^ (k % 4)) + shV (szN (k / 4)) (2 ^ (k % 4)), h, h3, by rw [← h2]; rfl, by rw [← h2]; rfl, by rw [← h2]; rfl, szN_is _, w_is _, rfl, ?_, ?_⟩
 ·
  have : o.p = ((shU (szN (k / 4)) (2 ^ (k % 4)) + shV (szN (k / 4)) (2 ^ (k % 4)) : Nat) : Int) := by rw [← h2]; rfl
  omega
 have : o.p = ((shU (szN (k / 4)) (2 ^ (k % 4)) + shV (szN (k / 4)) (2 ^ (k % 4)) : Nat) : Int) := by rw [← h2]; rfl
 omega
theorem OF.n32 {o : OtsV} {n w p : Nat} (h : OF o n w p) : 24 ≤ n ∧ n ≤ 32 := by rcases h.isn with rfl | rfl <;> omega
theorem OF.w2 {o : OtsV} {n w p : Nat} (h : OF o n w p) : 2 ≤ pw2 w ∧ pw2 w ≤ 256 := pw2_w h.isw
def hidB (o : OtsV) (name sec : List UInt8) (q d : Nat) : List UInt8 := cSum o.kind o.n (name ++ (putB q 4 ++ (putB d 2 ++ (255 :: sec))))
def topN (o : OtsV) : Int := ((pw2 o.w.toNat : Nat) : Int) - 1
def catR (rows : Nat → List UInt8) (k : Nat) : List UInt8 := ((List.range k).map rows).flatten
theorem catR_zero (rows : Nat → List UInt8) : catR rows 0 = [] := rfl
theorem catR_succ (rows : Nat → List UInt8) (k : Nat) : catR rows (k + 1) = catR rows k ++ rows k := by
 rw [catR, List.range_succ, List.map_append, List.flatten_append]; simp [catR]
theorem catR_le {rows : Nat → List UInt8} (h : ∀ i, (rows i).length ≤ 32) : ∀ k, (catR rows k).length ≤ k * 32
 | 0 => by rw [catR_zero]; exact Nat.zero_le _
 | k + 1 => by
  rw [catR_succ, List.length_append]
  have := catR_le h k
  have := h k
  omega
theorem catR_len {rows : Nat → List UInt8} {n : Nat} (k : Nat) (h : ∀ i, i < k → (rows i).length = n) : (catR rows k).length = k * n := by
 induction k with
 | zero => rw [catR_zero]; simp
 | succ k ih =>
  rw [catR_succ, List.length_append, ih (fun i hi => h i (by omega)), h k (by omega), Nat.succ_mul]
theorem catR_congr {r1 r2 : Nat → List UInt8} (k : Nat) (h : ∀ i, i < k → r1 i = r2 i) : catR r1 k = catR r2 k := by
 induction k with
 | zero => rfl
 | succ k ih => rw [catR_succ, catR_succ, ih (fun i hi => h i (by omega)), h k (by omega)]
theorem catR_row {rows : Nat → List UInt8} {n k : Nat} (h : ∀ i, i < k → (rows i).length = n) {i : Nat} (hi : i < k) : ((catR rows k).drop (i * n)).take n = rows i := by
 induction k with
 | zero => omega
 | succ k ih =>
  have hl := catR_len (rows := rows) (n := n) k (fun j hj => h j (by omega))
  rw [catR_succ]
  by_cases hik : i = k
  ·
   subst hik
   rw [← hl, List.drop_left, List.take_of_length_le (by rw [h i (by omega)]; exact Nat.le_refl _)]
  have hlt : i < k := by omega
  have h1 : i * n + n ≤ k * n := by
   have := Nat.mul_le_mul_right n (show i + 1 ≤ k from hlt)
   rwa [Nat.succ_mul] at this
  rw [List.drop_append_of_le_length (by omega), List.take_append_of_le_length (by rw [List.length_drop]; omega)]
  exact ih (fun j hj => h j (by omega)) hlt
theorem csumC_le (kind n : Int) (h : okC kind n) (text : List UInt8) : (csum kind n text).length ≤ 32 := by
 rw [csum_length h _ (sha_length _)]
 rcases h.2 with h | h <;> rw [h] <;> decide
theorem hidB_le (o : OtsV) (name sec : List UInt8) (q d : Nat) : (hidB o name sec q d).length ≤ 32 := by
 unfold hidB cSum
 split
 ·
  rename_i h; exact csumC_le _ _ h _
 simp
theorem hidB_len {o : OtsV} {n w p : Nat} (h : OF o n w p) (name sec : List UInt8) (q d : Nat) : (hidB o name sec q d).length = n := by
 rw [hidB, cSum, if_pos h.c, csum_length h.c _ (sha_length _), h.hn, Int.toNat_natCast]
theorem cPartO_le (kind n : Int) (name : List UInt8) (q d : Nat) (text : List UInt8) : (cPart kind n name q d text).length ≤ 32 := by
 unfold cPart
 split
 ·
  unfold cSum
  split
  ·
   rename_i h; exact csumC_le _ _ h _
  simp
 simp
theorem cPartO_len {o : OtsV} {n w p : Nat} (h : OF o n w p) {name : List UInt8} (hn : name.length = 16) (q d : Nat) (text : List UInt8) : (cPart o.kind o.n name q d text).length = n := by
 rw [cPart, if_pos hn, cSum, if_pos h.c, csum_length h.c _ (sha_length _), h.hn, Int.toNat_natCast]
theorem cUp_le (o : OtsV) (name : List UInt8) (q : Nat) (i f t : Int) (x : List UInt8) (hx : x.length ≤ 32) : (cUp o name q i f t x).length ≤ 32 := by
 unfold cUp
 split
 ·
  rename_i h
  have hc := (okR_facts h.1).1
  have := upC_length hc sha_length name q i.toNat f.toNat (x := x) (h.1.2.2.2.2.2) (t - f).toNat
  have hx2 := h.1.2.2.2.2.2
  omega
 simp
def keyR (o : OtsV) (name sec : List UInt8) (q i : Nat) : List UInt8 := cUp o name q (i : Int) 0 (topN o) (hidB o name sec q i)
def keyB (o : OtsV) (name sec : List UInt8) (q : Nat) : List UInt8 := cPart o.kind o.n name q 32896 (catR (keyR o name sec q) o.p.toNat)
def digO (o : OtsV) (name : List UInt8) (q : Nat) (salt text : List UInt8) : List Nat := allD o.n.toNat o.w.toNat (cPart o.kind o.n name q 33153 (salt ++ text))
def saltB (o : OtsV) (name sec : List UInt8) (q : Nat) : List UInt8 := hidB o name sec q 65533
def sigR (o : OtsV) (name sec : List UInt8) (q : Nat) (d : List Nat) (i : Nat) : List UInt8 := cUp o name q (i : Int) 0 ((d.getD i 0 : Nat) : Int) (hidB o name sec q i)
def sigB (o : OtsV) (name sec : List UInt8) (q : Nat) (text : List UInt8) : List UInt8 := putB o.code.toNat 4 ++ (saltB o name sec q ++ catR (sigR o name sec q (digO o name q (saltB o name sec q) text)) o.p.toNat)
def staR (o : OtsV) (name : List UInt8) (q : Nat) (d : List Nat) (y : List UInt8) (i : Nat) : List UInt8 := cUp o name q (i : Int) ((d.getD i 0 : Nat) : Int) (topN o) ((y.drop (i * o.n.toNat)).take o.n.toNat)
def staB (o : OtsV) (name : List UInt8) (q : Nat) (text sig : List UInt8) : List UInt8 :=
 cPart o.kind o.n name q 32896 (catR (staR o name q (digO o name q ((sig.drop 4).take o.n.toNat) text) (sig.drop (4 + o.n.toNat))) o.p.toNat)
def sizeN (o : OtsV) : Nat := 4 + o.n.toNat * (o.p.toNat + 1)
theorem keyR_le (o : OtsV) (name sec : List UInt8) (q i : Nat) : (keyR o name sec q i).length ≤ 32 := cUp_le _ _ _ _ _ _ _ (hidB_le _ _ _ _ _)
theorem sigR_le (o : OtsV) (name sec : List UInt8) (q : Nat) (d : List Nat) (i : Nat) : (sigR o name sec q d i).length ≤ 32 := cUp_le _ _ _ _ _ _ _ (hidB_le _ _ _ _ _)
theorem staR_le {o : OtsV} {n w p : Nat} (h : OF o n w p) (name : List UInt8) (q : Nat) (d : List Nat) (y : List UInt8) (i : Nat) : (staR o name q d y i).length ≤ 32 := by
 refine cUp_le _ _ _ _ _ _ _ ?_
 have := h.n32
 rw [List.length_take, h.hn, Int.toNat_natCast]; omega
structure ChG (M : Mem) : Prop where
 sha : ShaG M
 kec : KecG M
 set : SetG M
theorem ChG.mono {M M' : Mem} (h : ChG M) (hle : Le M M') : ChG M' := ⟨h.sha.mono hle, h.kec.mono hle, h.set.mono hle⟩
section
variable {G : World} {M : Mem} {L : Own}
end
abbrev seedC (NA : Option Addr) (nl nc : Nat) (SA : Option Addr) (sl sc : Nat) : List Value := [.slice NA nl nc, .slice SA sl sc]
section
variable {G : World} {M : Mem} {L : Own} {NA SA : Option Addr} {nl nc sl sc : Nat} {name sec : List UInt8}
theorem oMay_spec (hs : SetG M) (o : OtsV) :
  Con Tryz.prog 100 #[.agg (List.toArray o.cells), .agg (List.toArray (seedC NA nl nc SA sl sc))] G M L (fun v M' L' => L = L' ∧ v = .bool (decide (okY o nl sl))) noPanic := by
 refine zfn Tryz.func100 rfl 34 rfl <| zr <| tl_e rfl <| e_box rfl <| fun b1 => tl_e rfl <| e_box rfl <| fun b2 => as0 rfl <| zq <| zr <| tFa rfl <| tLd rfl rfl <| zca rfl (Ots_spec hs o.code) ?_
 rintro _ M1 _ hM1 ⟨rfl, rfl⟩
 refine mvU rfl <| zx rfl <| zx rfl <| tl_e rfl <| e_alloc <| fun b3 => tl_e rfl <| e_sT rfl rfl <| asI rfl <| zq <| .s4 2 3 5 6 rfl rfl rfl rfl <| x_join (I := fun F D M2 L2 => ∃ b : Bool, (b = true ↔ okY o nl sl) ∧ D = [] ∧ M1 = M2 ∧ DropTo L2 L ∧ F = [(4, .bool b)]) ?_ (fun Jq2 => ?_)
 ·
  rintro _ _ _ L2 ⟨b, hb, rfl, rfl, hdr, rfl⟩
  refine x_ret (.dropTo L hdr (ret1 rfl rfl hM1 ⟨rfl, by rw [bool_iff hb]⟩))
 refine x_region <| mvI rfl <| tl_y rfl (y_eql rfl rfl) <| mvB rfl <| tl_cases (s := 15) rfl (fun hk1 => ?_) (fun hk1 => ?_)
 ·
  refine tLg rfl rfl <| tLg rfl rfl <| tl_y rfl (y_eqlS rfl rfl eqs103) <| tPt rfl rfl <| mvB rfl <| tl_cases (s := 20) rfl (fun hk2 => ?_) (fun hk2 => ?_)
  ·
   refine tFa rfl <| tLd rfl rfl <| tLen rfl <| tl_y rfl (y_eql rfl rfl) <| tPt rfl rfl <| mvB rfl <| tl_cases (s := 26) rfl (fun hk3 => ?_) (fun hk3 => ?_)
   ·
    refine tFa rfl <| tLd rfl rfl <| tLen rfl <| tFa rfl <| tLd rfl rfl <| tl_y rfl (y_eql rfl rfl) <| tPt rfl rfl <| asB rfl <| zq <| .sub (F' := [(4, _)]) (.cons rfl .nil) <| Jq2 _ _ _ _ ?_
    exact ⟨_, by
     constructor
     ·
      intro ht
      first | (cases ht; done) | (simp at ht; exact ⟨⟨hk1, ots_eq hk2⟩, by omega, by omega⟩)
     rintro ⟨⟨a1, a2⟩, a3, a4⟩
     first | exact absurd a1 hk1 | exact absurd (eq_ots a2) hk2 | (simp; omega) | omega, rfl, rfl, iI, rfl⟩
   refine sk6 rfl rfl rfl rfl rfl rfl <| tPf rfl rfl <| asB rfl <| zq <| .sub (F' := [(4, _)]) (.cons rfl .nil) <| Jq2 _ _ _ _ ?_
   exact ⟨_, by
    constructor
    ·
     intro ht
     first | (cases ht; done) | (simp at ht; exact ⟨⟨hk1, ots_eq hk2⟩, by omega, by omega⟩)
    rintro ⟨⟨a1, a2⟩, a3, a4⟩
    first | exact absurd a1 hk1 | exact absurd (eq_ots a2) hk2 | (simp; omega) | omega, rfl, rfl, iI, rfl⟩
  refine sk4 rfl rfl rfl rfl <| tPf rfl rfl <| mvB rfl <| sk6 rfl rfl rfl rfl rfl rfl <| tPf rfl rfl <| asB rfl <| zq <| .sub (F' := [(4, _)]) (.cons rfl .nil) <| Jq2 _ _ _ _ ?_
  exact ⟨_, by
   constructor
   ·
    intro ht
    first | (cases ht; done) | (simp at ht; exact ⟨⟨hk1, ots_eq hk2⟩, by omega, by omega⟩)
   rintro ⟨⟨a1, a2⟩, a3, a4⟩
   first | exact absurd a1 hk1 | exact absurd (eq_ots a2) hk2 | (simp; omega) | omega, rfl, rfl, iI, rfl⟩
 refine sk3 rfl rfl rfl <| tPf rfl rfl <| mvB rfl <| sk4 rfl rfl rfl rfl <| tPf rfl rfl <| mvB rfl <| sk6 rfl rfl rfl rfl rfl rfl <| tPf rfl rfl <| asB rfl <| zq <| .sub (F' := [(4, _)]) (.cons rfl .nil) <| Jq2 _ _ _ _ ?_
 exact ⟨_, by
  constructor
  ·
   intro ht
   first | (cases ht; done) | (simp at ht; exact ⟨⟨hk1, ots_eq hk2⟩, by omega, by omega⟩)
  rintro ⟨⟨a1, a2⟩, a3, a4⟩
  first | exact absurd a1 hk1 | exact absurd (eq_ots a2) hk2 | (simp; omega) | omega, rfl, rfl, iI, rfl⟩
theorem otop_spec (o : OtsV) {n w p : Nat} (ho : OF o n w p) :
  Con Tryz.prog 222 #[.agg (List.toArray o.cells)] G M L (fun v M' L' => M = M' ∧ L = L' ∧ v = .int .i64 (topN o)) noPanic := by
 have hsh := shl1_w ho.isw
 have hw2 := ho.w2
 have ht : topN o = ((2 ^ w : Nat) : Int) - 1 := by rw [topN, ho.hw, Int.toNat_natCast, pw2]
 rw [pw2] at hw2
 refine zfn Tryz.func222 rfl 7 rfl <| zr <| tl_e rfl <| e_box rfl <| fun b1 => as0 rfl <| zq <| zr <| tFa rfl <| tl_y rfl (y_load (v := .int .i64 (w : Int)) rfl rfl (by rw [← ho.hw]; exact .own iI iI)) <| tl_y rfl (y_shl rfl rfl (by omega)) ?_
 rw [hsh]
 refine tl_y rfl (y_subI rfl rfl (by omega)) <| asI rfl <| zq <| .s1 2 rfl <| x_ret (.dropTo L iI (ret1 rfl rfl lR ⟨rfl, rfl, by rw [ht]⟩))
theorem ohid_spec (hg : ChG M) (o : OtsV) (hname : Bytes M NA nl nc name) (hsec : Bytes M SA sl sc sec) (hnl : nl ≤ 1000000) (hsl : sl ≤ 1000000) (q : UInt32) (d : Nat) (hd : d ≤ 65535) :
  Con Tryz.prog 192 #[.agg (List.toArray o.cells), .agg (List.toArray (seedC NA nl nc SA sl sc)), .int .u32 (q.toNat : Int), .int .u16 (d : Int)] G M L (fun v M' L' => L = L' ∧ ∃ A m c, v = .slice A m c ∧ Bytes M' A m c (hidB o name sec q.toNat d)) noPanic := by
 have hn1 := hname.size
 have hn2 := hsec.size
 have hq := q.toNat_lt
 refine zfn Tryz.func192 rfl 26 rfl <| zr <| tl_e rfl <| e_box rfl <| fun b1 => tl_e rfl <| e_box rfl <| fun b2 => as0 rfl <| zq <| x_seq ?_
 have he : Le M M := Le.refl _
 refine x_draw 18 hmix rfl <| pFa 0 rfl rfl <| pLd 1 rfl rfl rfl <| pFa 2 rfl rfl <| pLd 3 rfl rfl rfl <| pFa 4 rfl rfl <| pLd 5 rfl rfl rfl <| pmI 6 rfl rfl <| zp 7 rfl rfl (y_convN64 rfl (by omega)) <| pmI 9 rfl rfl ?_
 refine zp 10 rfl rfl (y_convN64 rfl (by omega)) <| pFa 13 rfl rfl <| pLd 14 rfl rfl rfl <| to_two 8 12 (by kernel_rfl) ?_ ?_
 ·
  refine two_e 8 rfl rfl <| e_call' rfl (PutV_spec q.toNat 4 (by omega) (by omega)) ?_
  rintro _ M2 _ hM2 ⟨rfl, A2, c2, rfl, hA2⟩
  replace he := he.trans hM2
  refine kp ?_
  refine to_two 11 12 (by kernel_rfl) ?_ ?_
  ·
   refine two_e 11 rfl rfl <| e_call' rfl (PutV_spec d 2 (by omega) (by omega)) ?_
   rintro _ M3 _ hM3 ⟨rfl, A3, c3, rfl, hA3⟩
   replace he := he.trans hM3
   refine kp ?_
   refine ze 12 rfl rfl <| e_buildSlice rfl (by decide) <| fun b7 => ⟨⟨he, Keeps.mem⟩, ?_⟩
   refine .pub b7 iI <| fun M4 hM4 hb7 => ?_
   replace he := he.trans hM4
   refine ze 15 rfl rfl <| e_buildSlice rfl (by decide) <| fun b8 => ⟨⟨he, Keeps.mem⟩, ?_⟩
   refine .pub b8 iI <| fun M5 hM5 hb8 => ?_
   replace he := he.trans hM5
   have hA4 : Bytes M4 (some ⟨b7, 0, none⟩) 1 1 [255] := Row.whole hb7 rfl (by omega)
   have hA2' : Bytes M5 A2 4 c2 (putB q.toNat 4) := hA2.mono (by first | exact hM3.trans (hM4.trans hM5) | exact hM4.trans (hM3.trans hM5) | exact hM3.trans hM5)
   have hA3' : Bytes M5 A3 2 c3 (putB d 2) := hA3.mono (by first | exact hM4.trans hM5 | exact hM5 | exact hM2.trans (hM4.trans hM5) | exact hM2.trans hM5)
   have hA4' : Bytes M5 (some ⟨b7, 0, none⟩) 1 1 [255] := hA4.mono (by first | exact hM5 | exact hM3.trans hM5 | exact hM2.trans (hM3.trans hM5))
   have hfl : [name, putB q.toNat 4, putB d 2, [255], sec].flatten = name ++ (putB q.toNat 4 ++ (putB d 2 ++ (255 :: sec))) := by simp
   have hfll : (name ++ (putB q.toNat 4 ++ (putB d 2 ++ (255 :: sec)))).length = nl + 7 + sl := by rw [List.length_append, List.length_append, List.length_append, putB_length, putB_length, List.length_cons]; omega
   refine ze 16 rfl rfl <| e_call' rfl (Sum_spec (hg.sha.mono he) (hg.kec.mono he) o.kind o.n (Row.whole hb8 rfl (by omega)) (.cons (hname.mono he) (.cons hA2' (.cons hA3' (.cons hA4' (.cons (hsec.mono he) .nil))))) (by rw [hfl, hfll]; omega)) ?_
   rintro _ M6 _ hM6 ⟨rfl, A6, m6, c6, rfl, hA6⟩
   rw [hfl] at hA6
   replace he := he.trans hM6
   refine ⟨⟨he, Keeps.mem⟩, ?_⟩
   refine paS 17 rfl rfl <| zz <| .then_normal <| .s1 8 rfl <| x_ret (.dropTo L iI (ret1 rfl rfl he ⟨rfl, _, _, _, rfl, hA6⟩))
  refine two_e 12 rfl rfl <| e_buildSlice rfl (by decide) <| fun b7 => ⟨⟨he, Keeps.mem⟩, ?_⟩
  refine .pub b7 iI <| fun M4 hM4 hb7 => ?_
  replace he := he.trans hM4
  refine ze 11 rfl rfl <| e_call' rfl (PutV_spec d 2 (by omega) (by omega)) ?_
  rintro _ M3 _ hM3 ⟨rfl, A3, c3, rfl, hA3⟩
  replace he := he.trans hM3
  refine kp ?_
  refine ze 15 rfl rfl <| e_buildSlice rfl (by decide) <| fun b8 => ⟨⟨he, Keeps.mem⟩, ?_⟩
  refine .pub b8 iI <| fun M5 hM5 hb8 => ?_
  replace he := he.trans hM5
  have hA4 : Bytes M4 (some ⟨b7, 0, none⟩) 1 1 [255] := Row.whole hb7 rfl (by omega)
  have hA2' : Bytes M5 A2 4 c2 (putB q.toNat 4) := hA2.mono (by first | exact hM3.trans (hM4.trans hM5) | exact hM4.trans (hM3.trans hM5) | exact hM3.trans hM5)
  have hA3' : Bytes M5 A3 2 c3 (putB d 2) := hA3.mono (by first | exact hM4.trans hM5 | exact hM5 | exact hM2.trans (hM4.trans hM5) | exact hM2.trans hM5)
  have hA4' : Bytes M5 (some ⟨b7, 0, none⟩) 1 1 [255] := hA4.mono (by first | exact hM5 | exact hM3.trans hM5 | exact hM2.trans (hM3.trans hM5))
  have hfl : [name, putB q.toNat 4, putB d 2, [255], sec].flatten = name ++ (putB q.toNat 4 ++ (putB d 2 ++ (255 :: sec))) := by simp
  have hfll : (name ++ (putB q.toNat 4 ++ (putB d 2 ++ (255 :: sec)))).length = nl + 7 + sl := by rw [List.length_append, List.length_append, List.length_append, putB_length, putB_length, List.length_cons]; omega
  refine ze 16 rfl rfl <| e_call' rfl (Sum_spec (hg.sha.mono he) (hg.kec.mono he) o.kind o.n (Row.whole hb8 rfl (by omega)) (.cons (hname.mono he) (.cons hA2' (.cons hA3' (.cons hA4' (.cons (hsec.mono he) .nil))))) (by rw [hfl, hfll]; omega)) ?_
  rintro _ M6 _ hM6 ⟨rfl, A6, m6, c6, rfl, hA6⟩
  rw [hfl] at hA6
  replace he := he.trans hM6
  refine ⟨⟨he, Keeps.mem⟩, ?_⟩
  refine paS 17 rfl rfl <| zz <| .then_normal <| .s1 8 rfl <| x_ret (.dropTo L iI (ret1 rfl rfl he ⟨rfl, _, _, _, rfl, hA6⟩))
 refine two_e 12 rfl rfl <| e_buildSlice rfl (by decide) <| fun b7 => ⟨⟨he, Keeps.mem⟩, ?_⟩
 refine .pub b7 iI <| fun M4 hM4 hb7 => ?_
 replace he := he.trans hM4
 refine ze 8 rfl rfl <| e_call' rfl (PutV_spec q.toNat 4 (by omega) (by omega)) ?_
 rintro _ M2 _ hM2 ⟨rfl, A2, c2, rfl, hA2⟩
 replace he := he.trans hM2
 refine kp ?_
 refine ze 11 rfl rfl <| e_call' rfl (PutV_spec d 2 (by omega) (by omega)) ?_
 rintro _ M3 _ hM3 ⟨rfl, A3, c3, rfl, hA3⟩
 replace he := he.trans hM3
 refine kp ?_
 refine ze 15 rfl rfl <| e_buildSlice rfl (by decide) <| fun b8 => ⟨⟨he, Keeps.mem⟩, ?_⟩
 refine .pub b8 iI <| fun M5 hM5 hb8 => ?_
 replace he := he.trans hM5
 have hA4 : Bytes M4 (some ⟨b7, 0, none⟩) 1 1 [255] := Row.whole hb7 rfl (by omega)
 have hA2' : Bytes M5 A2 4 c2 (putB q.toNat 4) := hA2.mono (by first | exact hM3.trans (hM4.trans hM5) | exact hM4.trans (hM3.trans hM5) | exact hM3.trans hM5)
 have hA3' : Bytes M5 A3 2 c3 (putB d 2) := hA3.mono (by first | exact hM4.trans hM5 | exact hM5 | exact hM2.trans (hM4.trans hM5) | exact hM2.trans hM5)
 have hA4' : Bytes M5 (some ⟨b7, 0, none⟩) 1 1 [255] := hA4.mono (by first | exact hM5 | exact hM3.trans hM5 | exact hM2.trans (hM3.trans hM5))
 have hfl : [name, putB q.toNat 4, putB d 2, [255], sec].flatten = name ++ (putB q.toNat 4 ++ (putB d 2 ++ (255 :: sec))) := by simp
 have hfll : (name ++ (putB q.toNat 4 ++ (putB d 2 ++ (255 :: sec)))).length = nl + 7 + sl := by rw [List.length_append, List.length_append, List.length_append, putB_length, putB_length, List.length_cons]; omega
 refine ze 16 rfl rfl <| e_call' rfl (Sum_spec (hg.sha.mono he) (hg.kec.mono he) o.kind o.n (Row.whole hb8 rfl (by omega)) (.cons (hname.mono he) (.cons hA2' (.cons hA3' (.cons hA4' (.cons (hsec.mono he) .nil))))) (by rw [hfl, hfll]; omega)) ?_
 rintro _ M6 _ hM6 ⟨rfl, A6, m6, c6, rfl, hA6⟩
 rw [hfl] at hA6
 replace he := he.trans hM6
 refine ⟨⟨he, Keeps.mem⟩, ?_⟩
 refine paS 17 rfl rfl <| zz <| .then_normal <| .s1 8 rfl <| x_ret (.dropTo L iI (ret1 rfl rfl he ⟨rfl, _, _, _, rfl, hA6⟩))
end
section
variable {G : World} {M : Mem} {L : Own} {NA SA : Option Addr} {nl nc sl sc : Nat} {name sec : List UInt8}
theorem oSecret_spec (hg : ChG M) (o : OtsV) (hname : Bytes M NA nl nc name) (hsec : Bytes M SA sl sc sec) (q : UInt32) (d : Nat) (hd : d ≤ 65535) :
  Con Tryz.prog 147 #[.agg (List.toArray o.cells), .agg (List.toArray (seedC NA nl nc SA sl sc)), .int .u32 (q.toNat : Int), .int .u16 (d : Int)] G M L (fun v M' L' => L = L' ∧ ∃ A m c, v = .slice A m c ∧ Bytes M' A m c (if okY o nl sl then hidB o name sec q.toNat d else [])) noPanic := by
 refine zfn Tryz.func147 rfl 18 rfl <| zr <| tl_e rfl <| e_box rfl <| fun b1 => tl_e rfl <| e_box rfl <| fun b2 => as0 rfl <| zq <| zr2 <| tLg rfl rfl <| tLg rfl rfl <| zca rfl (oMay_spec hg.set o) ?_
 rintro _ M1 _ hM1 ⟨rfl, rfl⟩
 refine tl_y rfl (y_notd rfl) <| zq <| .s5 2 3 4 5 12 rfl rfl rfl rfl rfl <| x_cond rfl (fun hc1 => ?_) (fun hc1 => ?_)
 ·
  refine zr <| as0 rfl <| zq <| .s1 8 rfl <| x_ret (.then_ret (.dropTo L iI (ret1 rfl rfl hM1 ⟨rfl, _, _, _, rfl, by rw [if_neg hc1]; exact Row.nil _ _⟩)))
 have hok : okY o nl sl := Classical.not_not.1 hc1
 obtain ⟨n, w, p, ho⟩ := okO_facts hok.1
 have hn32 := ho.n32
 have hn := ho.hn
 have hsl := hok.2.2
 have hnl := hok.2.1
 refine x_skip <| .then_normal <| zr <| tLg rfl rfl <| tLg rfl rfl <| mvI rfl <| mvI rfl <| zca rfl (ohid_spec (hg.mono hM1) o (hname.mono hM1) (hsec.mono hM1) (by omega) (by omega) q d hd) ?_
 rintro _ M2 _ hM2 ⟨rfl, A2, m2, c2, rfl, hA2⟩
 refine asS rfl <| zq <| .s1 8 rfl <| x_ret (.dropTo L iI (ret1 rfl rfl (hM1.trans hM2) ⟨rfl, _, _, _, rfl, by rw [if_pos hok]; exact hA2⟩))
theorem oall_spec (o : OtsV) {p : Nat} (hp : o.p = (p : Int)) (hp5 : p ≤ 1000) {fid : FuncId} {cap : List Value} {rows : Nat → List UInt8} (hl : ∀ i, (rows i).length ≤ 32)
  (hdo : ∀ (i : Nat) (M1 : Mem) (X : Own), i < p → Le M M1 → (∀ e ∈ L, e ∈ X) → Con Tryz.prog fid (([] : List Value) ++ [Value.int .i64 (i : Int)] ++ cap).toArray G M1 X (fun v M' L' => X = L' ∧ ∃ A m c, v = .slice A m c ∧ Bytes M' A m c (rows i)) noPanic) :
  Con Tryz.prog 199 #[.agg (List.toArray o.cells), .func (.func fid) #[] cap.toArray] G M L (fun v M' L' => L = L' ∧ ∃ A m c, v = .slice A m c ∧ Bytes M' A m c (catR rows p)) noPanic := by
 refine zfn Tryz.func199 rfl 19 rfl <| zr <| tl_e rfl <| e_box rfl <| fun b1 => as0 rfl <| zq <| zr <| as0 rfl <| zq <| zr2 <| tFa rfl <| tl_y rfl (y_load (v := .int .i64 (p : Int)) rfl rfl (by rw [← hp]; exact .own iI iI)) <| mv0 rfl <| zq <| .s4 1 5 8 9 rfl rfl rfl rfl <| x_block ?_
 refine x_loop (I := fun m' F D M1 L1 => ∃ (i : Nat) (A : Option Addr) (m c : Nat) (E : Own), m' = p - i ∧ i ≤ p ∧ Le M M1 ∧ m = (catR rows i).length ∧ OwnRow 5 1 A m c ((catR rows i).map bv) E ∧ D = [] ∧ L1 = E ++ ((b1, .cells (List.toArray o.cells) 103 (0, 0)) :: L) ∧ F = [(1, .func (.func fid) #[] cap.toArray), (5, .slice A m c), (8, .int .i64 (p : Int)), (9, .int .i64 (i : Int))]) (p) (F0 := [(1, _), (5, _), (8, _), (9, _)]) ?_ (cs4 rfl rfl rfl rfl) ?_
 ·
  exact ⟨0, none, 0, 0, [], rfl, by omega, Le.refl _, rfl, .nil, rfl, rfl, rfl⟩
 rintro m _ _ M1 _ ⟨i, A, m, c, E, rfl, hi, hM1, hm, hE, rfl, rfl, rfl⟩
 refine zr <| tl_y rfl (y_lss rfl rfl) <| zq <| x_seq <| x_cond rfl (fun hc1 => ?_) (fun hc1 => ?_)
 ·
  have hip : i < p := by omega
  have hle := catR_le hl i
  have hli := hl i
  refine x_skip <| .then_normal <| x_seq <| x_block <| zr <| mvI rfl <| asI rfl <| zq <| x_region <| mvS rfl <| mvF rfl <| mvI rfl <| tl_e rfl <| e_callv rfl rfl (hdo i M1 _ hip hM1 Keeps.mem) (fun _ _ _ _ h => h.elim) ?_
  rintro _ M2 _ hM2 ⟨rfl, A2, m2, c2, rfl, hA2⟩
  have hm2 := hA2.size
  refine tl_e rfl <| e_append (by decide) rfl rfl hE (.row hA2) (all_one_bv _) (by omega) (by omega) <| fun A7 c7 E7 hE7 => ?_
  rw [← List.map_append, ← catR_succ] at hE7
  refine asS rfl <| tl_nil <| .block_normal <| .then_normal <| .s4 1 5 8 9 rfl rfl rfl rfl <| x_region <| tl_y rfl (y_addI rfl rfl (by omega)) <| mvI rfl <| tl_nil <| .loop_next (m' := p - (i + 1)) (by omega) (F' := [(1, _), (5, _), (8, _), (9, _)]) (cs4 rfl rfl rfl rfl) ?_
  exact ⟨i + 1, A7, m + m2, c7, E7, rfl, by omega, hM1.trans hM2, by rw [catR_succ, List.length_append]; omega, hE7, rfl, rfl, rfl⟩
 obtain rfl : i = p := by omega
 refine .pubRow hE <| fun M4 hM4 hrow => x_exit <| .then_exit <| .loop_exit <| .block_exit <| .then_normal <| .s1 5 rfl <| zr <| mvS rfl <| asS rfl <| zq <| x_ret (.dropTo L iI (ret1 rfl rfl (hM1.trans hM4) ⟨rfl, _, _, _, rfl, hrow⟩))
theorem oKey1_spec (hg : ChG M) (o : OtsV) {n w p : Nat} (ho : OF o n w p) (hname : Bytes M NA nl nc name) (hsec : Bytes M SA sl sc sec) (hnl : nl ≤ 1000000) (hsl : sl ≤ 1000000) (q : UInt32) (i : Nat) (hi : i ≤ 65535) {bo bs bq : Nat}
  [i1 : Has L bo (.cells (List.toArray o.cells) 103 (0, 0))] [i2 : Has L bs (.cells (List.toArray (seedC NA nl nc SA sl sc)) 33 (0, 0))] [i3 : Has L bq (.cells #[.int .u32 (q.toNat : Int)] 61 (0, 0))] :
  Con Tryz.prog 243 #[.int .i64 (i : Int), .pointer (some ⟨bo, 0, none⟩), .pointer (some ⟨bs, 0, none⟩), .pointer (some ⟨bq, 0, none⟩)] G M L (fun v M' L' => L = L' ∧ ∃ A m c, v = .slice A m c ∧ Bytes M' A m c (keyR o name sec q.toNat i)) noPanic := by
 refine zfn Tryz.func243 rfl 20 rfl <| zr <| as0 rfl <| zq <| x_seq ?_
 have he : Le M M := Le.refl _
 refine x_draw 15 hmix rfl <| zy 0 rfl rfl (y_lg rfl rfl) <| pFa 1 rfl rfl <| pLd 2 rfl rfl rfl <| pLd 3 rfl rfl rfl <| pmI 4 rfl rfl <| zy 5 rfl rfl (y_lg rfl rfl) <| zy 7 rfl rfl (y_lg rfl rfl) <| zy 8 rfl rfl (y_lg rfl rfl) <| pLd 9 rfl rfl rfl ?_
 refine pmI 10 rfl rfl <| zp 11 rfl rfl (y_convE (b := (i : Int)) rfl (by rw [wrapU16]; omega)) <| ze 6 rfl rfl <| e_call' rfl (otop_spec o ho) ?_
 rintro _ _ _ _ ⟨rfl, rfl, rfl⟩
 refine kp ?_
 refine ze 12 rfl rfl <| e_call' rfl (ohid_spec hg o hname hsec hnl hsl q i hi) ?_
 rintro _ M2 _ hM2 ⟨rfl, A2, m2, c2, rfl, hA2⟩
 replace he := he.trans hM2
 refine kp ?_
 refine ze 13 rfl rfl <| e_call' rfl (Up_spec' (hg.mono he).sha (hg.mono he).kec (hg.mono he).set o (hname.mono he) hA2 q i 0 (topN o)) ?_
 rintro _ M3 _ hM3 ⟨rfl, A3, m3, c3, rfl, hA3⟩
 replace he := he.trans hM3
 refine kp ?_
 refine paS 14 rfl rfl <| zz <| .then_normal <| .s1 5 rfl <| x_ret (ret1 rfl rfl he ⟨rfl, _, _, _, rfl, hA3⟩)
theorem oKey_spec (hg : ChG M) (o : OtsV) (hname : Bytes M NA nl nc name) (hsec : Bytes M SA sl sc sec) (q : UInt32) :
  Con Tryz.prog 197 #[.agg (List.toArray o.cells), .agg (List.toArray (seedC NA nl nc SA sl sc)), .int .u32 (q.toNat : Int)] G M L (fun v M' L' => L = L' ∧ ∃ A m c, v = .slice A m c ∧ Bytes M' A m c (if okY o nl sl then keyB o name sec q.toNat else [])) noPanic := by
 refine zfn Tryz.func197 rfl 25 rfl <| zr <| tl_e rfl <| e_box rfl <| fun b1 => tl_e rfl <| e_box rfl <| fun b2 => tl_e rfl <| e_box rfl <| fun b3 => as0 rfl <| zq <| .s3 3 4 5 rfl rfl rfl <| zr2 <| tLg rfl rfl <| tLg rfl rfl <| zca rfl (oMay_spec hg.set o) ?_
 rintro _ M1 _ hM1 ⟨rfl, rfl⟩
 refine tl_y rfl (y_notd rfl) <| zq <| x_cond rfl (fun hc1 => ?_) (fun hc1 => ?_)
 ·
  refine zr <| as0 rfl <| zq <| .s1 6 rfl <| x_ret (.then_ret (.dropTo L iI (ret1 rfl rfl hM1 ⟨rfl, _, _, _, rfl, by rw [if_neg hc1]; exact Row.nil _ _⟩)))
 have hok : okY o nl sl := Classical.not_not.1 hc1
 obtain ⟨n, w, p, ho⟩ := okO_facts hok.1
 have hn32 := ho.n32
 have hn := ho.hn
 have hsl := hok.2.2
 have hnl := hok.2.1
 have hp2 := ho.p2
 refine x_skip <| .then_normal <| .s3 3 4 5 rfl rfl rfl <| zr <| tLg rfl rfl <| tl_y rfl (y_makeFunc rfl rfl) <| tl_e rfl (e_call' rfl (oall_spec o ho.hp (by omega) (rows := keyR o name sec q.toNat) (keyR_le o name sec q.toNat) (fun i M2 X hi hM2 hX => by
  haveI i1 : Has X b1 (.cells (List.toArray o.cells) 103 (0, 0)) := ⟨hX _ (Has.mem)⟩
  haveI i2 : Has X b2 (.cells (List.toArray (seedC NA nl nc SA sl sc)) 33 (0, 0)) := ⟨hX _ (Has.mem)⟩
  haveI i3 : Has X b3 (.cells #[.int .u32 (q.toNat : Int)] 61 (0, 0)) := ⟨hX _ (Has.mem)⟩
  exact oKey1_spec ((hg.mono hM1).mono hM2) o ho ((hname.mono hM1).mono hM2) ((hsec.mono hM1).mono hM2) (by omega) (by omega) q i (by omega))) ?_)
 rintro _ M2 _ hM2 ⟨rfl, A2, m2, c2, rfl, hA2⟩
 have hd := hM1.trans hM2
 have hm2 := hA2.size
 have hle := catR_le (keyR_le o name sec q.toNat) p
 refine asS rfl <| zq <| zr <| tFa rfl <| tLd rfl rfl <| tFa rfl <| tLd rfl rfl <| tFa rfl <| tLd rfl rfl <| tLd rfl rfl <| mvS rfl <| tl_e rfl <| e_buildSlice rfl (by decide) <| fun b7 => .pub b7 iI <| fun M3 hM3 hb7 => ?_
 replace hd := hd.trans hM3
 refine zca rfl (Part_spec (hg.mono hd).sha (hg.mono hd).kec o.kind o.n (hname.mono hd) q 32896 (by omega) (Row.whole hb7 rfl (by omega)) (.cons (hA2.mono hM3) .nil) (by simp only [List.flatten_cons, List.flatten_nil, List.length_append, List.length_nil]; omega)) ?_
 rintro _ M4 _ hM4 ⟨rfl, A4, m4, c4, rfl, hA4⟩
 rw [show [catR (keyR o name sec q.toNat) p].flatten = catR (keyR o name sec q.toNat) p by simp] at hA4
 refine asS rfl <| zq <| .s1 6 rfl <| x_ret (.dropTo L iI (ret1 rfl rfl (hd.trans hM4) ⟨rfl, _, _, _, rfl, by rw [if_pos hok, keyB, ho.hp, Int.toNat_natCast]; exact hA4⟩))
end
theorem digO_get {o : OtsV} {n w p : Nat} (ho : OF o n w p) (name : List UInt8) (q : Nat) (salt text : List UInt8) : (digO o name q salt text).length = p ∧ ∀ d ∈ digO o name q salt text, d < pw2 w := by
 rw [digO, ho.hn, ho.hw, Int.toNat_natCast, Int.toNat_natCast]
 exact ⟨by rw [allD_len ho.isn ho.isw, ho.up], allD_lt _⟩
theorem intsL_at {xs : List Nat} {i : Nat} (h : i < xs.length) : (intsL xs)[i]? = some (.int .i64 ((xs.getD i 0 : Nat) : Int)) := by
 rw [intsL, List.getElem?_map, List.getD_eq_getElem?_getD, List.getElem?_eq_getElem h]; rfl
section
variable {G : World} {M : Mem} {L : Own} {NA SA TA YA : Option Addr} {nl nc sl sc tl tc yl yc : Nat} {name sec text y : List UInt8}
theorem osum_spec (hg : ChG M) (o : OtsV) {n w p : Nat} (ho : OF o n w p) (hname : Bytes M NA nl nc name) (hn16 : nl = 16) (q : UInt32) (hsalt : Bytes M SA sl sc sec) (htext : Bytes M TA tl tc text) (hsl : sl ≤ 1000000000) (htl : tl ≤ 1000000000) :
  Con Tryz.prog 198 #[.agg (List.toArray o.cells), .slice NA nl nc, .int .u32 (q.toNat : Int), .slice SA sl sc, .slice TA tl tc] G M L (fun v M' L' => L = L' ∧ ∃ A c, v = .slice A p c ∧ Row M' 1 A p c (intsL (digO o name q.toNat sec text))) noPanic := by
 have h1 := hname.size
 have h2 := hsalt.size
 have h3 := htext.size
 refine zfn Tryz.func198 rfl 24 rfl <| zr <| tl_e rfl <| e_box rfl <| fun b1 => as0 rfl <| zq <| x_seq ?_
 have he : Le M M := Le.refl _
 refine x_draw 14 hmix rfl <| pFa 0 rfl rfl <| pLd 1 rfl rfl rfl <| pFa 2 rfl rfl <| pLd 3 rfl rfl rfl <| pmS 4 rfl rfl <| pmI 5 rfl rfl <| pmS 6 rfl rfl <| pmS 7 rfl rfl <| pFa 10 rfl rfl ?_
 refine zy 11 rfl rfl (y_load (v := .int .i64 (w : Int)) rfl rfl (by rw [← ho.hw]; exact .own iI iI)) <| ze 8 rfl rfl <| e_buildSlice rfl (by decide) <| fun b7 => ⟨⟨he, Keeps.mem⟩, ?_⟩
 refine .pub b7 iI <| fun M3 hM3 hb7 => ?_
 replace he := he.trans hM3
 refine ze 9 rfl rfl <| e_call' rfl (Part_spec (hg.mono he).sha (hg.mono he).kec o.kind o.n (hname.mono he) q 33153 (by omega) (Row.whole hb7 rfl (by omega)) (.cons (hsalt.mono he) (.cons (htext.mono he) .nil)) (by simp only [List.flatten_cons, List.flatten_nil, List.length_append, List.length_nil]; omega)) ?_
 rintro _ M4 _ hM4 ⟨rfl, A4, m4, c4, rfl, hA4⟩
 rw [show [sec, text].flatten = sec ++ text by simp] at hA4
 replace he := he.trans hM4
 have hm4 := hA4.size
 rw [cPartO_len ho (by omega)] at hm4
 subst hm4
 refine kp ?_
 refine ze 12 rfl rfl <| e_call' rfl (All7_spec ho.isn ho.isw hA4) ?_
 rintro _ M5 _ hM5 ⟨rfl, A5, c5, rfl, hr5⟩
 replace he := he.trans hM5
 have hr5' : Row M5 1 A5 p c5 (intsL (digO o name q.toNat sec text)) := by
  rw [digO, ho.hn, ho.hw, Int.toNat_natCast, Int.toNat_natCast, ho.up]
  rw [ho.hn] at hr5
  exact hr5
 rw [← ho.up]
 refine kp ?_
 refine paS 13 rfl rfl <| zz <| .then_normal <| .s1 10 rfl <| x_ret (.dropTo L iI (ret1 rfl rfl he ⟨rfl, A5, c5, rfl, hr5'⟩))
theorem oSign1_spec (hg : ChG M) (o : OtsV) {n w p : Nat} (ho : OF o n w p) (hname : Bytes M NA nl nc name) (hsec : Bytes M SA sl sc sec) (hnl : nl ≤ 1000000) (hsl : sl ≤ 1000000) (q : UInt32) {DA : Option Addr} {dc : Nat} {d : List Nat} (hd : Row M 1 DA p dc (intsL d)) (i : Nat) (hi : i < p) {bo bs bq bd : Nat}
  [i1 : Has L bo (.cells (List.toArray o.cells) 103 (0, 0))] [i2 : Has L bs (.cells (List.toArray (seedC NA nl nc SA sl sc)) 33 (0, 0))] [i3 : Has L bq (.cells #[.int .u32 (q.toNat : Int)] 61 (0, 0))] [i4 : Has L bd (.cells #[.slice DA p dc] 68 (0, 0))] :
  Con Tryz.prog 200 #[.int .i64 (i : Int), .pointer (some ⟨bo, 0, none⟩), .pointer (some ⟨bs, 0, none⟩), .pointer (some ⟨bq, 0, none⟩), .pointer (some ⟨bd, 0, none⟩)] G M L (fun v M' L' => L = L' ∧ ∃ A m c, v = .slice A m c ∧ Bytes M' A m c (sigR o name sec q.toNat d i)) noPanic := by
 have hp2 := ho.p2
 have hdl : d.length = p := by have := hd.len; simpa [intsL] using this
 obtain ⟨g, oo, rfl, hcell⟩ := hd.addr (by omega)
 refine zfn Tryz.func200 rfl 23 rfl <| zr <| as0 rfl <| zq <| x_seq ?_
 have he : Le M M := Le.refl _
 refine x_draw 17 hmix rfl <| zy 0 rfl rfl (y_lg rfl rfl) <| pFa 1 rfl rfl <| pLd 2 rfl rfl rfl <| pLd 3 rfl rfl rfl <| pmI 4 rfl rfl <| pLd 5 rfl rfl rfl <| pmI 6 rfl rfl <| zp 7 rfl rfl (y_indexAddrK i rfl rfl (by omega)) <| zy 8 rfl rfl (y_load rfl rfl (.at_ (hcell _ i _ (intsL_at (by omega))) (by omega))) ?_
 refine zy 9 rfl rfl (y_lg rfl rfl) <| zy 10 rfl rfl (y_lg rfl rfl) <| pLd 11 rfl rfl rfl <| pmI 12 rfl rfl <| zp 13 rfl rfl (y_convE (b := (i : Int)) rfl (by rw [wrapU16]; omega)) <| ze 14 rfl rfl <| e_call' rfl (ohid_spec hg o hname hsec hnl hsl q i (by omega)) ?_
 rintro _ M2 _ hM2 ⟨rfl, A2, m2, c2, rfl, hA2⟩
 replace he := he.trans hM2
 refine kp ?_
 refine ze 15 rfl rfl <| e_call' rfl (Up_spec' (hg.mono he).sha (hg.mono he).kec (hg.mono he).set o (hname.mono he) hA2 q i 0 ((d.getD i 0 : Nat) : Int)) ?_
 rintro _ M3 _ hM3 ⟨rfl, A3, m3, c3, rfl, hA3⟩
 replace he := he.trans hM3
 refine kp ?_
 refine paS 16 rfl rfl <| zz <| .then_normal <| .s1 6 rfl <| x_ret (ret1 rfl rfl he ⟨rfl, _, _, _, rfl, hA3⟩)
theorem oSign_spec (hg : ChG M) (o : OtsV) (hname : Bytes M NA nl nc name) (hsec : Bytes M SA sl sc sec) (q : UInt32) (htext : Bytes M TA tl tc text) :
  Con Tryz.prog 157 #[.agg (List.toArray o.cells), .agg (List.toArray (seedC NA nl nc SA sl sc)), .int .u32 (q.toNat : Int), .slice TA tl tc] G M L (fun v M' L' => L = L' ∧ ∃ A m c, v = .slice A m c ∧ Bytes M' A m c (if okY o nl sl ∧ tl ≤ 65536 then sigB o name sec q.toNat text else [])) noPanic := by
 refine zfn Tryz.func157 rfl 43 rfl <| zr <| tl_e rfl <| e_box rfl <| fun b1 => tl_e rfl <| e_box rfl <| fun b2 => tl_e rfl <| e_box rfl <| fun b3 => as0 rfl <| zq <| .s4 3 4 5 6 rfl rfl rfl rfl <| zr2 <| tLg rfl rfl <| tLg rfl rfl <| zca rfl (oMay_spec hg.set o) ?_
 rintro _ M1 _ hM1 ⟨rfl, rfl⟩
 refine tl_y rfl (y_notd rfl) <| mvB rfl <| tl_cases (s := 16) rfl (fun hk1 => ?_) (fun hk1 => ?_)
 ·
  refine sk3 rfl rfl rfl <| tPt rfl rfl <| zq <| .s5 3 4 5 6 20 rfl rfl rfl rfl rfl <| x_true rfl rfl <| zr <| as0 rfl <| zq <| .s1 8 rfl <| x_ret (.then_ret (.dropTo L iI (ret1 rfl rfl hM1 ⟨rfl, _, _, _, rfl, by rw [if_neg (fun h => hk1 h.1)]; exact Row.nil _ _⟩)))
 refine mvS rfl <| tLen rfl <| tl_y rfl (y_gtr rfl rfl) <| tPf rfl rfl <| zq <| .s5 3 4 5 6 20 rfl rfl rfl rfl rfl <| x_cond rfl (fun hc1 => ?_) (fun hc1 => ?_)
 ·
  refine zr <| as0 rfl <| zq <| .s1 8 rfl <| x_ret (.then_ret (.dropTo L iI (ret1 rfl rfl hM1 ⟨rfl, _, _, _, rfl, by rw [if_neg (fun h => by have := h.2; omega)]; exact Row.nil _ _⟩)))
 have hok : okY o nl sl := Classical.not_not.1 hk1
 obtain ⟨n, w, p, ho⟩ := okO_facts hok.1
 have hn32 := ho.n32
 have hn := ho.hn
 have hsl := hok.2.2
 have hnl := hok.2.1
 have hp2 := ho.p2
 have hcl := o.code.toNat_lt
 have htl := htext.size
 refine x_skip <| .then_normal <| zr <| tLg rfl rfl <| tLg rfl rfl <| tLd rfl rfl <| zca rfl (ohid_spec (hg.mono hM1) o (hname.mono hM1) (hsec.mono hM1) (by omega) (by omega) q 65533 (by omega)) ?_
 rintro _ M2 _ hM2 ⟨rfl, A2, m2, c2, rfl, hA2⟩
 have hd := hM1.trans hM2
 have hm2 := hA2.size
 rw [hidB_len ho] at hm2
 subst hm2
 refine asS rfl <| zq <| .s5 3 4 5 6 9 rfl rfl rfl rfl rfl <| zr <| tLg rfl rfl <| tFa rfl <| tLd rfl rfl <| tLd rfl rfl <| mvS rfl <| mvS rfl <| zca rfl (osum_spec (hg.mono hd) o ho (hname.mono hd) hnl q hA2 (htext.mono hd) (by omega) (by omega)) ?_
 rintro _ M3 _ hM3 ⟨rfl, A3, c3, rfl, hr3⟩
 replace hd := hd.trans hM3
 obtain ⟨ds, hds⟩ : ∃ ds, ds = digO o name q.toNat (hidB o name sec q.toNat 65533) text := ⟨_, rfl⟩
 rw [← hds] at hr3
 refine tl_e rfl <| e_alloc <| fun b4 => tl_e rfl <| e_sT rfl rfl <| zq <| .s5 4 5 6 9 10 rfl rfl rfl rfl rfl <| zr <| tLg rfl rfl <| tl_y rfl (y_makeFunc rfl rfl) <| tl_e rfl (e_call' rfl (oall_spec o ho.hp (by omega) (rows := sigR o name sec q.toNat ds) (sigR_le o name sec q.toNat ds) (fun i M2 X hi hM2 hX => by
  haveI i1 : Has X b1 (.cells (List.toArray o.cells) 103 (0, 0)) := ⟨hX _ (Has.mem)⟩
  haveI i2 : Has X b2 (.cells (List.toArray (seedC NA nl nc SA sl sc)) 33 (0, 0)) := ⟨hX _ (Has.mem)⟩
  haveI i3 : Has X b3 (.cells #[.int .u32 (q.toNat : Int)] 61 (0, 0)) := ⟨hX _ (Has.mem)⟩
  haveI i4 : Has X b4 (.cells #[.slice A3 p c3] 68 (0, 0)) := ⟨hX _ (Has.mem)⟩
  exact oSign1_spec ((hg.mono hd).mono hM2) o ho ((hname.mono hd).mono hM2) ((hsec.mono hd).mono hM2) (by omega) (by omega) q (hr3.mono hM2) i hi)) ?_)
 rintro _ M4 _ hM4 ⟨rfl, A4, m4, c4, rfl, hA4⟩
 replace hd := hd.trans hM4
 have hm4 := hA4.size
 have hle := catR_le (sigR_le o name sec q.toNat ds) p
 refine asS rfl <| zq <| .s3 4 9 11 rfl rfl rfl <| zr <| tFa rfl <| tLd rfl rfl <| tl_y rfl (y_convN64 rfl (by omega)) ?_
 refine zca rfl (PutV_spec o.code.toNat 4 (by omega) (by omega)) ?_
 rintro _ M5 _ hM5 ⟨rfl, A5, c5, rfl, hA5⟩
 replace hd := hd.trans hM5
 refine mvS rfl <| mvS rfl <| tl_e rfl <| e_buildSlice rfl (by decide) <| fun b7 => .pub b7 iI <| fun M6 hM6 hb7 => ?_
 replace hd := hd.trans hM6
 have hfl : [putB o.code.toNat 4, hidB o name sec q.toNat 65533, catR (sigR o name sec q.toNat ds) p].flatten = sigB o name sec q.toNat text := by
  rw [sigB, ho.hp, Int.toNat_natCast, saltB, ← hds]; simp
 have hfll : (sigB o name sec q.toNat text).length ≤ 10000 := by
  rw [← hfl]
  simp only [List.flatten_cons, List.flatten_nil, List.length_append, List.length_nil, putB_length]
  rw [hidB_len ho]
  omega
 refine zca rfl (Cat_spec (Row.whole hb7 rfl (by omega)) (.cons (hA5.mono hM6) (.cons (hA2.mono (hM3.trans (hM4.trans (hM5.trans hM6)))) (.cons (hA4.mono (hM5.trans hM6)) .nil))) (by rw [hfl]; omega)) ?_
 rintro _ M7 _ hM7 ⟨rfl, A7, c7, rfl, hA7⟩
 rw [hfl] at hA7
 rw [hfl]
 refine asS rfl <| zq <| .s1 8 rfl <| x_ret (.dropTo L iI (ret1 rfl rfl (hd.trans hM7) ⟨rfl, _, _, _, rfl, by rw [if_pos ⟨hok, by omega⟩]; exact hA7⟩))
end
def sigC (bs : List UInt8) : UInt32 := UInt32.ofNat (getB (bs.take 4))
def ofV (bs : List UInt8) : OtsV × Int :=
 if bs.length < 4 then (ots0, 2) else if otsE (sigC bs) ≠ 0 then (ots0, otsE (sigC bs)) else if bs.length ≠ sizeN (otsV (sigC bs)) then (ots0, 5) else (otsV (sigC bs), 0)
theorem otsV_code {c : UInt32} (h : otsE c = 0) : (otsV c).code = c ∧ okO (otsV c) := by
 obtain ⟨k, hk, e1, e2, e3⟩ := otsE_some h
 have hc : (otsV c).code = c := by
  rw [e2]
  apply UInt32.toNat_inj.1
  show (UInt32.ofNat (k + 1)).toNat = c.toNat
  rw [UInt32.toNat_ofNat', e3, Nat.mod_eq_of_lt (by omega)]
 exact ⟨hc, by rw [okO, hc]; exact ⟨h, rfl⟩⟩
theorem OF.size {o : OtsV} {n w p : Nat} (h : OF o n w p) : sizeN o = 4 + n * (p + 1) ∧ n * (p + 1) = n * p + n ∧ n * p ≤ 32 * 265 := by
 refine ⟨by rw [sizeN, h.hn, h.hp, Int.toNat_natCast, Int.toNat_natCast], Nat.mul_succ n p, Nat.mul_le_mul h.n32.2 h.p2⟩
section
variable {G : World} {M : Mem} {L : Own} {NA SA TA YA : Option Addr} {nl nc sl sc tl tc yl yc : Nat} {name sec text y : List UInt8}
theorem oSize_spec (o : OtsV) {n w p : Nat} (ho : OF o n w p) :
  Con Tryz.prog 170 #[.agg (List.toArray o.cells)] G M L (fun v M' L' => M = M' ∧ L = L' ∧ v = .int .i64 ((sizeN o : Nat) : Int)) noPanic := by
 obtain ⟨h1, h2, h3⟩ := ho.size
 have hn32 := ho.n32
 have hp2 := ho.p2
 have hm : (n : Int) * ((p : Int) + 1) = ((n * (p + 1) : Nat) : Int) := by push_cast; rfl
 refine zfn Tryz.func170 rfl 10 rfl <| zr <| tl_e rfl <| e_box rfl <| fun b1 => as0 rfl <| zq <| zr <| tFa rfl <| tl_y rfl (y_load (v := .int .i64 (n : Int)) rfl rfl (by rw [← ho.hn]; exact .own iI iI)) <| tFa rfl <| tl_y rfl (y_load (v := .int .i64 (p : Int)) rfl rfl (by rw [← ho.hp]; exact .own iI iI)) <| tl_y rfl (y_addI rfl rfl (by omega)) ?_
 have hmb : -9223372036854775808 ≤ (n : Int) * ((p : Int) + 1) ∧ (n : Int) * ((p : Int) + 1) ≤ 9223372036854775807 := by rw [hm]; omega
 refine tl_y rfl (y_mulI rfl rfl hmb) ?_
 rw [hm]
 refine tl_y rfl (y_addI rfl rfl (by omega)) <| asI rfl <| zq <| .s1 2 rfl <| x_ret (.dropTo L iI (ret1 rfl rfl lR ⟨rfl, rfl, by rw [h1]; congr 1⟩))
theorem oof_spec (hs : SetG M) {A : Option Addr} {m c : Nat} {bs : List UInt8} (h : Bytes M A m c bs) :
  Con Tryz.prog 220 #[.slice A m c] G M L (fun v M' L' => L = L' ∧ v = .tuple #[.agg (List.toArray (ofV bs).1.cells), .int .i64 (ofV bs).2]) noPanic := by
 have hm := h.size
 have hc := h.le
 refine zfn Tryz.func220 rfl 37 rfl <| zr <| tl_e rfl <| e_alloc <| fun b1 => as0 rfl <| zq <| zr2 <| mvS rfl <| tLen rfl <| tl_y rfl (y_lss rfl rfl) <| zq <| x_cond rfl (fun hc1 => ?_) (fun hc1 => ?_)
 ·
  refine zr <| tl_y rfl (y_build rfl) <| tl_e rfl <| e_sT rfl rfl <| as0 rfl <| zq <| .s2 2 3 rfl rfl <| x_ret (.then_ret (retRV (L' := L) (rv2 rfl (rc_cellAgg (by rfl) rfl (.own iI iI)) (rc_tmp (by rfl))) iI lR ⟨rfl, by rw [ofV, if_pos (by omega)]; rfl⟩))
 have h4 : 4 ≤ m := by omega
 refine x_skip <| .then_normal <| .s2 0 2 rfl rfl <| zr <| mvS rfl <| tl_y rfl (y_sliceH rfl rfl (by omega) (by omega)) ?_
 refine zca rfl (Get8_spec (Bytes.take h 4 h4) (by omega)) ?_
 rintro _ _ _ _ ⟨rfl, rfl, x, hx, rfl⟩
 have hgl := getB_lt (bs.take 4)
 rw [List.length_take, Nat.min_eq_left (by omega)] at hgl
 have hcv : ((sigC bs).toNat : Int) = (x.toNat : Int) := by rw [sigC, UInt32.toNat_ofNat', hx, Nat.mod_eq_of_lt (by omega)]
 refine mvU rfl <| zx rfl <| zx rfl <| asI rfl <| asB rfl <| zq <| .s3 0 2 4 rfl rfl rfl <| zr <| mvI rfl <| tl_y rfl (y_convE (b := ((sigC bs).toNat : Int)) rfl (by rw [wrapU32, hcv]; omega)) <| zca rfl (Ots_spec hs (sigC bs)) ?_
 rintro _ M1 _ hM1 ⟨rfl, rfl⟩
 refine mvU rfl <| zx rfl <| zx rfl <| tl_e rfl <| e_alloc <| fun b2 => tl_e rfl <| e_sT rfl rfl <| asI rfl <| zq <| .s4 0 2 6 7 rfl rfl rfl rfl <| x_seq <| x_block <| zr <| mvI rfl <| tl_y rfl (y_neq rfl rfl) <| asB rfl <| zq <| x_cond rfl (fun hc2 => ?_) (fun hc2 => ?_)
 ·
  refine zr <| tl_y rfl (y_build rfl) <| mvI rfl <| tl_e rfl <| e_sT rfl rfl <| asI rfl <| zq <| .s3 2 3 6 rfl rfl rfl <| x_ret (.block_ret (.then_ret (retRV (L' := L) (rv2 rfl (rc_cellAgg (by rfl) rfl (.own iI iI)) (rc_tmp (by rfl))) iI hM1 ⟨rfl, by rw [ofV, if_neg (by omega), if_pos hc2]; rfl⟩)))
 have he0 : otsE (sigC bs) = 0 := Classical.not_not.1 hc2
 obtain ⟨n, w, p, ho⟩ := okO_facts (otsV_code he0).2
 refine zr <| mvS rfl <| tLen rfl <| tLg rfl rfl <| zca rfl (oSize_spec _ ho) ?_
 rintro _ _ _ _ ⟨rfl, rfl, rfl⟩
 refine tl_y rfl (y_neq rfl rfl) <| asB rfl <| zq <| .s3 2 6 29 rfl rfl rfl <| x_cond rfl (fun hc3 => ?_) (fun hc3 => ?_)
 ·
  refine zr <| tl_y rfl (y_build rfl) <| tl_e rfl <| e_sT rfl rfl <| as0 rfl <| zq <| x_ret (.block_ret (.then_ret (retRV (L' := L) (rv2 rfl (rc_cellAgg (by rfl) rfl (.own iI iI)) (rc_tmp (by rfl))) iI hM1 ⟨rfl, by rw [ofV, if_neg (by omega), if_neg hc2, if_pos (by omega)]; rfl⟩)))
 refine x_skip <| .block_normal <| .then_normal <| zr <| tLg rfl rfl <| tl_e rfl <| e_sT rfl rfl <| as0 rfl <| zq <| x_ret (retRV (L' := L) (rv2 rfl (rc_cellAgg (by rfl) rfl (.own iI iI)) (rc_tmp (by rfl))) iI hM1 ⟨rfl, by rw [ofV, if_neg (by omega), if_neg hc2, if_neg (by omega)]⟩)
theorem oStands1_spec (hg : ChG M) (o : OtsV) {n w p : Nat} (ho : OF o n w p) (hname : Bytes M NA nl nc name) (q : UInt32) {DA : Option Addr} {dc : Nat} {d : List Nat} (hd : Row M 1 DA p dc (intsL d)) (hy : Bytes M YA yl yc y) (hyl : yl = n * p) (i : Nat) (hi : i < p) {bo bn bq bd by_ : Nat}
  [i1 : Has L bo (.cells (List.toArray o.cells) 103 (0, 0))] [i2 : Has L bn (.cells #[.slice NA nl nc] 22 (0, 0))] [i3 : Has L bq (.cells #[.int .u32 (q.toNat : Int)] 61 (0, 0))] [i4 : Has L bd (.cells #[.slice DA p dc] 68 (0, 0))] [i5 : Has L by_ (.cells #[.slice YA yl yc] 22 (0, 0))] :
  Con Tryz.prog 221 #[.int .i64 (i : Int), .pointer (some ⟨bo, 0, none⟩), .pointer (some ⟨bn, 0, none⟩), .pointer (some ⟨bq, 0, none⟩), .pointer (some ⟨bd, 0, none⟩), .pointer (some ⟨by_, 0, none⟩)] G M L (fun v M' L' => L = L' ∧ ∃ A m c, v = .slice A m c ∧ Bytes M' A m c (staR o name q.toNat d y i)) noPanic := by
 have hp2 := ho.p2
 have hn32 := ho.n32
 have hdl : d.length = p := by have := hd.len; simpa [intsL] using this
 obtain ⟨g, oo, rfl, hcell⟩ := hd.addr (by omega)
 have hyc := hy.le
 have hin : i * n + n ≤ n * p := by
  have := Nat.mul_le_mul_left n (show i + 1 ≤ p from hi)
  rw [Nat.mul_succ, Nat.mul_comm n i] at this
  omega
 have hin2 : n * p ≤ 32 * 265 := Nat.mul_le_mul hn32.2 hp2
 have hm1 : (i : Int) * (n : Int) = ((i * n : Nat) : Int) := by push_cast; rfl
 have hm2 : ((i : Int) + 1) * (n : Int) = ((i * n + n : Nat) : Int) := by rw [Int.add_mul, Int.one_mul, hm1]; push_cast; rfl
 have hsub := Bytes.sub hy (i * n) (i * n + n) (by omega) (by omega)
 rw [show i * n + n - i * n = n by omega] at hsub
 refine zfn Tryz.func221 rfl 30 rfl <| zr <| as0 rfl <| zq <| x_seq ?_
 have he : Le M M := Le.refl _
 refine x_draw 23 hmix rfl <| zy 0 rfl rfl (y_lg rfl rfl) <| pLd 1 rfl rfl rfl <| pLd 2 rfl rfl rfl <| pmI 3 rfl rfl <| pLd 4 rfl rfl rfl <| pmI 5 rfl rfl <| zp 6 rfl rfl (y_indexAddrK i rfl rfl (by omega)) <| zy 7 rfl rfl (y_load rfl rfl (.at_ (hcell _ i _ (intsL_at (by omega))) (by omega))) <| zy 8 rfl rfl (y_lg rfl rfl) ?_
 refine pLd 10 rfl rfl rfl <| pmI 11 rfl rfl <| pFa 12 rfl rfl <| zy 13 rfl rfl (y_load (v := .int .i64 (n : Int)) rfl rfl (by rw [← ho.hn]; exact .own iI iI)) <| zp 14 rfl rfl (y_mulI rfl rfl (by rw [hm1]; omega)) ?_
 rw [hm1]
 refine pmI 15 rfl rfl <| zp 16 rfl rfl (y_addI rfl rfl (by omega)) <| pFa 17 rfl rfl <| zy 18 rfl rfl (y_load (v := .int .i64 (n : Int)) rfl rfl (by rw [← ho.hn]; exact .own iI iI)) <| zp 19 rfl rfl (y_mulI rfl rfl (by rw [hm2]; omega)) ?_
 rw [hm2]
 refine zp 20 rfl rfl (y_sliceLH rfl rfl rfl (by omega) (by omega)) ?_
 rw [Int.toNat_natCast, Int.toNat_natCast, show i * n + n - i * n = n by omega]
 refine ze 9 rfl rfl <| e_call' rfl (otop_spec o ho) ?_
 rintro _ _ _ _ ⟨rfl, rfl, rfl⟩
 refine kp ?_
 refine ze 21 rfl rfl <| e_call' rfl (Up_spec' hg.sha hg.kec hg.set o hname hsub q i ((d.getD i 0 : Nat) : Int) (topN o)) ?_
 rintro _ M3 _ hM3 ⟨rfl, A3, m3, c3, rfl, hA3⟩
 replace he := he.trans hM3
 refine kp ?_
 refine paS 22 rfl rfl <| zz <| .then_normal <| .s1 7 rfl <| x_ret (ret1 rfl rfl he ⟨rfl, _, _, _, rfl, by rw [staR, ho.hn, Int.toNat_natCast]; exact hA3⟩)
def staE (nl tl : Nat) (sig : List UInt8) : Int := if nl ≠ 16 ∨ tl > 65536 then 1 else (ofV sig).2
def staV (nl tl : Nat) (name : List UInt8) (q : Nat) (text sig : List UInt8) : List UInt8 := if staE nl tl sig = 0 then staB (ofV sig).1 name q text sig else []
theorem ofV_ok {bs : List UInt8} (h : (ofV bs).2 = 0) : okO (ofV bs).1 ∧ bs.length = sizeN (ofV bs).1 ∧ otsE (sigC bs) = 0 ∧ (ofV bs).1 = otsV (sigC bs) := by
 unfold ofV at h ⊢
 split at h
 ·
  cases h
 rename_i h1
 split at h
 ·
  rename_i h2; exact absurd h h2
 rename_i h2
 split at h
 ·
  cases h
 rename_i h3
 rw [if_neg h1, if_neg h2, if_neg h3]
 exact ⟨(otsV_code (Classical.not_not.1 h2)).2, Classical.not_not.1 h3, Classical.not_not.1 h2, rfl⟩
theorem oStands_spec (hg : ChG M) (hname : Bytes M NA nl nc name) (q : UInt32) (htext : Bytes M TA tl tc text) {A : Option Addr} {m c : Nat} {sig : List UInt8} (hsig : Bytes M A m c sig) :
  Con Tryz.prog 172 #[.slice NA nl nc, .int .u32 (q.toNat : Int), .slice TA tl tc, .slice A m c] G M L (fun v M' L' => L = L' ∧ ∃ A' m' c', v = .tuple #[.slice A' m' c', .int .i64 (staE nl tl sig)] ∧ Bytes M' A' m' c' (staV nl tl name q.toNat text sig)) noPanic := by
 have hsl := hsig.size
 have hsc := hsig.le
 refine zfn Tryz.func172 rfl 60 rfl <| zr <| tl_e rfl <| e_box rfl <| fun b1 => tl_e rfl <| e_box rfl <| fun b2 => as0 rfl <| as0 rfl <| zq <| .s4 2 3 4 5 rfl rfl rfl rfl <| zr2 <| tLd rfl rfl <| tLen rfl <| tl_y rfl (y_neq rfl rfl) <| mvB rfl <| tl_cases (s := 19) rfl (fun hk1 => ?_) (fun hk1 => ?_)
 ·
  have hE1 : staE nl tl sig = 1 := by rw [staE, if_pos (.inl (by omega))]
  refine sk3 rfl rfl rfl <| tPt rfl rfl <| zq <| .s5 2 3 4 5 23 rfl rfl rfl rfl rfl <| x_true rfl rfl <| zr <| as0 rfl <| as0 rfl <| zq <| .s2 8 9 rfl rfl <| x_ret (.then_ret (.dropTo L iI (ret2 rfl rfl rfl lR ⟨rfl, none, 0, 0, by rw [hE1], by rw [staV, hE1, if_neg (by decide)]; exact Row.nil _ _⟩)))
 refine mvS rfl <| tLen rfl <| tl_y rfl (y_gtr rfl rfl) <| tPf rfl rfl <| zq <| .s5 2 3 4 5 23 rfl rfl rfl rfl rfl <| x_cond rfl (fun hc1 => ?_) (fun hc1 => ?_)
 ·
  have hE1 : staE nl tl sig = 1 := by rw [staE, if_pos (.inr (by omega))]
  refine zr <| as0 rfl <| as0 rfl <| zq <| .s2 8 9 rfl rfl <| x_ret (.then_ret (.dropTo L iI (ret2 rfl rfl rfl lR ⟨rfl, none, 0, 0, by rw [hE1], by rw [staV, hE1, if_neg (by decide)]; exact Row.nil _ _⟩)))
 have hn16 : nl = 16 := by omega
 have htl : tl ≤ 65536 := by omega
 have hE : staE nl tl sig = (ofV sig).2 := by rw [staE, if_neg (by omega)]
 refine x_skip <| .then_normal <| zr <| mvS rfl <| zca rfl (oof_spec hg.set hsig) ?_
 rintro _ M1 _ hM1 ⟨rfl, rfl⟩
 refine mvU rfl <| zx rfl <| zx rfl <| tl_e rfl <| e_alloc <| fun b3 => tl_e rfl <| e_sT rfl rfl <| asI rfl <| zq <| .s6 2 3 4 5 10 11 rfl rfl rfl rfl rfl rfl <| zr2 <| mvI rfl <| tl_y rfl (y_neq rfl rfl) <| zq <| x_cond rfl (fun hc2 => ?_) (fun hc2 => ?_)
 ·
  refine zr <| mvI rfl <| as0 rfl <| asI rfl <| zq <| .s2 8 9 rfl rfl <| x_ret (.then_ret (.dropTo L iI (ret2 rfl rfl rfl hM1 ⟨rfl, none, 0, 0, by rw [hE], by rw [staV, hE, if_neg hc2]; exact Row.nil _ _⟩)))
 have he0 : (ofV sig).2 = 0 := Classical.not_not.1 hc2
 obtain ⟨hok, hlen, _, _⟩ := ofV_ok he0
 obtain ⟨o, hoe⟩ : ∃ o, o = (ofV sig).1 := ⟨_, rfl⟩
 rw [← hoe] at hok hlen ⊢
 obtain ⟨n, w, p, ho⟩ := okO_facts hok
 obtain ⟨hz1, hz2, hz3⟩ := ho.size
 have hn32 := ho.n32
 have hp2 := ho.p2
 have hsalt := Bytes.sub hsig 4 (4 + n) (by omega) (by omega)
 rw [show 4 + n - 4 = n by omega] at hsalt
 have hyy := Bytes.sub hsig (4 + n) m (by omega) (by omega)
 rw [List.take_of_length_le (by rw [List.length_drop]; omega)] at hyy
 have hts := htext.size
 refine x_skip <| .then_normal <| x_seq <| x_draw 12 hmix rfl <| pmS 0 rfl rfl <| pFa 1 rfl rfl <| zy 2 rfl rfl (y_load (v := .int .i64 (n : Int)) rfl rfl (by rw [← ho.hn]; exact .own iI iI)) <| zp 3 rfl rfl (y_addI rfl rfl (by omega)) <| zp 4 rfl rfl (y_sliceLH rfl rfl rfl (by omega) (by omega)) ?_
 rw [show ((4 : Int) + (n : Int)).toNat = 4 + n by omega, show (4 : Int).toNat = 4 from rfl, show 4 + n - 4 = n by omega]
 refine pmS 5 rfl rfl <| pFa 6 rfl rfl <| zy 7 rfl rfl (y_load (v := .int .i64 (n : Int)) rfl rfl (by rw [← ho.hn]; exact .own iI iI)) <| zp 8 rfl rfl (y_addI rfl rfl (by omega)) <| zp 9 rfl rfl (y_sliceL rfl rfl (by omega)) ?_
 rw [show ((4 : Int) + (n : Int)).toNat = 4 + n by omega]
 refine ze 10 rfl rfl <| e_alloc <| fun b4 => kp ?_
 refine paS 11 rfl rfl <| zt 12 rfl rfl <| e_sT rfl rfl <| zz <| .then_normal <| .s6 2 4 5 10 12 13 rfl rfl rfl rfl rfl rfl <| zr <| tLg rfl rfl <| tLd rfl rfl <| tLd rfl rfl <| mvS rfl <| mvS rfl ?_
 refine zca rfl (osum_spec (hg.mono hM1) o ho (hname.mono hM1) hn16 q (hsalt.mono hM1) (htext.mono hM1) (by omega) (by omega)) ?_
 rintro _ M3 _ hM3 ⟨rfl, A3, c3, rfl, hr3⟩
 have hd := hM1.trans hM3
 obtain ⟨ds, hds⟩ : ∃ ds, ds = digO o name q.toNat ((sig.drop 4).take n) text := ⟨_, rfl⟩
 rw [← hds] at hr3
 refine tl_e rfl <| e_alloc <| fun b5 => tl_e rfl <| e_sT rfl rfl <| zq <| .s5 4 5 10 13 14 rfl rfl rfl rfl rfl <| zr <| tLg rfl rfl <| tl_y rfl (y_makeFunc rfl rfl) <| tl_e rfl (e_call' rfl (oall_spec o ho.hp (by omega) (rows := staR o name q.toNat ds (sig.drop (4 + n))) (staR_le ho name q.toNat ds (sig.drop (4 + n))) (fun i M2 X hi hM2 hX => by
  haveI i1 : Has X b3 (.cells (List.toArray o.cells) 103 (0, 0)) := ⟨hX _ (Has.mem)⟩
  haveI i2 : Has X b1 (.cells #[.slice NA nl nc] 22 (0, 0)) := ⟨hX _ (Has.mem)⟩
  haveI i3 : Has X b2 (.cells #[.int .u32 (q.toNat : Int)] 61 (0, 0)) := ⟨hX _ (Has.mem)⟩
  haveI i4 : Has X b5 (.cells #[.slice A3 p c3] 68 (0, 0)) := ⟨hX _ (Has.mem)⟩
  haveI i5 : Has X b4 (.cells #[.slice (sl A (4 + n) c 1) (m - (4 + n)) (c - (4 + n))] 22 (0, 0)) := ⟨hX _ (Has.mem)⟩
  exact oStands1_spec ((hg.mono hd).mono hM2) o ho ((hname.mono hd).mono hM2) q (hr3.mono hM2) ((hyy.mono hd).mono hM2) (by omega) i hi)) ?_)
 rintro _ M4 _ hM4 ⟨rfl, A4, m4, c4, rfl, hA4⟩
 replace hd := hd.trans hM4
 have hm4 := hA4.size
 have hle := catR_le (staR_le ho name q.toNat ds (sig.drop (4 + n))) p
 refine asS rfl <| zq <| .s4 4 5 10 15 rfl rfl rfl rfl <| zr <| tFa rfl <| tLd rfl rfl <| tFa rfl <| tLd rfl rfl <| tLd rfl rfl <| tLd rfl rfl <| mvS rfl <| tl_e rfl <| e_buildSlice rfl (by decide) <| fun b7 => .pub b7 iI <| fun M5 hM5 hb7 => ?_
 replace hd := hd.trans hM5
 refine zca rfl (Part_spec (hg.mono hd).sha (hg.mono hd).kec o.kind o.n (hname.mono hd) q 32896 (by omega) (Row.whole hb7 rfl (by omega)) (.cons (hA4.mono hM5) .nil) (by simp only [List.flatten_cons, List.flatten_nil, List.length_append, List.length_nil]; omega)) ?_
 rintro _ M6 _ hM6 ⟨rfl, A6, m6, c6, rfl, hA6⟩
 rw [show [catR (staR o name q.toNat ds (sig.drop (4 + n))) p].flatten = catR (staR o name q.toNat ds (sig.drop (4 + n))) p by simp] at hA6
 refine asS rfl <| as0 rfl <| zq <| .s2 8 9 rfl rfl <| x_ret (.dropTo L iI (ret2 rfl rfl rfl (hd.trans hM6) ⟨rfl, _, _, _, by rw [hE, he0], by
  rw [staV, hE, if_pos he0, ← hoe, staB, show o.n.toNat = n by rw [ho.hn]; rfl, show o.p.toNat = p by rw [ho.hp]; rfl, ← hds]
  exact hA6⟩))
end
theorem upC_add10 (o : OtsV) (name : List UInt8) (q i f : Nat) (x : List UInt8) (a b : Nat) : upC o name q i f x (a + b) = upC o name q i (f + a) (upC o name q i f x a) b := by
 induction b with
 | zero => rfl
 | succ b ih => rw [← Nat.add_assoc, upC, upC, ih, Nat.add_assoc]
theorem okR_of {o : OtsV} {n w p : Nat} (ho : OF o n w p) {nl i xl : Nat} (hn : nl = 16) (hi : i < p) (hx : xl = n) : okR o nl (i : Int) xl := by
 refine ⟨ho.ok.1, ho.ok.2, hn, by omega, ?_, ?_⟩
 ·
  rw [ho.hp]; omega
 rw [ho.hn, hx]
theorem cUp_of {o : OtsV} {n w p : Nat} (ho : OF o n w p) {name : List UInt8} (hn : name.length = 16) (q : Nat) {i f t : Nat} (hi : i < p) (hft : f ≤ t) (ht : t < pw2 w) {x : List UInt8} (hx : x.length = n) :
  cUp o name q (i : Int) (f : Int) (t : Int) x = upC o name q i f x (t - f) ∧ (upC o name q i f x (t - f)).length = n := by
 refine ⟨?_, ?_⟩
 ·
  rw [cUp, if_pos ⟨okR_of ho hn hi hx, by omega, by omega, by rw [ho.hw, Int.toNat_natCast]; omega⟩]
  rw [Int.toNat_natCast, Int.toNat_natCast, show ((t : Int) - (f : Int)).toNat = t - f by omega]
 have := upC_length ho.c sha_length name q i f (x := x) (by rw [hx, ho.hn]) (t - f)
 rw [ho.hn] at this
 omega
theorem topN_of {o : OtsV} {n w p : Nat} (ho : OF o n w p) : topN o = ((pw2 w - 1 : Nat) : Int) := by
 have := ho.w2
 rw [topN, ho.hw, Int.toNat_natCast]; omega
theorem chain_two {o : OtsV} {n w p : Nat} (ho : OF o n w p) {name : List UInt8} (hn : name.length = 16) (q : Nat) {i d : Nat} (hi : i < p) (hd : d < pw2 w) {x : List UInt8} (hx : x.length = n) :
  cUp o name q (i : Int) (d : Int) (topN o) (cUp o name q (i : Int) 0 (d : Int) x) = cUp o name q (i : Int) 0 (topN o) x := by
 have hw := ho.w2
 obtain ⟨h1, h2⟩ := cUp_of ho hn q (f := 0) (t := d) hi (by omega) hd hx
 obtain ⟨h3, _⟩ := cUp_of ho hn q (f := 0) (t := pw2 w - 1) hi (by omega) (by omega) hx
 rw [topN_of ho]
 have e0 : ((0 : Nat) : Int) = 0 := rfl
 rw [e0] at h1 h3
 rw [h1, h3, Nat.sub_zero, Nat.sub_zero] at *
 obtain ⟨h5, _⟩ := cUp_of ho hn q (f := d) (t := pw2 w - 1) hi (by omega) (by omega) h2
 rw [h5, ← Nat.zero_add d, Nat.zero_add d]
 have := upC_add10 o name q i 0 x d (pw2 w - 1 - d)
 rw [Nat.zero_add, show d + (pw2 w - 1 - d) = pw2 w - 1 by omega] at this
 exact this.symm
theorem sigR_len {o : OtsV} {n w p : Nat} (ho : OF o n w p) {name : List UInt8} (hn : name.length = 16) (sec : List UInt8) (q : Nat) {ds : List Nat} (hd : ∀ d ∈ ds, d < pw2 w) (hdl : ds.length = p) {i : Nat} (hi : i < p) : (sigR o name sec q ds i).length = n := by
 have hdi : ds.getD i 0 < pw2 w := hd _ (by rw [List.getD_eq_getElem?_getD, List.getElem?_eq_getElem (by omega)]; exact List.getElem_mem _)
 obtain ⟨h1, h2⟩ := cUp_of ho hn q (f := 0) (t := ds.getD i 0) hi (by omega) hdi (hidB_len ho name sec q i)
 rw [sigR]
 have e0 : ((0 : Nat) : Int) = 0 := rfl
 rw [e0] at h1
 rw [h1]; exact h2
theorem drop_at {a b : List UInt8} {k : Nat} (h : a.length = k) : (a ++ b).drop k = b := by subst h; exact List.drop_left
theorem take_at {a b : List UInt8} {k : Nat} (h : a.length = k) : (a ++ b).take k = a := by subst h; exact List.take_left
theorem sig_parts {o : OtsV} {n w p : Nat} (ho : OF o n w p) {name : List UInt8} (hn : name.length = 16) (sec : List UInt8) (q : Nat) (text : List UInt8) :
  (sigB o name sec q text).length = sizeN o ∧ ofV (sigB o name sec q text) = (o, 0) ∧ ((sigB o name sec q text).drop 4).take n = saltB o name sec q ∧
   (sigB o name sec q text).drop (4 + n) = catR (sigR o name sec q (digO o name q (saltB o name sec q) text)) p := by
 obtain ⟨hdl, hdd⟩ := digO_get ho name q (saltB o name sec q) text
 have hsl : (saltB o name sec q).length = n := hidB_len ho name sec q 65533
 have hcl := o.code.toNat_lt
 have hp4 : (putB o.code.toNat 4).length = 4 := putB_length 4 _
 have hrl := catR_len (rows := sigR o name sec q (digO o name q (saltB o name sec q) text)) (n := n) p (fun i hi => sigR_len ho hn sec q hdd hdl hi)
 obtain ⟨hz1, hz2, hz3⟩ := ho.size
 have hl : (sigB o name sec q text).length = sizeN o := by
  rw [sigB, List.length_append, List.length_append, hp4, hsl, ho.hp, Int.toNat_natCast, hrl, hz1, hz2, Nat.mul_comm p n]; omega
 have hc : sigC (sigB o name sec q text) = o.code := by
  rw [sigC, sigB, List.take_append_of_le_length (by omega), List.take_of_length_le (by omega), getB_put]
  apply UInt32.toNat_inj.1
  rw [UInt32.toNat_ofNat', Nat.mod_eq_of_lt, Nat.mod_eq_of_lt]
  ·
   omega
  exact Nat.lt_of_le_of_lt (Nat.mod_le _ _) hcl
 refine ⟨hl, ?_, ?_, ?_⟩
 ·
  rw [ofV, hc, if_neg (by rw [hl, hz1]; omega), if_neg (fun h => h ho.ok.1), ho.ok.2, if_neg (by rw [hl]; simp)]
 ·
  rw [sigB, drop_at hp4, take_at hsl]
 rw [sigB, ← List.append_assoc, ho.hp, Int.toNat_natCast]
 exact drop_at (by rw [List.length_append, hp4, hsl])
theorem sig_stands {o : OtsV} {n w p : Nat} (ho : OF o n w p) {name : List UInt8} (hn : name.length = 16) (sec : List UInt8) (q : Nat) (text : List UInt8) : staB o name q text (sigB o name sec q text) = keyB o name sec q := by
 obtain ⟨h1, h2, h3, h4⟩ := sig_parts ho hn sec q text
 obtain ⟨hdl, hdd⟩ := digO_get ho name q (saltB o name sec q) text
 rw [staB, keyB, ho.hp, Int.toNat_natCast, show o.n.toNat = n by rw [ho.hn]; rfl, h3, h4]
 congr 1
 refine catR_congr p <| fun i hi => ?_
 have hdi : (digO o name q (saltB o name sec q) text).getD i 0 < pw2 w := hdd _ (by rw [List.getD_eq_getElem?_getD, List.getElem?_eq_getElem (by omega)]; exact List.getElem_mem _)
 rw [staR, show o.n.toNat = n by rw [ho.hn]; rfl, catR_row (fun j hj => sigR_len ho hn sec q hdd hdl hj) hi, sigR, keyR]
 exact chain_two ho hn q hi hdi (hidB_len ho name sec q i)
theorem sta_sig {o : OtsV} {n w p : Nat} (ho : OF o n w p) {name : List UInt8} (hn : name.length = 16) (sec : List UInt8) (q : Nat) (text : List UInt8) {nl tl : Nat} (h16 : nl = 16) (htl : tl ≤ 65536) :
  staE nl tl (sigB o name sec q text) = 0 ∧ staV nl tl name q text (sigB o name sec q text) = keyB o name sec q := by
 obtain ⟨_, h2, _, _⟩ := sig_parts ho hn sec q text
 have hE : staE nl tl (sigB o name sec q text) = 0 := by rw [staE, if_neg (by omega), h2]
 exact ⟨hE, by rw [staV, if_pos hE, h2]; exact sig_stands ho hn sec q text⟩
def leavesN (h : Int) : Nat := if h < 1 ∨ 25 < h then 0 else pw2 h.toNat
theorem pw2_25 {h : Nat} (hh : h ≤ 25) : pw2 h ≤ 33554432 := pw2_le (k := 25) hh
theorem pw2_pos (h : Nat) : 1 ≤ pw2 h := Nat.one_le_two_pow
theorem shl64_one {h : Nat} (hh : h ≤ 25) : (shl64 1 h).toNat = pw2 h := by
 have h1 := pw2_25 hh
 have h2 : pw2 h = 2 ^ h := rfl
 rw [shl64, UInt64.toNat_ofNat', show (1 : UInt64).toNat = 1 from rfl, Nat.one_mul, ← h2, Nat.mod_eq_of_lt (by omega)]
theorem treeOf_own {c : UInt32} (h : ¬ (c.toNat < 4026531841)) : treeOf c = if c.toNat - 4026531841 < 16 then some (treeT c (c.toNat - 4026531841) 4) else none := by
 rw [treeOf, if_neg (by omega)]
 by_cases h2 : c.toNat - 4026531841 < 16
 ·
  rw [if_pos (by omega), if_pos h2]
 rw [if_neg (by omega), if_neg h2]
theorem treeOf_std {c : UInt32} (h : c.toNat < 4026531841) : treeOf c = if 5 ≤ c.toNat ∧ c.toNat - 5 < 20 then some (treeT c (c.toNat - 5) 5) else none := by
 rw [treeOf]
 by_cases h2 : 5 ≤ c.toNat ∧ c.toNat - 5 < 20
 ·
  rw [if_pos (by omega), if_pos h2]
 rw [if_neg (by omega), if_neg (by omega), if_neg h2]
section
variable {G : World} {M : Mem} {L : Own}
theorem Tree1_spec (hg : SetT M) (code : UInt32) {b : Nat} [hb : Has L b (.cells #[.int .u32 (code.toNat : Int)] 61 (0, 0))] :
  Con Tryz.prog 188 #[.pointer (some ⟨b, 0, none⟩)] G M L (fun v M' L' => L' = L ∧ ∃ o, treeOf code = some o ∧ v = .agg (List.toArray o.cells)) (fun ch M' L' => L' = L ∧ treeOf code = none ∧ ch = unks) := by
 have hc := code.toNat_lt
 have h1 : (5 : UInt32).toNat = 5 := rfl
 have h2 : (4026531841 : UInt32).toNat = 4026531841 := rfl
 obtain ⟨ht, hf, hh⟩ := hg.heights
 obtain ⟨ot, of_, ho⟩ := hg.own
 refine zfn Tryz.func188 rfl 36 rfl <| zr <| tl_e rfl <| e_alloc <| fun b1 => zq <| zr2 <| tLd rfl rfl <| tl_y rfl (y_geq rfl rfl) <| zq <| x_cond rfl (fun hc1 => ?_) (fun hc1 => ?_)
 ·
  refine zr <| tLd rfl rfl <| tl_e rfl (e_call rfl (setsAt_spec hg.sums code 4026531841 4 (by omega)) (by
   rintro _ _ _ _ ⟨rfl, rfl, hne, rfl⟩
   exact TP.dropTo L iI (.retA rfl lR ⟨rfl, by rw [treeOf_own (by omega), if_neg (by omega)], rfl⟩)) ?_)
  rintro _ _ _ _ ⟨rfl, rfl, hle, hlt, rfl⟩
  rw [h2] at hle hlt ⊢
  have hto : treeOf code = some (treeT code (code.toNat - 4026531841) 4) := by rw [treeOf_own (by omega), if_pos (by omega)]
  obtain ⟨i, hi⟩ : ∃ i, i = code.toNat - 4026531841 := ⟨_, rfl⟩
  rw [← hi] at hlt hto ⊢
  have hi4 : i % 4 < 4 := Nat.mod_lt _ (by omega)
  refine mvU rfl <| zx rfl <| zx rfl <| tl_e rfl <| e_alloc <| fun b2 => tl_e rfl <| e_sT rfl rfl <| asI rfl <| zq <| .s4 0 1 2 3 rfl rfl rfl rfl <| x_seq <| x_draw 9 hmix rfl ?_
  refine pLd 0 rfl rfl rfl <| pFa 1 rfl rfl <| pLd 2 rfl rfl rfl <| pFa 3 rfl rfl <| pLd 4 rfl rfl rfl <| pmI 5 rfl rfl <| zp 6 rfl rfl (y_indexArr rfl rfl (by omega)) <| zy 7 rfl rfl (y_load rfl rfl (.at_ (.ro (i := i % 4) ho (by rw [List.getElem?_toArray]; exact own_get _ hi4)) (by omega))) ?_
  refine zp 8 rfl rfl (y_build rfl) <| zt 9 rfl rfl <| e_sT rfl rfl <| zz <| .then_normal <| .s1 1 rfl <| x_ret (.then_ret (retRV (L' := L) (rv1 rfl (rc_cellAgg (by rfl) rfl (.own iI iI))) iI lR ⟨rfl, _, hto, rfl⟩))
 refine x_skip <| .then_normal <| zr <| tLd rfl rfl <| tl_e rfl (e_call rfl (setsAt_spec hg.sums code 5 5 (by omega)) (by
  rintro _ _ _ _ ⟨rfl, rfl, hne, rfl⟩
  exact TP.dropTo L iI (.retA rfl lR ⟨rfl, by rw [treeOf_std (by omega), if_neg (by omega)], rfl⟩)) ?_)
 rintro _ _ _ _ ⟨rfl, rfl, hle, hlt, rfl⟩
 rw [h1] at hle hlt ⊢
 have hto : treeOf code = some (treeT code (code.toNat - 5) 5) := by rw [treeOf_std (by omega), if_pos (by omega)]
 obtain ⟨i, hi⟩ : ∃ i, i = code.toNat - 5 := ⟨_, rfl⟩
 rw [← hi] at hlt hto ⊢
 have hi5 : i % 5 < 5 := Nat.mod_lt _ (by omega)
 refine mvU rfl <| zx rfl <| zx rfl <| tl_e rfl <| e_alloc <| fun b3 => tl_e rfl <| e_sT rfl rfl <| asI rfl <| zq <| .s4 0 1 4 5 rfl rfl rfl rfl <| x_seq <| x_draw 9 hmix rfl ?_
 refine pLd 0 rfl rfl rfl <| pFa 1 rfl rfl <| pLd 2 rfl rfl rfl <| pFa 3 rfl rfl <| pLd 4 rfl rfl rfl <| pmI 5 rfl rfl <| zp 6 rfl rfl (y_indexArr rfl rfl (by omega)) <| zy 7 rfl rfl (y_load rfl rfl (.at_ (.ro (i := i % 5) hh (by rw [List.getElem?_toArray]; exact heights_get _ hi5)) (by omega))) ?_
 refine zp 8 rfl rfl (y_build rfl) <| zt 9 rfl rfl <| e_sT rfl rfl <| zz <| .then_normal <| .s1 1 rfl <| x_ret (retRV (L' := L) (rv1 rfl (rc_cellAgg (by rfl) rfl (.own iI iI))) iI lR ⟨rfl, _, hto, rfl⟩)
theorem Tree_spec (hg : SetT M) (code : UInt32) :
  Con Tryz.prog 138 #[.int .u32 (code.toNat : Int)] G M L (fun v M' L' => L = L' ∧ v = .tuple #[.agg (List.toArray (treeV code).cells), .int .i64 (treeE code)]) noPanic := by
 refine zfn Tryz.func138 rfl 8 rfl <| zr <| tl_e rfl <| e_box rfl <| fun b1 => tl_e rfl <| e_alloc <| fun b2 => as0 rfl <| zq <| zr <| tl_y rfl (y_makeFunc rfl rfl) <| zca rfl (caughtT_spec (r := treeOf code) (first := []) (cap := [.pointer (some ⟨b1, 0, none⟩)]) (fun p q => Tree1_spec hg code)) ?_
 rintro _ M1 _ hM1 ⟨rfl, rfl⟩
 refine zx rfl <| zx rfl <| tl_e rfl <| e_sT rfl rfl <| asI rfl <| zq <| .s2 2 3 rfl rfl <| x_ret (retRV (L' := L) (rv2 rfl (rc_cellAgg (by rfl) rfl (.own iI iI)) (rc_tmp (by rfl))) iI hM1 ⟨rfl, rfl⟩)
theorem Leaves_spec (t : TreeV) :
  Con Tryz.prog 155 #[.agg (List.toArray t.cells)] G M L (fun v M' L' => M = M' ∧ L = L' ∧ v = .int .u64 (leavesN t.h : Nat)) noPanic := by
 refine zfn Tryz.func155 rfl 14 rfl <| zr <| tl_e rfl <| e_box rfl <| fun b1 => as0 rfl <| zq <| zr2 <| tFa rfl <| tLd rfl rfl <| tl_y rfl (y_lss rfl rfl) <| mvB rfl <| tl_cases (s := 6) rfl (fun hk1 => ?_) (fun hk1 => ?_)
 ·
  refine sk3 rfl rfl rfl <| tPt rfl rfl <| zq <| .s2 1 10 rfl rfl <| x_true rfl rfl <| zr <| as0 rfl <| zq <| x_ret (.then_ret (.dropTo L iI (ret1 rfl rfl lR ⟨rfl, rfl, by rw [leavesN, if_pos (by omega)]; rfl⟩)))
 refine tFa rfl <| tLd rfl rfl <| tl_y rfl (y_gtr rfl rfl) <| tPf rfl rfl <| zq <| .s2 1 10 rfl rfl <| x_cond rfl (fun hc1 => ?_) (fun hc1 => ?_)
 ·
  refine zr <| as0 rfl <| zq <| x_ret (.then_ret (.dropTo L iI (ret1 rfl rfl lR ⟨rfl, rfl, by rw [leavesN, if_pos (by omega)]; rfl⟩)))
 obtain ⟨h', hh⟩ : ∃ h' : Nat, t.h = (h' : Int) := ⟨t.h.toNat, by omega⟩
 have hlv : leavesN t.h = pw2 h' := by rw [leavesN, if_neg (by omega), hh, Int.toNat_natCast]
 rw [hlv]
 refine x_skip <| .then_normal <| zr <| tFa rfl <| tLd rfl rfl ?_
 rw [hh]
 refine tl_y rfl (y_shl64 (a := 1) rfl rfl) ?_
 rw [show u64v (shl64 1 h') = .int .u64 ((pw2 h' : Nat) : Int) from congrArg (fun (x : Nat) => Value.int .u64 (x : Int)) (shl64_one (by omega))]
 refine asI rfl <| zq <| .s1 2 rfl <| x_ret (.dropTo L iI (ret1 rfl rfl lR ⟨rfl, rfl, rfl⟩))
end
end Go.Proofs.YtplkoemjffplcaaGreatDoor
