/-
Contracts of functions, each proved by a walk through its code.
-/
import Derived.Test.YtplkoemjffplcaaGreatDoorHss4Etc
import Derived.Test.YtplkoemjffplcaaGreatDoorShakeEtc
set_option linter.all false
namespace Go.Proofs.YtplkoemjffplcaaGreatDoor
open Go Go.Eng
section
variable {G : World} {M : Mem} {R : Own} {p : Nat} {r : DRep} {S : DS}
def afterF (old b : List UInt8) (c : UInt8) : List UInt8 :=
 if c.toNat % 4 = 0 then old else if c.toNat % 4 = 1 then b else
 if c.toNat % 4 = 2 then b.take (min (c.toNat / 4) 64) ++ old.drop (min (c.toNat / 4) 64) else old.take (min (c.toNat / 4) 64) ++ b.drop (min (c.toNat / 4) 64)
theorem after_spec {L : Own} {Ao Ab : Option Addr} {no co nb cb : Nat} {old b : List UInt8} (ho : Bytes M Ao no co old) (hb : Bytes M Ab nb cb b) (hno : no = 64) (hnb : nb = 64) (c : UInt8) :
  Con Tryz.prog 70 #[.slice Ao no co, .slice Ab nb cb, .int .u8 c.toNat] G M L (fun v M' L' => L = L' ∧ ∃ A' c', v = .slice A' 64 c' ∧ Bytes M' A' 64 c' (afterF old b c)) noPanic := by
 have hc := c.toNat_lt
 have hol := ho.size
 have hbl := hb.size
 subst hno
 subst hnb
 have hk : (if (64 : Int) < (c.toNat : Int) / 4 then (64 : Int) else (c.toNat : Int) / 4) = ((min (c.toNat / 4) 64 : Nat) : Int) := by split <;> omega
 have hk64 : min (c.toNat / 4) 64 ≤ 64 := by omega
 have hcc := hb.le
 have hco := ho.le
 refine en Tryz.func70 rfl 38 rfl <| zr <| as0 rfl rfl <| zq <| zr <| mvI rfl rfl <| tl_y rfl (y_convI rfl (by omega)) <| tl_y rfl (y_quoI rfl rfl (by omega)) <| tl_y rfl (y_min rfl rfl) ?_
 rw [hk]; generalize hke : min (c.toNat / 4) 64 = k at hk64
 refine asI rfl rfl <| zq <| .s4 0 1 2 7 rfl rfl rfl rfl <| zr2 <| mvI rfl rfl <| tl_y rfl (y_remI rfl rfl (by omega)) <| zq <| x_block <| zr <| tl_y rfl (y_eql rfl rfl) <| asB rfl rfl <| zq <| x_cond rfl (fun hc1 => ?_) (fun hc1 => ?_)
 ·
  refine zr <| mvS rfl rfl <| asS rfl rfl <| zq <| .s4 0 1 6 7 rfl rfl rfl rfl <| x_ret (.block_ret (.then_ret (ret1 rfl rfl (Le.refl _) ⟨rfl, _, _, rfl, by rw [afterF, if_pos (by omega)]; exact ho⟩)))
 refine zr <| tl_y rfl (y_eql rfl rfl) <| asB rfl rfl <| zq <| .s5 0 1 7 13 17 rfl rfl rfl rfl rfl <| x_cond rfl (fun hc2 => ?_) (fun hc2 => ?_)
 ·
  refine zr <| mvS rfl rfl <| asS rfl rfl <| zq <| x_ret (.block_ret (.then_ret (ret1 rfl rfl (Le.refl _) ⟨rfl, _, _, rfl, by rw [afterF, if_neg (by omega), if_pos (by omega)]; exact hb⟩)))
 refine zr <| tl_y rfl (y_eql rfl rfl) <| asB rfl rfl <| zq <| x_cond rfl (fun hc3 => ?_) (fun hc3 => ?_)
 ·
  refine x_seq <| x_draw 9 hmix rfl <| zp 0 rfl rfl (y_move (v := .slice _ _ _) rfl) <| zp 1 rfl rfl (y_move (v := .int _ _) rfl) <| zp 2 rfl rfl (y_sliceH rfl rfl (by omega) (by omega)) <| zp 3 rfl rfl (y_move (v := .slice _ _ _) rfl) <| zp 4 rfl rfl (y_move (v := .int _ _) rfl) <| zp 5 rfl rfl (y_sliceL rfl rfl (by omega)) <| ze 6 rfl rfl <| e_buildSlice rfl (by decide) <| fun b1 => ⟨⟨(by first | exact Le.refl _ | assumption), Keeps.mem⟩, ?_⟩
  refine .pub b1 ii <| fun M1 hM1 hb1 => ze 7 rfl rfl <| e_call' rfl (concatBytes_spec (Row.whole hb1 (by simp) (by omega)) (.cons ((hb.take k hk64).mono hM1) (.cons ((ho.drop k hk64).mono hM1) .nil)) (by simp; omega)) ?_
  rintro _ M2 L2 hM2 ⟨rfl, A', c', rfl, hA'⟩
  refine ⟨⟨hM1.trans hM2, Keeps.mem⟩, ?_⟩
  refine zp 8 rfl rfl (y_assign (v := .slice _ _ _) rfl) <| zz <| .then_normal <| .s4 0 1 6 7 rfl rfl rfl rfl <| x_ret (.block_ret (.then_ret (ret1 rfl rfl (hM1.trans hM2) (by
   have hl : [List.take k b, List.drop k old].flatten.length = 64 := by simp; omega
   rw [hl] at hA' ⊢
   exact ⟨rfl, _, _, rfl, by rw [afterF, if_neg (by omega), if_neg (by omega), if_pos (by omega), hke]; simpa using hA'⟩))))
 refine x_skip <| .block_normal <| .then_normal <| .s3 0 1 7 rfl rfl rfl <| x_seq <| x_draw 9 hmix rfl <| zp 0 rfl rfl (y_move (v := .slice _ _ _) rfl) <| zp 1 rfl rfl (y_move (v := .int _ _) rfl) <| zp 2 rfl rfl (y_sliceH rfl rfl (by omega) (by omega)) <| zp 3 rfl rfl (y_move (v := .slice _ _ _) rfl) <| zp 4 rfl rfl (y_move (v := .int _ _) rfl) <| zp 5 rfl rfl (y_sliceL rfl rfl (by omega)) ?_
 refine ze 6 rfl rfl <| e_buildSlice rfl (by decide) <| fun b2 => ⟨⟨(by first | exact Le.refl _ | assumption), Keeps.mem⟩, ?_⟩
 refine .pub b2 ii <| fun M1 hM1 hb1 => ze 7 rfl rfl <| e_call' rfl (concatBytes_spec (Row.whole hb1 (by simp) (by omega)) (.cons ((ho.take k hk64).mono hM1) (.cons ((hb.drop k hk64).mono hM1) .nil)) (by simp; omega)) ?_
 rintro _ M2 L2 hM2 ⟨rfl, A', c', rfl, hA'⟩
 refine ⟨⟨hM1.trans hM2, Keeps.mem⟩, ?_⟩
 refine zp 8 rfl rfl (y_assign (v := .slice _ _ _) rfl) <| zz <| .then_normal <| .s1 6 rfl <| x_ret (ret1 rfl rfl (hM1.trans hM2) (by
  have hl : [List.take k old, List.drop k b].flatten.length = 64 := by simp; omega
  rw [hl] at hA' ⊢
  exact ⟨rfl, _, _, rfl, by rw [afterF, if_neg (by omega), if_neg (by omega), if_neg (by omega), hke]; simpa using hA'⟩))
abbrev chL (x0 x1 : Nat) (A : Option Addr) (n c : Nat) (at_ : Nat) (L : Own) : Own := (x1, .cells #[.int .i64 at_] 3 (0, 0)) :: (x0, .cells #[.slice A n c] 22 (0, 0)) :: L
theorem chooser_spec {L : Own} {A : Option Addr} {n c : Nat} :
  Con Tryz.prog 69 #[.slice A n c] G M L (fun v M' L' => M = M' ∧ ∃ x0 x1, L' = chL x0 x1 A n c 0 L ∧ v = .func (.func 116) #[] #[.pointer (some ⟨x0, 0, none⟩), .pointer (some ⟨x1, 0, none⟩)]) noPanic := by
 refine en Tryz.func69 rfl 5 rfl <| zr <| tl_e rfl <| e_box rfl <| fun b1 => as0 rfl rfl <| zq <| zr <| tl_e rfl <| e_alloc <| fun b2 => tl_e rfl <| e_st rfl rfl (by rfl) (by rfl) <| zq <| zr <| tl_y rfl (y_makeFunc rfl rfl) <| asF rfl rfl <| zq <| .s1 2 rfl <| x_ret (ret1 rfl rfl (Le.refl _) ⟨rfl, b1, b2, rfl, rfl⟩)
def nextC (cs : List UInt8) (j : Nat) : UInt8 := if cs.length = 0 then 0 else cs.getD (j % cs.length) 0
def nextAt (cs : List UInt8) (j : Nat) : Nat := if cs.length = 0 then 0 else j
theorem chooser1_spec {L : Own} {A : Option Addr} {n c x0 x1 : Nat} {cs : List UInt8} (h : Bytes M A n c cs) (j : Nat) (hj : j ≤ 1099511627776) :
  Con Tryz.prog 116 #[.pointer (some ⟨x0, 0, none⟩), .pointer (some ⟨x1, 0, none⟩)] G M (chL x0 x1 A n c (nextAt cs j) L) (fun v M' L' => M = M' ∧ L' = chL x0 x1 A n c (nextAt cs (j + 1)) L ∧ v = .int .u8 (nextC cs j).toNat) noPanic := by
 have hs := h.size
 refine en Tryz.func116 rfl 17 rfl <| zr <| as0 rfl rfl <| zq <| zr2 <| tLd rfl rfl rfl <| tLen rfl rfl <| tl_y rfl (y_eql rfl rfl) <| zq <| x_cond rfl (fun hc1 => ?_) (fun hc1 => ?_)
 ·
  refine zr <| as0 rfl rfl <| zq <| .s1 2 rfl <| x_ret (.then_ret (ret1 rfl rfl (Le.refl _) ⟨rfl, by simp [nextAt, show cs.length = 0 by omega], by simp [nextC, show cs.length = 0 by omega]⟩))
 have hn : 0 < n := by omega
 obtain ⟨m, hme⟩ : ∃ m, m = j % n := ⟨_, rfl⟩
 have hm : m < n := by rw [hme]; exact Nat.mod_lt _ hn
 obtain ⟨g, o, rfl, hcell⟩ := h.byte hn
 rw [show nextAt cs j = j by rw [nextAt, if_neg (by omega)]]
 have hjm : (((j : Nat) : Int) % ((n : Nat) : Int)) = (m : Int) := by simp [hme]
 refine x_skip <| .then_normal <| .s2 0 1 rfl rfl <| x_seq <| x_draw 8 hmix rfl <| zy 0 rfl rfl (y_ld rfl rfl) <| zy 1 rfl rfl (y_ld rfl rfl) <| zy 2 rfl rfl (y_ld rfl rfl) <| zp 3 rfl rfl (y_len rfl) <| zp 4 rfl rfl (y_remI rfl rfl (by omega)) ?_
 rw [hjm]
 refine zp 5 rfl rfl (y_indexAddr rfl rfl (by omega)) <| zy 6 rfl rfl (y_load rfl rfl (.at_ (hcell _ m hm) (by simp))) <| zp 7 rfl rfl (y_assign (v := .int _ _) rfl) <| zz <| .then_normal <| .s2 1 3 rfl rfl <| zr <| tLd rfl rfl rfl <| tl_y rfl (y_addI rfl rfl (by omega)) <| tl_e rfl <| e_st rfl rfl (by rfl) (by rfl) <| zq ?_
 refine zr <| mvI rfl rfl <| asI rfl rfl <| zq <| .s1 2 rfl <| x_ret (ret1 rfl rfl (Le.refl _) ⟨rfl, by simp [nextAt, show ¬ cs.length = 0 by omega], by rw [nextC, if_neg (by omega), hs, ← hme]⟩)
def upGo (cs : List UInt8) : Nat → List (Int × List UInt8) → List (List UInt8) → List (List UInt8)
 | _, [], s => s
 | j, q :: ps, s => upGo cs (j + 1) ps (s.set q.1.toNat (afterF (s.getD q.1.toNat []) q.2 (nextC cs j)))
theorem upGo_snoc (cs : List UInt8) (q : Int × List UInt8) : ∀ (ps : List (Int × List UInt8)) (j : Nat) (s : List (List UInt8)),
  upGo cs j (ps ++ [q]) s = (upGo cs j ps s).set q.1.toNat (afterF ((upGo cs j ps s).getD q.1.toNat []) q.2 (nextC cs (j + ps.length)))
 | [], j, s => rfl
 | q' :: ps, j, s => by
  show upGo cs (j + 1) (ps ++ [q]) _ = _
  rw [upGo_snoc cs q ps (j + 1)]
  simp only [upGo, List.length_cons]
  rw [show j + 1 + ps.length = j + (ps.length + 1) by omega]
theorem upGo_length (cs : List UInt8) : ∀ (ps : List (Int × List UInt8)) (j : Nat) (s : List (List UInt8)), (upGo cs j ps s).length = s.length
 | [], _, _ => rfl
 | q :: ps, j, s => by show (upGo cs (j + 1) ps _).length = _; rw [upGo_length cs ps]; simp
theorem afterF_length {old b : List UInt8} {c : UInt8} (h1 : old.length = 64) (h2 : b.length = 64) : (afterF old b c).length = 64 := by
 unfold afterF
 split
 ·
  exact h1
 split
 ·
  exact h2
 split <;> simp [h1, h2] <;> omega
theorem upGo_mem (cs : List UInt8) : ∀ (ps : List (Int × List UInt8)) (j : Nat) (s : List (List UInt8)), (∀ b ∈ s, b.length = 64) → (∀ q ∈ ps, q.2.length = 64 ∧ 0 ≤ q.1 ∧ q.1 < s.length) → ∀ b ∈ upGo cs j ps s, b.length = 64
 | [], _, s, hs, _ => hs
 | q :: ps, j, s, hs, hp => by
  have hq := hp q List.mem_cons_self
  refine upGo_mem cs ps (j + 1) _ (fun b hb => ?_) (fun q' hq' => ?_)
  ·
   rcases List.mem_or_eq_of_mem_set hb with hb | rfl
   ·
    exact hs b hb
   exact afterF_length (hs _ (getD_mem _ _ _ (by omega))) hq.1
  have := hp q' (List.mem_cons_of_mem _ hq')
  simpa using this
def upped (S : DS) (cs : List UInt8) (xs : List Int) (stop : Int) : DS := { sure := upGo cs 0 S.pend S.sure, pend := [], fail := xs, stop := stop, count := 0, down := false }
theorem Up_spec (h : IsDisk M r S) (hp : S.pend.length ≤ 549755813888) {Ac : Option Addr} {nc cc : Nat} {cs : List UInt8} (hcs : Bytes M Ac nc cc cs) {A : Option Addr} {n c : Nat} {xs : List Int} (hx : Ints M A n c xs) (hn : n ≤ 17592186044416) (stop : Int) :
  Con Tryz.prog 26 #[.pointer (some ⟨p, 0, none⟩), .slice Ac nc cc, .agg #[.slice A n c, .int .i64 stop]] G M (dL p r S R) (fun v M' L' => DK p (upped S cs xs stop) R M' L') noPanic := by
 have hpn := h.pn
 have hsn := h.sn
 have hpv := h.pend.len
 have hsz := h.sz
 refine en Tryz.func26 rfl 55 rfl <| zr <| tl_e rfl <| e_box rfl <| fun b1 => zq <| zr <| mvS rfl rfl <| ec rfl rfl chooser_spec ?_
 rintro _ M1 L1 hM1 ⟨rfl, x0, x1, rfl, rfl⟩
 refine asF rfl rfl <| zq <| .s3 0 5 6 rfl rfl rfl <| zr2 <| mvP rfl rfl <| zc rfl rfl <| tFa rfl rfl <| tLd rfl rfl rfl <| tLen rfl rfl <| mv0 rfl rfl <| zq <| x_block <| x_loop (I := fun m' F D M1 L1 => ∃ (k : Nat) (sv : List Value) (E : Own), m' = r.pn - k ∧ k ≤ r.pn ∧ Le M M1 ∧ OwnRow 22 1 r.sa r.sn r.sc sv E ∧ BRows M1 sv (upGo cs 0 (S.pend.take k) S.sure) ∧ D = [] ∧ L1 = chL x0 x1 Ac nc cc (nextAt cs k) ((b1, .cells #[.slice A n c, .int .i64 stop] 70 (0, 0)) :: (p, .cells (List.toArray (dcells r S)) 75 (0, 0)) :: (E ++ (r.E2 ++ R))) ∧
  F = [(0, .pointer (some ⟨p, 0, none⟩)), (5, .pointer (some ⟨b1, 0, none⟩)), (6, .func (.func 116) #[] #[.pointer (some ⟨x0, 0, none⟩), .pointer (some ⟨x1, 0, none⟩)]), (14, .slice r.pa r.pn r.pc), (15, .int .i64 r.pn), (16, .int .i64 k)]) (r.pn) (F0 := [(0, _), (5, _), (6, _), (14, _), (15, _), (16, _)]) ?_ (cs6 rfl rfl rfl rfl rfl rfl) ?_
 ·
  exact ⟨0, r.sv, r.E1, rfl, by omega, Le.refl _, h.s, h.sure, rfl, by simp [nextAt], rfl⟩
 rintro m _ _ M1 L1 ⟨k, sv, E, rfl, hk, hM1, hE, hsv, rfl, rfl, rfl⟩
 refine zr <| tl_y rfl (y_lss rfl rfl) <| zq <| x_seq <| x_cond rfl (fun hc1 => ?_) (fun hc1 => ?_)
 ·
  have hkn : k < r.pn := by omega
  obtain ⟨g, o, hpa, hcell⟩ := h.p.cellsIn (M := M1) (L := chL x0 x1 Ac nc cc (nextAt cs k) ((b1, .cells #[.slice A n c, .int .i64 stop] 70 (0, 0)) :: (p, .cells (List.toArray (dcells r S)) 75 (0, 0)) :: (E ++ (r.E2 ++ R)))) ii (by omega)
  obtain ⟨A1, n1, c1, hv1, hv2, hb1⟩ := (h.pend.mono hM1).get k (by omega)
  have hq := h.pl (S.pend.getD k default) (getD_mem _ _ _ (by omega))
  generalize hqe : S.pend.getD k default = q at hv1 hv2 hb1 hq
  have hc1 := hcell (k * 2) 2 (by omega)
  rw [take_two hv1 hv2] at hc1
  obtain ⟨gs, pre, slack, hsa, hEe⟩ := hE.pos (by omega)
  subst hEe
  rw [hsa] at hE
  simp only [List.cons_append, List.nil_append] at hc1 ⊢
  have hsl := hsv.len
  rw [upGo_length] at hsl
  obtain ⟨Ao, no, co, hvo, hbo⟩ := hsv.get q.1.toNat (by rw [upGo_length]; omega)
  have hol := upGo_mem cs (S.pend.take k) 0 S.sure h.sl (fun q hq => h.pl q (List.mem_of_mem_take hq)) _ (getD_mem _ q.1.toNat [] (by rw [upGo_length]; omega))
  have hno := hbo.size
  have hn1 := hb1.size
  refine x_skip <| .then_normal <| x_seq <| x_block <| zr <| tl_y rfl (y_indexAddr (b := g) (o := o) (by rw [hpa]; rfl) rfl (by omega)) <| tl_y rfl (y_loadAgg rfl rfl (.at_ hc1 (by omega))) <| tl_e rfl <| e_alloc <| fun b2 => tl_e rfl <| e_st rfl rfl (by rfl) (by rfl) <| zq <| x_draw0 20 ([(b2, .cells #[.int .i64 q.1, .slice A1 n1 c1] 141 (0, 0)), (p, .cells (List.toArray (dcells r S)) 75 (0, 0)), (gs, .cells (pre ++ (sv ++ slack)).toArray 22 (0, 0))]) Keeps.mem hmix rfl ?_
  refine zp 0 rfl rfl (y_move (v := .pointer _) rfl) <| zp 1 rfl rfl (y_nilCheck rfl) <| zp 2 rfl rfl (y_fieldAddr rfl) <| zy 3 rfl rfl (y_ld rfl rfl) <| zp 4 rfl rfl (y_fieldAddr rfl) <| zy 5 rfl rfl (y_ld rfl rfl) <| zp 6 rfl rfl (y_move (v := .pointer _) rfl) <| zp 7 rfl rfl (y_nilCheck rfl) <| zp 8 rfl rfl (y_fieldAddr rfl) <| zy 9 rfl rfl (y_ld rfl rfl) ?_
  refine zp 10 rfl rfl (y_fieldAddr rfl) <| zy 11 rfl rfl (y_ld rfl rfl) <| zp 12 rfl rfl (y_indexAddr (b := gs) (o := pre.length) (by rw [hsa]; rfl) rfl (by omega)) <| zy 13 rfl rfl (y_load rfl rfl (.ownAt (c := pre ++ (sv ++ slack)) ii (by rw [List.getElem?_append_right (by omega), Nat.add_sub_cancel_left, List.getElem?_append_left (by omega), Nat.mul_one]; exact hvo))) ?_
  refine zp 14 rfl rfl (y_fieldAddr rfl) <| zy 15 rfl rfl (y_ld rfl rfl) <| zp 16 rfl rfl (y_move (v := .func _ _ _) rfl) <| ze 17 rfl rfl <| e_callv rfl rfl (Con.to (chL x0 x1 Ac nc cc (nextAt cs k) ((b2, .cells #[.int .i64 q.1, .slice A1 n1 c1] 141 (0, 0)) :: (b1, .cells #[.slice A n c, .int .i64 stop] 70 (0, 0)) :: (p, .cells (List.toArray (dcells r S)) 75 (0, 0)) :: (gs, .cells (pre ++ (sv ++ slack)).toArray 22 (0, 0)) :: (r.E2 ++ R))) ii (chooser1_spec (hcs.mono hM1) k (by omega))) (fun _ _ _ _ h => h.elim) ?_
  rintro _ M2 L2 hM2 ⟨rfl, rfl, rfl⟩
  refine ⟨⟨(by first | exact Le.refl _ | assumption), Keeps.mem⟩, ?_⟩
  refine ze 18 rfl rfl <| e_call' rfl (after_spec hbo hb1 (by omega) (by omega) (nextC cs k)) ?_
  rintro _ M3 L3 hM3 ⟨rfl, A3, c3, rfl, hA3⟩
  refine ⟨⟨(by first | exact Le.refl _ | assumption), Keeps.mem⟩, ?_⟩
  refine zp 19 rfl rfl (y_indexAddr (b := gs) (o := pre.length) (by rw [hsa]; rfl) rfl (by omega)) <| zt 20 rfl rfl <| e_storeAt (c := pre ++ (sv ++ slack)) rfl rfl rfl ii (by simp; omega) ii <| zz <| .block_normal <| .then_normal <| .dropTo (chL x0 x1 Ac nc cc (nextAt cs (k + 1)) ((b1, .cells #[.slice A n c, .int .i64 stop] 70 (0, 0)) :: (p, .cells (List.toArray (dcells r S)) 75 (0, 0)) :: (gs, .cells ((pre ++ (sv ++ slack)).set (pre.length + q.1.toNat * 1) (.slice A3 64 c3)).toArray 22 (0, 0)) :: (r.E2 ++ R))) ii ?_
  refine .s6 0 5 6 14 15 16 rfl rfl rfl rfl rfl rfl <| x_region <| tl_y rfl (y_addI rfl rfl (by omega)) <| mvI rfl rfl <| tl_nil <| .loop_next (m' := r.pn - (k + 1)) (by omega) (F' := [(0, _), (5, _), (6, _), (14, _), (15, _), (16, _)]) (cs6 rfl rfl rfl rfl rfl rfl) ?_
  exact ⟨k + 1, _, _, rfl, by omega, hM1.trans hM3, hsa ▸ hE.set (q.1.toNat * 1) (.slice A3 64 c3) (by omega), by
   rw [take_snoc _ _ default (by omega), upGo_snoc, hqe, Nat.mul_one, Nat.zero_add, List.length_take, Nat.min_eq_left (by omega)]; exact (hsv.mono hM3).set hA3 _, rfl, rfl, rfl⟩
 refine x_exit <| .then_exit <| .loop_exit <| .block_exit <| .then_normal <| .s2 0 5 rfl rfl <| x_region <| mvP rfl rfl <| mvP rfl rfl <| mvP rfl rfl <| mvP rfl rfl <| tLg rfl rfl rfl <| ec rfl rfl (own_spec (hx.mono hM1) hn stop) ?_
 rintro _ M2 L2 hM2 ⟨rfl, A', c', rfl, hA'⟩
 refine zc rfl rfl <| tFa rfl rfl <| tl_e rfl <| e_st rfl rfl (by rfl) (by rfl) <| zc rfl rfl <| tFa rfl rfl <| tl_e rfl <| e_st rfl rfl (by rfl) (by rfl) <| zc rfl rfl <| tFa rfl rfl <| tl_e rfl <| e_st rfl rfl (by rfl) (by rfl) <| zc rfl rfl <| tFa rfl rfl <| tl_e rfl <| e_st rfl rfl (by rfl) (by rfl) <| tl_nil (.dropTo ((p, .cells #[.slice r.sa r.sn r.sc, .slice none 0 0, .slice A' n c', .int .i64 stop, .int .i64 0, .bool false] 75 (0, 0)) :: (E ++ R)) ii (end0 rfl (hM1.trans hM2) (by
  have hkn : k = S.pend.length := by omega
  rw [hkn, List.take_length] at hsv
  exact ⟨{ r with sv := sv, E1 := E, pa := none, pn := 0, pc := 0, pv := [], E2 := [], fa := A', fn := n, fc := c' }, ⟨hE, .nil, hsv.mono hM2, .nil, hA', upGo_mem cs _ _ _ h.sl h.pl, (fun q hq => by cases hq), by show (upGo _ _ _ _).length ≤ 256; rw [upGo_length]; exact hsz⟩, rfl⟩)))
end
section
variable {G : World} {M : Mem} {R : Own} {p : Nat} {r : DRep} {S : DS}
def lastW (i : Int) : List (Int × List UInt8) → Option (List UInt8)
 | [] => none
 | q :: ps => match lastW i ps with
  | some b => some b
  | none => if q.1 = i then some q.2 else none
theorem lastW_none {i : Int} : ∀ {ps : List (Int × List UInt8)}, (∀ q ∈ ps, q.1 ≠ i) → lastW i ps = none
 | [], _ => rfl
 | q :: ps, h => by
  simp only [lastW, lastW_none fun q' hq' => h q' (List.mem_cons_of_mem _ hq')]
  rw [if_neg (h q List.mem_cons_self)]
theorem lastW_some {i : Int} {q : Int × List UInt8} {qs : List (Int × List UInt8)} (hq : q.1 = i) (h : ∀ q ∈ qs, q.1 ≠ i) : ∀ (ps : List (Int × List UInt8)), lastW i (ps ++ q :: qs) = some q.2
 | [] => by simp [lastW, lastW_none h, hq]
 | q' :: ps => by simp only [List.cons_append, lastW, lastW_some hq h ps]
theorem split_at {α : Type} (l : List α) (k : Nat) (d : α) (h : k < l.length) : l = l.take k ++ l.getD k d :: l.drop (k + 1) := by
 rw [List.getD_eq_getElem?_getD, List.getElem?_eq_getElem h]
 simp
def noneBehind (i : Int) (ps : List (Int × List UInt8)) (k : Nat) : Prop := ∀ q ∈ ps.drop k, q.1 ≠ i
theorem noneBehind_step {i : Int} {ps : List (Int × List UInt8)} {k : Nat} (h : noneBehind i ps (k + 1)) (hk : k < ps.length) (hq : (ps.getD k default).1 ≠ i) : noneBehind i ps k := fun q hm => by
 have : ps.drop k = ps.getD k default :: ps.drop (k + 1) := by
  rw [List.drop_eq_getElem_cons hk, List.getD_eq_getElem?_getD, List.getElem?_eq_getElem hk]; rfl
 rw [this] at hm
 rcases List.mem_cons.1 hm with rfl | hm
 ·
  exact hq
 exact h q hm
theorem backward_spec {L : Own} {A : Option Addr} {n c : Nat} :
  Con Tryz.prog 260 #[.slice A n c] G M L (fun v M' L' => M = M' ∧ ∃ x0, L' = (x0, .cells #[.slice A n c] 73 (0, 0)) :: L ∧ v = .func (.func 274) #[] #[.pointer (some ⟨x0, 0, none⟩)]) noPanic := by
 refine en Tryz.func260 rfl 4 rfl <| zr <| tl_e rfl <| e_box rfl <| fun b1 => as0 rfl rfl <| zq <| zr <| tl_y rfl (y_makeFunc rfl rfl) <| asF rfl rfl <| zq <| x_ret (ret1 rfl rfl (Le.refl _) ⟨rfl, b1, rfl, rfl⟩)
theorem backward1_spec {l x0 : Nat} {A : Option Addr} {n c : Nat} {vs : List Value} {E X0 : Own} (hE : OwnRow 141 2 A n c vs E) {Inv : Nat → Mem → Own → Prop} {Dn : Mem → Own → Prop}
  (hy : ∀ k M1 X1, k < n → Le M M1 → Inv (k + 1) M1 X1 → YCon Tryz.prog l [.int .i64 k, .agg ((vs.drop (k * 2)).take 2).toArray] G M1 X1 (Inv k) Dn) (h0 : Inv n M X0) :
  Con Tryz.prog 274 #[.func (.yield l) #[] #[], .pointer (some ⟨x0, 0, none⟩)] G M ((x0, .cells #[.slice A n c] 73 (0, 0)) :: (E ++ X0))
   (fun v M' L' => ∃ X', L' = (x0, .cells #[.slice A n c] 73 (0, 0)) :: (E ++ X') ∧ (Inv 0 M' X' ∨ Dn M' X')) noPanic := by
 have hmx := hE.max
 have hle := hE.le
 have hlen := hE.len
 refine en Tryz.func274 rfl 19 rfl <| zr <| tLd rfl rfl rfl <| tLen rfl rfl <| tl_y rfl (y_subI rfl rfl (by omega)) <| asI rfl rfl <| zq <| x_block ?_
 refine x_loop (I := fun m' F D M1 L1 => ∃ (k : Nat) (X1 : Own), k = m' ∧ k ≤ n ∧ Le M M1 ∧ Inv k M1 X1 ∧ D = [] ∧ L1 = (x0, .cells #[.slice A n c] 73 (0, 0)) :: (E ++ X1) ∧ F = [(0, .func (.yield l) #[] #[]), (1, .pointer (some ⟨x0, 0, none⟩)), (3, .int .i64 ((k : Int) - 1))]) (n) (F0 := [(0, _), (1, _), (3, _)]) ?_ (cs3 rfl rfl rfl) ?_
 ·
  exact ⟨n, X0, rfl, by omega, Le.refl _, h0, rfl, rfl, rfl⟩
 rintro m _ _ M1 L1 ⟨k, X1, rfl, hk, hM1, hI, rfl, rfl, rfl⟩
 refine zr2 <| mvI rfl rfl <| tl_y rfl (y_geq rfl rfl) <| zq <| x_cond rfl (fun hc1 => ?_) (fun hc1 => ?_)
 ·
  obtain ⟨k, rfl⟩ : ∃ j, k = j + 1 := ⟨k - 1, by omega⟩
  obtain ⟨g, o, rfl, hcell⟩ := hE.cellsIn (M := M1) (L := (x0, .cells #[.slice A n c] 73 (0, 0)) :: (E ++ X1)) ii (by omega)
  have hc1 := hcell (k * 2) 2 (by omega)
  have e0 : (((k + 1 : Nat) : Int) - 1) = (k : Int) := by omega
  rw [e0]
  refine x_skip <| .then_normal <| x_seq <| x_block <| zr <| mvF rfl rfl <| mvI rfl rfl <| tLd rfl rfl rfl <| mvI rfl rfl <| tl_y rfl (y_indexAddr rfl rfl (by omega)) <| tl_y rfl (y_loadAgg rfl rfl (.at_ hc1 (by omega))) <| .eqL (L' := ((x0, .cells #[.slice (some ⟨g, o, none⟩) n c] 73 (0, 0)) :: E) ++ X1) (by simp) <| tl_e rfl <| e_yieldB rfl rfl (hy k M1 X1 (by omega) hM1 hI) <| fun b M2 X2 hM2 hb => ?_
  rw [List.cons_append]
  refine tl_y rfl (y_not rfl) <| zq <| .s4 0 1 3 18 rfl rfl rfl rfl <| x_condb rfl (fun hc2 => ?_) (fun hc2 => ?_)
  ·
   refine x_ret (.block_ret (.then_ret (.loop_ret (.block_ret (ret0 rfl (hM1.trans hM2) ⟨X2, rfl, by
    rcases hb with ⟨rfl, _⟩ | ⟨_, hb⟩
    ·
     simp at hc2
    exact .inr hb⟩)))))
  refine x_skip <| .block_normal <| .then_normal <| x_region <| mvI rfl rfl <| tl_y rfl (y_subI rfl rfl (by omega)) <| asI rfl rfl <| tl_nil <| .loop_next (m' := k) (by omega) (F' := [(0, _), (1, _), (3, _)]) (cs3 rfl rfl rfl) ?_
  exact ⟨k, X2, rfl, by omega, hM1.trans hM2, by
   rcases hb with ⟨_, hb⟩ | ⟨rfl, hb⟩
   ·
    exact hb
   simp at hc2, rfl, rfl, rfl⟩
 refine x_exit (.then_exit (.loop_exit (.block_exit (end0 rfl hM1 ⟨X1, rfl, .inl (by
  obtain rfl : k = 0 := by omega
  exact hI)⟩))))
def readRes (S : DS) (i : Int) : List UInt8 × Int :=
 if S.down then ([], 6) else if 0 ≤ i ∧ i < S.sure.length then ((lastW i S.pend).getD (S.sure.getD i.toNat []), 0) else ([], 1)
theorem Read_spec (h : IsDisk M r S) (i : Int) :
  Con Tryz.prog 229 #[.pointer (some ⟨p, 0, none⟩), .int .i64 i] G M (dL p r S R) (fun v M' L' => L' = dL p r S R ∧ ∃ A n c, v = .tuple #[.slice A n c, .int .i64 (readRes S i).2] ∧ Bytes M' A n c (readRes S i).1) noPanic := by
 have hpn := h.pn
 have hsn := h.sn
 have hpv := h.pend.len
 have hsv := h.sure.len
 refine enterM (args := [_, _]) (fn := Tryz.f229) ⟨Tryz.func229, rfl, by kernel_rfl, by kernel_rfl⟩ 40 rfl <| zr <| tl_e rfl <| e_box rfl <| fun b1 => tl_e rfl <| e_alloc <| fun b2 => tl_e rfl <| e_alloc <| fun b3 => zq <| x_seq <| x_block <| zr <| mvP rfl rfl <| zc rfl rfl <| tFa rfl rfl <| tLd rfl rfl rfl <| asB rfl rfl <| zq <| .s5 0 3 4 5 8 rfl rfl rfl rfl rfl <| x_condb rfl (fun hc1 => ?_) (fun hc1 => ?_)
 ·
  refine zr <| tl_e rfl <| e_st rfl rfl (by rfl) (by rfl) <| tl_e rfl <| e_st rfl rfl (by rfl) (by rfl) <| zq <| x_ret (.block_ret (.then_ret (.retM0 (L1 := dL p r S R) (rv2 rfl (rc_cell (by rfl) rfl (.own ii ii)) (rc_cell (by rfl) rfl (.own ii ii))) ii (Le.refl _) (by
   rw [show readRes S i = ([], 6) by simp [readRes, hc1]]
   exact ⟨rfl, _, _, _, rfl, Row.nil _ _⟩))))
 refine zr <| mvP rfl rfl <| tLd rfl rfl rfl <| ec rfl rfl (Con.to (dL p r S ((b3, .cells #[.int .i64 0] 25 (0, 0)) :: (b2, .cells #[.slice none 0 0] 22 (0, 0)) :: (b1, .cells #[.int .i64 i] 3 (0, 0)) :: R)) ii (is_spec h i)) ?_
 rintro _ M1 L1 hM1 ⟨rfl, rfl, rfl⟩
 refine tl_y rfl (y_notd rfl) <| asB rfl rfl <| zq <| .s5 0 3 4 5 13 rfl rfl rfl rfl rfl <| x_cond rfl (fun hc2 => ?_) (fun hc2 => ?_)
 ·
  refine zr <| tl_e rfl <| e_st rfl rfl (by rfl) (by rfl) <| tl_e rfl <| e_st rfl rfl (by rfl) (by rfl) <| zq <| x_ret (.block_ret (.then_ret (.retM0 (L1 := dL p r S R) (rv2 rfl (rc_cell (by rfl) rfl (.own ii ii)) (rc_cell (by rfl) rfl (.own ii ii))) ii (Le.refl _) (by
   rw [show readRes S i = ([], 1) by rw [readRes, if_neg (by simp [hc1]), if_neg hc2]]
   exact ⟨rfl, _, _, _, rfl, Row.nil _ _⟩))))
 refine x_skip <| .block_normal <| .then_normal <| zr2 <| mvP rfl rfl <| zc rfl rfl <| tFa rfl rfl <| tLd rfl rfl rfl <| ec rfl rfl backward_spec ?_
 rintro _ M2 L2 hM2 ⟨rfl, x0, rfl, rfl⟩
 refine zq <| .s5 0 3 4 5 22 rfl rfl rfl rfl rfl <| x_block <| x_rangeN rfl rfl <| fun l r0 fn tm lps las lbd hps has hbd htm => ?_
 have hin : 0 ≤ i ∧ i < S.sure.length := Classical.not_not.1 hc2
 obtain ⟨xs, hxs⟩ : ∃ xs : LoopState → Option Code → Value → Own, ∀ st pd rc, xs st pd rc = lrec l st pd fn tm lps las lbd r0 :: (r0, .deferred (some [])) :: (b3, .cells #[.int .i64 0] 25 (0, 0)) :: (b2, .cells #[rc] 22 (0, 0)) :: (b1, .cells #[.int .i64 i] 3 (0, 0)) :: (p, .cells (List.toArray (dcells r S)) 75 (0, 0)) :: (r.E1 ++ R) := ⟨_, fun _ _ _ => rfl⟩
 refine Con.postD (Con.to ((x0, .cells #[.slice r.pa r.pn r.pc] 73 (0, 0)) :: (r.E2 ++ xs .ready none (.slice none 0 0))) (by rw [hxs]; infer_instance) (backward1_spec h.p (Inv := fun k M1 X1 => noneBehind i S.pend k ∧ X1 = xs .ready none (.slice none 0 0)) (Dn := fun M1 X1 => ∃ A' c' b, lastW i S.pend = some b ∧ Bytes M1 A' 64 c' b ∧ X1 = xs .done (some .ret) (.slice A' 64 c')) ?_ ⟨(fun q hq => by rw [hpn, List.drop_length] at hq; cases hq), rfl⟩)) ?_
 ·
  rintro k M1 X1 hk hM1 ⟨hno, rfl⟩
  rw [hxs]
  obtain ⟨A1, n1, c1, hv1, hv2, hb1⟩ := (h.pend.mono hM1).get k (by omega)
  have hq := h.pl (S.pend.getD k default) (getD_mem _ _ _ (by omega))
  rw [take_two hv1 hv2]
  subst hps
  subst has
  subst hbd
  refine ycon_body htm rfl (by kernel_rfl) <| fun R1 => ?_
  simp only [List.cons_append, List.append_assoc]
  have hsz1 := hb1.size
  refine x_region <| tl_e rfl <| e_alloc <| fun b9 => tl_e rfl <| e_st rfl rfl (by rfl) (by rfl) <| .bring l ii <| tl_nil <| .asg (by kernel_rfl) <| x_block <| zr <| tFa rfl rfl <| tLd rfl rfl rfl <| tLd rfl rfl rfl <| tl_y rfl (y_eql rfl rfl) <| zq <| .s4 4 5 7 28 rfl rfl rfl rfl <| x_cond rfl (fun hc1 => ?_) (fun hc1 => ?_)
  ·
   refine zr <| tFa rfl rfl <| tLd rfl rfl rfl <| ec rfl rfl (bytesClone_spec hb1 (by omega)) ?_
   rintro _ M2 L2 hM2 ⟨rfl, A2, c2, rfl, hA2⟩
   refine tl_e rfl <| e_st rfl rfl (by rfl) (by rfl) <| tl_e rfl <| e_st rfl rfl (by rfl) (by rfl) <| zq <| .s2 4 5 rfl rfl <| x_ret (.block_ret (.off_ret ((r0, .deferred (some [])) :: (b3, .cells #[.int .i64 0] 25 (0, 0)) :: (b2, .cells #[.slice A2 n1 c2] 22 (0, 0)) :: (b1, .cells #[.int .i64 i] 3 (0, 0)) :: (p, .cells (List.toArray (dcells r S)) 75 (0, 0)) :: (r.E1 ++ (R ++ R1))) ii ii
    (X := (r0, .deferred (some [])) :: (b3, .cells #[.int .i64 0] 25 (0, 0)) :: (b2, .cells #[.slice A2 n1 c2] 22 (0, 0)) :: (b1, .cells #[.int .i64 i] 3 (0, 0)) :: (p, .cells (List.toArray (dcells r S)) 75 (0, 0)) :: (r.E1 ++ R)) (by simp) hM2 (by
     obtain rfl : n1 = 64 := by omega
     refine ⟨A2, c2, _, ?_, hA2, (hxs _ _ _).symm⟩
     conv => lhs; rw [split_at S.pend k default (by omega)]
     exact lastW_some hc1 hno _)))
  refine x_skip (.block_normal (.on ((r0, .deferred (some [])) :: (b3, .cells #[.int .i64 0] 25 (0, 0)) :: (b2, .cells #[.slice none 0 0] 22 (0, 0)) :: (b1, .cells #[.int .i64 i] 3 (0, 0)) :: (p, .cells (List.toArray (dcells r S)) 75 (0, 0)) :: (r.E1 ++ (R ++ R1))) ii ii
   (X := (r0, .deferred (some [])) :: (b3, .cells #[.int .i64 0] 25 (0, 0)) :: (b2, .cells #[.slice none 0 0] 22 (0, 0)) :: (b1, .cells #[.int .i64 i] 3 (0, 0)) :: (p, .cells (List.toArray (dcells r S)) 75 (0, 0)) :: (r.E1 ++ R)) (by simp) (Le.refl _) ⟨noneBehind_step hno (by omega) hc1, rfl⟩))
 rintro v M3 L3 hM3 ⟨X', rfl, hX⟩
 rcases hX with ⟨hno, rfl⟩ | ⟨A', c', b, hb, hB, rfl⟩
 ·
  refine ⟨lrec l .ready none fn tm lps las lbd r0 :: (r0, .deferred (some [])) :: (b3, .cells #[.int .i64 0] 25 (0, 0)) :: (b2, .cells #[.slice none 0 0] 22 (0, 0)) :: (b1, .cells #[.int .i64 i] 3 (0, 0)) :: dL p r S R, by rw [hxs]; infer_instance, .ready, none, _, by simp, rfl, ?_⟩
  have hlast : lastW i S.pend = none := lastW_none (fun q hq => hno q (by simpa using hq))
  obtain ⟨g, o, hsa, hcell⟩ := h.s.cellIn (M := M3) (L := lrec l .exhausted none fn tm lps las lbd r0 :: (r0, .deferred (some [])) :: (b3, .cells #[.int .i64 0] 25 (0, 0)) :: (b2, .cells #[.slice none 0 0] 22 (0, 0)) :: (b1, .cells #[.int .i64 i] 3 (0, 0)) :: dL p r S R) ii (by omega)
  obtain ⟨A1, n1, c1, hv1, hb1⟩ := (h.sure.mono hM3).get i.toNat (by omega)
  have hbl := h.sl (S.sure.getD i.toNat []) (getD_mem _ _ _ (by omega))
  have hsz1 := hb1.size
  refine .block_normal <| .then_normal <| .s4 0 3 4 5 rfl rfl rfl rfl <| x_seq <| x_draw 8 hmix rfl <| zp 0 rfl rfl (y_move (v := .pointer _) rfl) <| zp 1 rfl rfl (y_nilCheck rfl) <| zp 2 rfl rfl (y_fieldAddr rfl) <| zy 3 rfl rfl (y_ld rfl rfl) <| zy 4 rfl rfl (y_ld rfl rfl) <| zp 5 rfl rfl (y_indexAddr (b := g) (o := o) (by rw [hsa]; rfl) rfl (by omega)) ?_
  refine zy 6 rfl rfl (y_load rfl rfl (.at_ (hcell i.toNat _ hv1) (by omega))) <| ze 7 rfl rfl <| e_call' rfl (bytesClone_spec hb1 (by omega)) ?_
  rintro _ M4 L4 hM4 ⟨rfl, A2, c2, rfl, hA2⟩
  refine ⟨⟨(by first | exact Le.refl _ | assumption), Keeps.mem⟩, ?_⟩
  refine zt 8 rfl rfl <| e_st rfl rfl (by rfl) (by rfl) <| zt 9 rfl rfl <| e_st rfl rfl (by rfl) (by rfl) <| zz <| .then_normal <| .s2 4 5 rfl rfl <| x_ret (.retM1 (r := r0) (L1 := dL p r S R) ii (rv2 rfl (rc_cell (by rfl) rfl (.own ii ii)) (rc_cell (by rfl) rfl (.own ii ii))) ii (hM3.trans hM4) (by
   rw [show readRes S i = (S.sure.getD i.toNat [], 0) by rw [readRes, if_neg (by simp [hc1]), if_pos hin, hlast]; rfl]
   exact ⟨rfl, _, _, _, rfl, hA2⟩))
 refine ⟨lrec l .done (some .ret) fn tm lps las lbd r0 :: (r0, .deferred (some [])) :: (b3, .cells #[.int .i64 0] 25 (0, 0)) :: (b2, .cells #[.slice A' 64 c'] 22 (0, 0)) :: (b1, .cells #[.int .i64 i] 3 (0, 0)) :: dL p r S R, by rw [hxs]; infer_instance, .done, some .ret, _, by simp, rfl, rfl, ?_⟩
 refine x_ret (.block_ret (.then_ret (.retM1 (r := r0) (L1 := dL p r S R) ii (rv2 rfl (rc_cell (by rfl) rfl (.own ii ii)) (rc_cell (by rfl) rfl (.own ii ii))) ii hM3 (by
  rw [show readRes S i = (b, 0) by rw [readRes, if_neg (by simp [hc1]), if_pos hin, hb]; rfl]
  exact ⟨rfl, _, _, _, rfl, hB⟩))))
end
def DS.within (S : DS) (B : Nat) : Prop := 0 ≤ S.count ∧ S.count ≤ B ∧ S.pend.length ≤ B
theorem within_fresh (n : Nat) : (fresh n).within 0 := ⟨by simp [fresh], by simp [fresh], by simp [fresh]⟩
theorem within_doing {S S2 : DS} {B : Nat} (h : S.within B) (h2 : S2.within (B + 1)) : (doingRes S S2).1.within (B + 1) := by
 obtain ⟨a, b, c⟩ := h
 unfold doingRes
 split
 ·
  exact ⟨a, by show S.count ≤ _; omega, by show S.pend.length ≤ _; omega⟩
 split
 ·
  exact ⟨by show 0 ≤ S.count + 1; omega, by show S.count + 1 ≤ _; omega, by show S.pend.length ≤ _; omega⟩
 split
 ·
  exact ⟨by show 0 ≤ S.count + 1; omega, by show S.count + 1 ≤ _; omega, by show S.pend.length ≤ _; omega⟩
 exact h2
theorem within_write {S : DS} {B : Nat} (h : S.within B) (i : Int) (bs : List UInt8) : (writeRes S i bs).1.within (B + 1) := by
 unfold writeRes
 obtain ⟨a, b, c⟩ := h
 split
 ·
  exact ⟨a, by show S.count ≤ _; omega, by show S.pend.length ≤ _; omega⟩
 exact within_doing ⟨a, b, c⟩ ⟨by show 0 ≤ S.count + 1; omega, by show S.count + 1 ≤ _; omega, by simp; omega⟩
theorem within_flush {S : DS} {B : Nat} (h : S.within B) : (flushRes S).1.within (B + 1) :=
 within_doing h ⟨by show 0 ≤ S.count + 1; have := h.1; omega, by show S.count + 1 ≤ _; have := h.2.1; omega, by simp [flushed]⟩
structure SS where
 first : Nat
 n : Nat
 at_ : Nat
 num : UInt64
 b : List UInt8
def recH (num : UInt64) (b : List UInt8) : List UInt8 := putB num.toNat 8 ++ (putB b.length 4 ++ b)
def recB (n : Nat) (num : UInt64) (b : List UInt8) : List UInt8 := recH num b ++ ((sha (recH num b)).take 16 ++ List.replicate (64 * n - 28 - b.length) 0)
theorem recH_length (num : UInt64) (b : List UInt8) : (recH num b).length = 12 + b.length := by simp [recH, putB_length]; omega
theorem recB_length {n : Nat} {num : UInt64} {b : List UInt8} (h : b.length + 28 ≤ 64 * n) : (recB n num b).length = 64 * n := by
 simp [recB, recH_length, sha_length]; omega
def numOf (a : List UInt8) : Nat := getB (a.take 8)
def cntOf (a : List UInt8) : Nat := getB ((a.drop 8).take 4)
def datOf (a : List UInt8) : List UInt8 := (a.drop 12).take (cntOf a)
def readRec (n : Nat) (a : List UInt8) : UInt64 × List UInt8 :=
 if numOf a = 0 ∨ 64 * n - 28 < cntOf a then (0, []) else if recB n (UInt64.ofNat (numOf a)) (datOf a) = a then (UInt64.ofNat (numOf a), datOf a) else (0, [])
def areaB (S : DS) (at_ : Nat) : Nat → List UInt8
 | 0 => []
 | k + 1 => areaB S at_ k ++ (readRes S ((at_ + k : Nat) : Int)).1
def isBlank (b : List UInt8) : Bool := b.all (· == 0)
def loaded (s : SS) (one two : List UInt8) : SS × Int :=
 if (readRec s.n one).1.toNat < (readRec s.n two).1.toNat then ({ s with at_ := 1, num := (readRec s.n two).1, b := (readRec s.n two).2 }, 0)
 else ({ s with at_ := 0, num := (readRec s.n one).1, b := (readRec s.n one).2 }, if 0 < (readRec s.n one).1.toNat then 0 else if isBlank one = true ∨ isBlank two = true then 11 else 8)
def loadRes (S : DS) (s : SS) : SS × Int := if S.down then (s, 6) else loaded s (areaB S s.first s.n) (areaB S (s.first + s.n) s.n)
def saveGo (S : DS) (at_ : Nat) (all : List UInt8) : Nat → DS × Int
 | 0 => (S, 0)
 | k + 1 => if (saveGo S at_ all k).2 ≠ 0 then saveGo S at_ all k else writeRes (saveGo S at_ all k).1 ((at_ + k : Nat) : Int) ((all.drop (64 * k)).take 64)
def SS.to (s : SS) : Nat := if 0 < s.num.toNat then 1 - s.at_ else 0
def SS.saved (s : SS) (b : List UInt8) : SS := { s with at_ := s.to, num := s.num + 1, b := b }
def laid (S : DS) (s : SS) (b : List UInt8) : DS × Int := saveGo S (s.first + s.to * s.n) (recB s.n (s.num + 1) b) s.n
def saveRes (S : DS) (s : SS) (b : List UInt8) : (DS × SS) × Int :=
 if 64 * s.n - 28 < b.length then ((S, s), 1) else
 if (laid S s b).2 ≠ 0 then (((laid S s b).1, s), (laid S s b).2) else
 if (flushRes (laid S s b).1).2 ≠ 0 then (((flushRes (laid S s b).1).1, s), (flushRes (laid S s b).1).2) else (((flushRes (laid S s b).1).1, s.saved b), 0)
structure OkS (S : DS) (s : SS) : Prop where
 n : 1 ≤ s.n ∧ s.n ≤ 8
 in_ : s.first + 2 * s.n ≤ S.sure.length
 at_ : s.at_ ≤ 1
 b : s.b.length + 28 ≤ 64 * s.n
theorem doingRes_sure {S S2 : DS} {l : Nat} (h : S.sure.length = l) (h2 : S2.sure.length = l) : (doingRes S S2).1.sure.length = l := by
 unfold doingRes
 split
 ·
  exact h
 split
 ·
  exact h
 split
 ·
  exact h
 exact h2
theorem writeRes_sure (S : DS) (i : Int) (bs : List UInt8) : (writeRes S i bs).1.sure.length = S.sure.length := by
 unfold writeRes
 split
 ·
  rfl
 exact doingRes_sure rfl rfl
theorem flushRes_sure (S : DS) : (flushRes S).1.sure.length = S.sure.length := doingRes_sure rfl (by show (flushTo _ _).length = _; rw [flushTo_length])
theorem saveGo_sure (S : DS) (at_ : Nat) (all : List UInt8) : ∀ k, (saveGo S at_ all k).1.sure.length = S.sure.length
 | 0 => rfl
 | k + 1 => by
  unfold saveGo
  split
  ·
   exact saveGo_sure S at_ all k
  rw [writeRes_sure]; exact saveGo_sure S at_ all k
theorem saveGo_within {S : DS} {B : Nat} (h : S.within B) (at_ : Nat) (all : List UInt8) : ∀ k, (saveGo S at_ all k).1.within (B + k)
 | 0 => h
 | k + 1 => by
  have ih := saveGo_within h at_ all k
  unfold saveGo
  split
  ·
   exact ⟨ih.1, by have := ih.2.1; omega, by have := ih.2.2; omega⟩
  exact within_write ih _ _
theorem DS.within.mono {S : DS} {B B' : Nat} (h : S.within B) (hb : B ≤ B') : S.within B' := ⟨h.1, by have := h.2.1; omega, by have := h.2.2; omega⟩
theorem saveRes_sure (S : DS) (s : SS) (b : List UInt8) : (saveRes S s b).1.1.sure.length = S.sure.length := by
 unfold saveRes laid
 split
 ·
  rfl
 split
 ·
  exact saveGo_sure _ _ _ _
 split
 ·
  rw [flushRes_sure]; exact saveGo_sure _ _ _ _
 show (flushRes _).1.sure.length = _
 rw [flushRes_sure]; exact saveGo_sure _ _ _ _
theorem saveRes_within {S : DS} {B : Nat} (h : S.within B) {s : SS} (hn : s.n ≤ 8) (b : List UInt8) : (saveRes S s b).1.1.within (B + 9) := by
 have h1 := fun k => saveGo_within h (s.first + s.to * s.n) (recB s.n (s.num + 1) b) k
 unfold saveRes laid
 split
 ·
  exact h.mono (by omega)
 split
 ·
  exact (h1 _).mono (by omega)
 split
 ·
  exact (within_flush (h1 _)).mono (by omega)
 exact (within_flush (h1 _)).mono (by omega)
theorem to_le (s : SS) : s.to ≤ 1 ∨ 1 < s.at_ := by unfold SS.to; split <;> omega
theorem saveRes_ok {S : DS} {s : SS} (h : OkS S s) (b : List UInt8) : OkS (saveRes S s b).1.1 (saveRes S s b).1.2 := by
 have hs := saveRes_sure S s b
 have hto := to_le s
 have key : ∀ s', (saveRes S s b).1.2 = s' → OkS S s' → OkS (saveRes S s b).1.1 (saveRes S s b).1.2 := fun s' e o => e ▸ ⟨o.n, by rw [hs]; exact o.in_, o.at_, o.b⟩
 by_cases hb : 64 * s.n - 28 < b.length
 ·
  exact key s (by unfold saveRes; rw [if_pos hb]) h
 by_cases h1 : (laid S s b).2 ≠ 0
 ·
  exact key s (by unfold saveRes; rw [if_neg hb, if_pos h1]) h
 by_cases h2 : (flushRes (laid S s b).1).2 ≠ 0
 ·
  exact key s (by unfold saveRes; rw [if_neg hb, if_neg h1, if_pos h2]) h
 refine key (s.saved b) (by unfold saveRes; rw [if_neg hb, if_neg h1, if_neg h2]) ⟨h.n, h.in_, ?_, ?_⟩
 ·
  have := h.at_; show s.to ≤ 1; omega
 have := h.n; show b.length + 28 ≤ 64 * s.n; omega
theorem readRec_len (n : Nat) (hn : 1 ≤ n) (a : List UInt8) : (readRec n a).2.length + 28 ≤ 64 * n := by
 unfold readRec
 split
 ·
  simp; omega
 rename_i h
 split
 ·
  simp only [datOf, List.length_take]; omega
 simp; omega
theorem loadRes_ok {S : DS} {s : SS} (h : OkS S s) : OkS S (loadRes S s).1 := by
 have hn := h.n
 have hl := fun a => readRec_len s.n hn.1 a
 unfold loadRes
 split
 ·
  exact h
 unfold loaded
 split
 ·
  exact ⟨h.n, h.in_, Nat.le_refl _, hl _⟩
 exact ⟨h.n, h.in_, Nat.zero_le _, hl _⟩
theorem readRes_len {S : DS} (hd : S.down = false) (sl : ∀ b ∈ S.sure, b.length = 64) (pl : ∀ q ∈ S.pend, q.2.length = 64 ∧ 0 ≤ q.1 ∧ q.1 < S.sure.length) {i : Nat} (hi : i < S.sure.length) : (readRes S (i : Int)).2 = 0 ∧ (readRes S (i : Int)).1.length = 64 := by
 have hin : (0 : Int) ≤ (i : Int) ∧ (i : Int) < S.sure.length := by omega
 rw [show readRes S (i : Int) = ((lastW (i : Int) S.pend).getD (S.sure.getD i []), 0) by rw [readRes, if_neg (by simp [hd]), if_pos hin]; rfl]
 refine ⟨rfl, ?_⟩
 have hmem : ∀ ps : List (Int × List UInt8), (∀ q ∈ ps, q.2.length = 64) → ((lastW (i : Int) ps).getD (S.sure.getD i [])).length = 64 := fun ps => by
  induction ps with
  | nil => intro _; exact sl _ (getD_mem _ _ _ hi)
  | cons a ps ih =>
   intro hq
   simp only [lastW]
   have ih := ih (fun q hq' => hq q (List.mem_cons_of_mem _ hq'))
   cases hx : lastW (i : Int) ps with
   | some b' => rw [hx] at ih; exact ih
   | none =>
    rw [hx] at ih
    simp only
    split
    ·
     exact hq a List.mem_cons_self
    exact ih
 exact hmem _ (fun q hq => (pl q hq).1)
theorem areaB_length {S : DS} (hd : S.down = false) (sl : ∀ b ∈ S.sure, b.length = 64) (pl : ∀ q ∈ S.pend, q.2.length = 64 ∧ 0 ≤ q.1 ∧ q.1 < S.sure.length) {at_ : Nat} : ∀ k, at_ + k ≤ S.sure.length → (areaB S at_ k).length = 64 * k
 | 0, _ => rfl
 | k + 1, h => by
  rw [areaB, List.length_append, areaB_length hd sl pl k (by omega), (readRes_len hd sl pl (by omega)).2]; omega
structure DS.calm (S : DS) : Prop where
 down : S.down = false
 fail : S.fail = []
 stop : S.stop = 0
 pend : S.pend = []
 count : 0 ≤ S.count
 len : ∀ b ∈ S.sure, b.length = 64
theorem calm_fresh (n : Nat) : (fresh n).calm := ⟨rfl, rfl, rfl, rfl, by simp [fresh], fun b hb => by rw [(List.mem_replicate.1 hb).2]; simp [zeros]⟩
def chunk (all : List UInt8) (k : Nat) : List UInt8 := (all.drop (64 * k)).take 64
def pendOf (at_ : Nat) (all : List UInt8) : Nat → List (Int × List UInt8)
 | 0 => []
 | k + 1 => pendOf at_ all k ++ [(((at_ + k : Nat) : Int), chunk all k)]
def setSecs (s : List (List UInt8)) (at_ : Nat) (all : List UInt8) : Nat → List (List UInt8)
 | 0 => s
 | k + 1 => (setSecs s at_ all k).set (at_ + k) (chunk all k)
theorem setSecs_length (s : List (List UInt8)) (at_ : Nat) (all : List UInt8) : ∀ k, (setSecs s at_ all k).length = s.length
 | 0 => rfl
 | k + 1 => by simp [setSecs, setSecs_length s at_ all k]
theorem setSecs_get (s : List (List UInt8)) (at_ : Nat) (all : List UInt8) : ∀ k i, at_ + k ≤ s.length → (setSecs s at_ all k).getD i [] = if at_ ≤ i ∧ i < at_ + k then chunk all (i - at_) else s.getD i []
 | 0, i, _ => by rw [if_neg (by omega)]; rfl
 | k + 1, i, h => by
  have ih := setSecs_get s at_ all k i (by omega)
  rw [List.getD_eq_getElem?_getD] at ih ⊢
  rw [setSecs, List.getElem?_set]
  by_cases hi : at_ + k = i
  ·
   subst hi
   rw [if_pos rfl, if_pos (by rw [setSecs_length]; omega), if_pos (by omega)]
   simp
  rw [if_neg hi, ih]
  by_cases hc : at_ ≤ i ∧ i < at_ + k
  ·
   rw [if_pos hc, if_pos (by omega)]
  rw [if_neg hc, if_neg (by omega)]
theorem flush_pendOf (s : List (List UInt8)) (at_ : Nat) (all : List UInt8) : ∀ k, flushTo s (pendOf at_ all k) = setSecs s at_ all k
 | 0 => rfl
 | k + 1 => by rw [pendOf, flushTo_snoc, flush_pendOf s at_ all k, setSecs, Int.toNat_natCast]
theorem chunk_length {all : List UInt8} {n k : Nat} (h : all.length = 64 * n) (hk : k < n) : (chunk all k).length = 64 := by
 rw [chunk, List.length_take, List.length_drop]; omega
theorem saveGo_calm {S : DS} (h : S.calm) {at_ n : Nat} {all : List UInt8} (ha : all.length = 64 * n) (hb : at_ + n ≤ S.sure.length) : ∀ k, k ≤ n → saveGo S at_ all k = ({ S with pend := pendOf at_ all k, count := S.count + k }, 0)
 | 0, _ => by
  have := h.pend
  cases S
  simp_all [saveGo, pendOf]
 | k + 1, hk => by
  have ih := saveGo_calm h ha hb k (by omega)
  have hc := chunk_length ha (show k < n by omega)
  have h1 := h.down
  have h2 := h.fail
  have h3 := h.stop
  have h4 := h.count
  rw [saveGo, ih, if_neg (by simp)]
  show writeRes _ _ (chunk all k) = _
  rw [writeRes, if_neg (by rw [hc]; simp; omega), doingRes, if_neg (by simp [h1]), if_neg (by simp only [h3]; omega), if_neg (by simp [h2])]
  simp only [added, pendOf]
  rw [Int.add_assoc]
  rfl
theorem flush_calm {S : DS} {ps : List (Int × List UInt8)} {c : Int} (h1 : S.down = false) (h2 : S.fail = []) (h3 : S.stop = 0) (hc : 0 ≤ c) : flushRes { S with pend := ps, count := c } = ({ S with sure := flushTo S.sure ps, pend := [], count := c + 1 }, 0) := by
 rw [flushRes, doingRes, if_neg (by simp [h1]), if_neg (by simp only [h3]; omega), if_neg (by simp [h2])]
def savedD (S : DS) (s : SS) (b : List UInt8) : DS := { S with sure := setSecs S.sure (s.first + s.to * s.n) (recB s.n (s.num + 1) b) s.n, pend := [], count := S.count + s.n + 1 }
theorem save_calm {S : DS} {s : SS} (h : S.calm) (ok : OkS S s) {b : List UInt8} (hb : b.length + 28 ≤ 64 * s.n) : saveRes S s b = ((savedD S s b, s.saved b), 0) := by
 have hn := ok.n
 have hin := ok.in_
 have hto := to_le s
 have hat := ok.at_
 have hq := Nat.mul_le_mul_right s.n (show s.to ≤ 1 by omega)
 have hgo := saveGo_calm h (at_ := s.first + s.to * s.n) (recB_length (num := s.num + 1) hb) (by omega) s.n (Nat.le_refl _)
 have hfl := flush_calm (ps := pendOf (s.first + s.to * s.n) (recB s.n (s.num + 1) b) s.n) (c := S.count + s.n) h.down h.fail h.stop (by have := h.count; omega)
 rw [saveRes, if_neg (by omega), laid, hgo, if_neg (by simp), hfl, if_neg (by simp), flush_pendOf]
 rfl
theorem calm_saved {S : DS} {s : SS} (h : S.calm) (ok : OkS S s) {b : List UInt8} (hb : b.length + 28 ≤ 64 * s.n) : (savedD S s b).calm := by
 refine ⟨h.down, h.fail, h.stop, rfl, by have := h.count; show 0 ≤ S.count + s.n + 1; omega, ?_⟩
 have hl := recB_length (num := s.num + 1) hb
 have hn := ok.n
 show ∀ x ∈ setSecs S.sure _ _ s.n, _
 have key : ∀ k, k ≤ s.n → ∀ x ∈ setSecs S.sure (s.first + s.to * s.n) (recB s.n (s.num + 1) b) k, x.length = 64 := fun k => by
  induction k with
  | zero => exact fun _ => h.len
  | succ k ih =>
   intro hk x hx
   rcases List.mem_or_eq_of_mem_set hx with hx | rfl
   ·
    exact ih (by omega) x hx
   exact chunk_length hl (by omega)
 exact key s.n (Nat.le_refl _)
theorem read_calm {S : DS} (h : S.calm) {i : Nat} (hi : i < S.sure.length) : readRes S (i : Int) = (S.sure.getD i [], 0) := by
 rw [readRes, if_neg (by simp [h.down]), if_pos (by omega), h.pend]
 rfl
theorem area_calm {S : DS} (h : S.calm) {at_ : Nat} : ∀ k, at_ + k ≤ S.sure.length → areaB S at_ k = ((List.range k).flatMap fun j => S.sure.getD (at_ + j) [])
 | 0, _ => rfl
 | k + 1, hk => by rw [areaB, area_calm h k (by omega), read_calm h (by omega), List.range_succ]; simp
theorem chunks_all (all : List UInt8) : ∀ k, ((List.range k).flatMap fun j => chunk all j) = all.take (64 * k)
 | 0 => by simp
 | k + 1 => by
  rw [List.range_succ, List.flatMap_append, chunks_all all k]
  simp only [List.flatMap_cons, List.flatMap_nil, List.append_nil, chunk]
  rw [show 64 * (k + 1) = 64 * k + 64 by omega, List.take_add]
theorem flatMap_congr' {α β : Type} {f g : α → List β} : ∀ (l : List α), (∀ a ∈ l, f a = g a) → l.flatMap f = l.flatMap g
 | [], _ => rfl
 | a :: l, h => by rw [List.flatMap_cons, List.flatMap_cons, h a List.mem_cons_self, flatMap_congr' l fun x hx => h x (List.mem_cons_of_mem _ hx)]
theorem area_saved {S : DS} {s : SS} (h : S.calm) (ok : OkS S s) {b : List UInt8} (hb : b.length + 28 ≤ 64 * s.n) : areaB (savedD S s b) (s.first + s.to * s.n) s.n = recB s.n (s.num + 1) b := by
 have hn := ok.n
 have hin := ok.in_
 have hto := to_le s
 have hat := ok.at_
 have hq := Nat.mul_le_mul_right s.n (show s.to ≤ 1 by omega)
 have hsl : (savedD S s b).sure.length = S.sure.length := setSecs_length _ _ _ _
 have hl := recB_length (num := s.num + 1) hb
 rw [area_calm (calm_saved h ok hb) _ (by omega)]
 have : ((List.range s.n).flatMap fun j => (savedD S s b).sure.getD (s.first + s.to * s.n + j) []) = ((List.range s.n).flatMap fun j => chunk (recB s.n (s.num + 1) b) j) := flatMap_congr' _ fun j hj => by
  have := List.mem_range.1 hj
  show (setSecs S.sure _ _ s.n).getD _ [] = _
  rw [setSecs_get _ _ _ _ _ (by omega), if_pos (by omega), Nat.add_sub_cancel_left]
 rw [this, chunks_all, List.take_of_length_le (by omega)]
theorem area_other {S : DS} {s : SS} (h : S.calm) (ok : OkS S s) {b : List UInt8} (hb : b.length + 28 ≤ 64 * s.n) {a : Nat} (ha : a + s.n ≤ S.sure.length) (hd : a + s.n ≤ s.first + s.to * s.n ∨ s.first + s.to * s.n + s.n ≤ a) : areaB (savedD S s b) a s.n = areaB S a s.n := by
 have hin := ok.in_
 have hto := to_le s
 have hat := ok.at_
 have hq := Nat.mul_le_mul_right s.n (show s.to ≤ 1 by omega)
 have hsl : (savedD S s b).sure.length = S.sure.length := setSecs_length _ _ _ _
 rw [area_calm (calm_saved h ok hb) _ (by omega), area_calm h _ ha]
 refine flatMap_congr' _ fun j hj => ?_
 have := List.mem_range.1 hj
 show (setSecs S.sure _ _ s.n).getD _ [] = _
 rw [setSecs_get _ _ _ _ _ (by omega), if_neg (by omega)]
theorem readRec_recB {n : Nat} {num : UInt64} {b : List UInt8} (hn : n ≤ 8) (h0 : num ≠ 0) (hb : b.length + 28 ≤ 64 * n) : readRec n (recB n num b) = (num, b) := by
 have hlt := num.toNat_lt
 have e1 : numOf (recB n num b) = num.toNat := by
  rw [numOf, recB, recH, List.append_assoc, List.take_append_of_le_length (by rw [putB_length]; omega), List.take_of_length_le (by rw [putB_length]; omega), getB_put]
  omega
 have e2 : cntOf (recB n num b) = b.length := by
  have hd : (recB n num b).drop 8 = putB b.length 4 ++ (b ++ ((sha (recH num b)).take 16 ++ List.replicate (64 * n - 28 - b.length) 0)) := by
   rw [recB, show recH num b = putB num.toNat 8 ++ (putB b.length 4 ++ b) from rfl, List.append_assoc, List.drop_append, List.drop_of_length_le (by rw [putB_length]; omega), putB_length]
   simp
  rw [cntOf, hd, List.take_append_of_le_length (by rw [putB_length]; omega), List.take_of_length_le (by rw [putB_length]; omega), getB_put]
  omega
 have e3 : datOf (recB n num b) = b := by
  have hd : (recB n num b).drop 12 = b ++ ((sha (recH num b)).take 16 ++ List.replicate (64 * n - 28 - b.length) 0) := by
   rw [recB, List.drop_append_of_le_length (by rw [recH_length]; omega), show recH num b = (putB num.toNat 8 ++ putB b.length 4) ++ b by rw [recH, List.append_assoc], List.drop_append, List.drop_of_length_le (by simp [putB_length])]
   simp [putB_length]
  rw [datOf, e2, hd, List.take_append_of_le_length (Nat.le_refl _), List.take_of_length_le (Nat.le_refl _)]
 have hne : num.toNat ≠ 0 := fun h => h0 (UInt64.toNat_inj.1 (by simpa using h))
 rw [readRec, e1, e2, if_neg (by omega), e3]
 simp
structure Bears (S : DS) (s : SS) : Prop where
 calm : S.calm
 ok : OkS S s
 zero : s.num = 0 → s.at_ = 0 ∧ s.b = [] ∧ (readRec s.n (areaB S s.first s.n)).1 = 0 ∧ (readRec s.n (areaB S (s.first + s.n) s.n)).1 = 0
 own : s.num ≠ 0 → readRec s.n (areaB S (s.first + s.at_ * s.n) s.n) = (s.num, s.b) ∧ (readRec s.n (areaB S (s.first + (1 - s.at_) * s.n) s.n)).1.toNat < s.num.toNat
theorem to_next (s : SS) (h : s.at_ ≤ 1) (h0 : s.num ≠ 0) : s.to = 1 - s.at_ := by
 have : s.num.toNat ≠ 0 := fun e => h0 (UInt64.toNat_inj.1 (by simpa using e))
 rw [SS.to, if_pos (by omega)]
theorem Bears.save {S : DS} {s : SS} (h : Bears S s) {b : List UInt8} (hb : b.length + 28 ≤ 64 * s.n) (hov : s.num.toNat < 18446744073709551615) : Bears (savedD S s b) (s.saved b) := by
 have hn := h.ok.n
 have hin := h.ok.in_
 have hat := h.ok.at_
 have hto := to_le s
 have hnum : (s.num + 1).toNat = s.num.toNat + 1 := by rw [UInt64.toNat_add]; simp; omega
 have hnz : s.num + 1 ≠ 0 := fun e => by rw [e] at hnum; simp at hnum
 have ha := area_saved h.calm h.ok hb
 have hok := saveRes_ok h.ok b
 rw [save_calm h.calm h.ok hb] at hok
 refine ⟨calm_saved h.calm h.ok hb, hok, fun e => absurd e hnz, fun _ => ⟨?_, ?_⟩⟩
 ·
  show readRec s.n (areaB (savedD S s b) (s.first + s.to * s.n) s.n) = _
  rw [ha, readRec_recB hn.2 hnz hb]
  rfl
 show (readRec s.n (areaB (savedD S s b) (s.first + (1 - s.to) * s.n) s.n)).1.toNat < (s.num + 1).toNat
 have hot : areaB (savedD S s b) (s.first + (1 - s.to) * s.n) s.n = areaB S (s.first + (1 - s.to) * s.n) s.n := by
  have : s.to = 0 ∨ s.to = 1 := by omega
  rcases this with e | e
  ·
   exact area_other h.calm h.ok hb (by rw [e]; omega) (by rw [e]; omega)
  exact area_other h.calm h.ok hb (by rw [e]; omega) (by rw [e]; omega)
 rw [hot, hnum]
 by_cases h0 : s.num = 0
 ·
  obtain ⟨_, _, _, z2⟩ := h.zero h0
  have e : s.to = 0 := by rw [SS.to, h0]; rfl
  rw [e, show s.first + (1 - 0) * s.n = s.first + s.n by omega, z2, h0]
  decide
 have e := to_next s hat h0
 rw [e, show 1 - (1 - s.at_) = s.at_ by omega, (h.own h0).1]
 show s.num.toNat < _
 omega
theorem Bears.load {S : DS} {s t : SS} (h : Bears S s) (h0 : s.num ≠ 0) (hf : t.first = s.first) (hn : t.n = s.n) : loadRes S t = ({ t with at_ := s.at_, num := s.num, b := s.b }, 0) := by
 have hat := h.ok.at_
 obtain ⟨h1, h2⟩ := h.own h0
 have hpos : 0 < s.num.toNat := Nat.pos_of_ne_zero fun e => h0 (UInt64.toNat_inj.1 (by simpa using e))
 rw [loadRes, if_neg (by simp [h.calm.down]), loaded, hf, hn]
 have : s.at_ = 0 ∨ s.at_ = 1 := by omega
 rcases this with e | e
 ·
  rw [e] at h1 h2
  rw [show s.first + 0 * s.n = s.first by omega] at h1
  rw [show s.first + (1 - 0) * s.n = s.first + s.n by omega] at h2
  rw [h1, if_neg (by show ¬ s.num.toNat < _; omega), if_pos hpos, e]
 rw [e] at h1 h2
 rw [show s.first + 1 * s.n = s.first + s.n by omega] at h1
 rw [show s.first + (1 - 1) * s.n = s.first by omega] at h2
 rw [h1, if_pos h2, e]
theorem area_zeros {S : DS} (h : S.calm) {a : Nat} : ∀ n, a + n ≤ S.sure.length → (∀ j, j < n → S.sure.getD (a + j) [] = zeros) → areaB S a n = List.replicate (64 * n) 0
 | 0, _, _ => rfl
 | n + 1, hl, hz => by
  rw [areaB, area_zeros h n (by omega) (fun j hj => hz j (by omega)), read_calm h (by omega), hz n (by omega), zeros, List.replicate_append_replicate, show 64 * n + 64 = 64 * (n + 1) by omega]
theorem getB_zeros : ∀ n, getB (List.replicate n 0) = 0
 | 0 => rfl
 | n + 1 => by rw [List.replicate_succ', getB_snoc, getB_zeros n]; rfl
theorem readRec_zeros (n m : Nat) : readRec n (List.replicate m 0) = (0, []) := by
 rw [readRec, if_pos (.inl (by rw [numOf, List.take_replicate, getB_zeros]))]
structure Cn where
 total : UInt64
 batch : UInt64
 reserved : UInt64
 next : UInt64
 retired : Bool
theorem Cn.ext_iff (a b : Cn) : (a.total = b.total ∧ a.batch = b.batch ∧ a.reserved = b.reserved ∧ a.next = b.next ∧ a.retired = b.retired) ↔ a = b := by
 constructor
 ·
  rintro ⟨h1, h2, h3, h4, h5⟩
  cases a; cases b; simp_all
 rintro rfl; exact ⟨rfl, rfl, rfl, rfl, rfl⟩
instance : DecidableEq Cn := fun a b => decidable_of_iff _ (Cn.ext_iff a b)
abbrev ccells (x : Cn) : List Value := [.int .u64 (x.total.toNat : Int), .int .u64 (x.batch.toNat : Int), .int .u64 (x.reserved.toNat : Int), .int .u64 (x.next.toNat : Int), .bool x.retired]
def zeroC : Cn := ⟨0, 0, 0, 0, false⟩
def mayB (x : Cn) (l : Nat) : Bool := decide (1 ≤ x.total.toNat ∧ x.total.toNat ≤ 1152921504606846976 ∧ 1 ≤ x.batch.toNat ∧ x.batch.toNat ≤ 65536 ∧ x.reserved.toNat ≤ x.total.toNat ∧ l ≤ 200)
def bytesC (x : Cn) (head : List UInt8) : List UInt8 := putB x.total.toNat 8 ++ (putB x.batch.toNat 8 ++ (putB x.reserved.toNat 8 ++ ((if x.retired then 1 else 0) :: head)))
theorem bytesC_length (x : Cn) (head : List UInt8) : (bytesC x head).length = 25 + head.length := by simp [bytesC, putB_length]; omega
def xOf (b : List UInt8) : Cn := ⟨UInt64.ofNat (getB (b.take 8)), UInt64.ofNat (getB ((b.drop 8).take 8)), UInt64.ofNat (getB ((b.drop 16).take 8)), UInt64.ofNat (getB ((b.drop 16).take 8)), b.getD 24 0 == 1⟩
def readC (b : List UInt8) : (Cn × List UInt8) × Int :=
 if b.length < 25 then ((zeroC, []), 2) else if 1 < (b.getD 24 0).toNat ∨ mayB (xOf b) (b.length - 25) = false then ((zeroC, []), 3) else ((xOf b, b.drop 25), 0)
def saveC (S : DS) (s : SS) (x x' : Cn) (head : List UInt8) : ((DS × SS) × Cn) × Int :=
 if x' = x then (((S, s), x), 0) else if mayB x' head.length = false then (((S, s), x), 1) else
 if (saveRes S s (bytesC x' head)).2 ≠ 0 then (((saveRes S s (bytesC x' head)).1, x), (saveRes S s (bytesC x' head)).2) else (((saveRes S s (bytesC x' head)).1, x'), 0)
def newX (total batch : UInt64) : Cn := ⟨total, batch, 0, 0, false⟩
def newC (S : DS) (s : SS) (head : List UInt8) (total batch : UInt64) : (DS × SS) × Int :=
 if mayB (newX total batch) head.length = false then ((S, s), 1) else
 if (loadRes S s).2 = 0 then ((S, (loadRes S s).1), 10) else if (loadRes S s).2 = 11 then saveRes S (loadRes S s).1 (bytesC (newX total batch) head) else ((S, (loadRes S s).1), (loadRes S s).2)
def openC (S : DS) (s : SS) : (Cn × List UInt8) × Int := if (loadRes S s).2 ≠ 0 then ((zeroC, []), (loadRes S s).2) else readC (loadRes S s).1.b
def moreC (x : Cn) : Cn := { x with reserved := if x.total.toNat < (x.reserved + x.batch).toNat then x.total else x.reserved + x.batch }
def nextC' (x : Cn) : Cn := { x with next := x.next + 1 }
def takeC (S : DS) (s : SS) (x : Cn) (head : List UInt8) : ((DS × SS) × Cn) × (UInt64 × Int) :=
 if x.retired then (((S, s), x), (0, 13)) else if x.next = x.total then (((S, s), x), (0, 9)) else
 if x.next = x.reserved then
  if (saveC S s x (moreC x) head).2 ≠ 0 then ((saveC S s x (moreC x) head).1, (0, (saveC S s x (moreC x) head).2))
  else (((saveC S s x (moreC x) head).1.1, nextC' (saveC S s x (moreC x) head).1.2), ((nextC' (saveC S s x (moreC x) head).1.2).next - 1, 0))
 else (((S, s), nextC' x), ((nextC' x).next - 1, 0))
def retireC (S : DS) (s : SS) (x : Cn) (head : List UInt8) : ((DS × SS) × Cn) × Int := saveC S s x { x with retired := true } head
theorem xOf_bytes (x : Cn) (head : List UInt8) : xOf (bytesC x head) = { x with next := x.reserved } := by
 have e1 : (bytesC x head).take 8 = putB x.total.toNat 8 := by
  rw [bytesC, List.take_append_of_le_length (by rw [putB_length]; omega), List.take_of_length_le (by rw [putB_length]; omega)]
 have d1 : (bytesC x head).drop 8 = putB x.batch.toNat 8 ++ (putB x.reserved.toNat 8 ++ ((if x.retired then 1 else 0) :: head)) := by
  rw [bytesC, List.drop_append, List.drop_of_length_le (by rw [putB_length]; omega), putB_length]; rfl
 have d2 : (bytesC x head).drop 16 = putB x.reserved.toNat 8 ++ ((if x.retired then 1 else 0) :: head) := by
  rw [show 16 = 8 + 8 from rfl, ← List.drop_drop, d1, List.drop_append, List.drop_of_length_le (by rw [putB_length]; omega), putB_length]; rfl
 have d3 : (bytesC x head).drop 24 = (if x.retired then 1 else 0) :: head := by
  rw [show 24 = 16 + 8 from rfl, ← List.drop_drop, d2, List.drop_append, List.drop_of_length_le (by rw [putB_length]; omega), putB_length]; rfl
 have e2 : ((bytesC x head).drop 8).take 8 = putB x.batch.toNat 8 := by
  rw [d1, List.take_append_of_le_length (by rw [putB_length]; omega), List.take_of_length_le (by rw [putB_length]; omega)]
 have e3 : ((bytesC x head).drop 16).take 8 = putB x.reserved.toNat 8 := by
  rw [d2, List.take_append_of_le_length (by rw [putB_length]; omega), List.take_of_length_le (by rw [putB_length]; omega)]
 have e4 : (bytesC x head).getD 24 0 = if x.retired then 1 else 0 := by
  have := congrArg List.head? d3
  rw [List.head?_drop] at this
  rw [List.getD_eq_getElem?_getD, this]; rfl
 have h8 : ∀ v : UInt64, UInt64.ofNat (getB (putB v.toNat 8)) = v := fun v => by
  have := v.toNat_lt
  rw [getB_put, Nat.mod_eq_of_lt (by omega)]; simp
 unfold xOf
 rw [e1, e2, e3, e4, h8, h8, h8]
 cases x with
 | mk a b c d e => cases e <;> rfl
theorem drop25_bytes (x : Cn) (head : List UInt8) : (bytesC x head).drop 25 = head := by
 have : bytesC x head = (putB x.total.toNat 8 ++ (putB x.batch.toNat 8 ++ (putB x.reserved.toNat 8 ++ [if x.retired then 1 else 0]))) ++ head := by simp [bytesC]
 rw [this, List.drop_append, List.drop_of_length_le (by simp [putB_length])]
 simp [putB_length]
theorem flag_bytes (x : Cn) (head : List UInt8) : (bytesC x head).getD 24 0 = if x.retired then 1 else 0 := by
 have := congrArg Cn.retired (xOf_bytes x head)
 have h2 : bytesC x head = (putB x.total.toNat 8 ++ (putB x.batch.toNat 8 ++ putB x.reserved.toNat 8)) ++ ((if x.retired then 1 else 0) :: head) := by simp [bytesC]
 rw [h2, List.getD_eq_getElem?_getD, List.getElem?_append_right (by simp [putB_length])]
 simp [putB_length]
theorem readC_bytesC {x : Cn} {head : List UInt8} (h : mayB x head.length = true) : readC (bytesC x head) = (({ x with next := x.reserved }, head), 0) := by
 have hl := bytesC_length x head
 have hm : mayB (xOf (bytesC x head)) ((bytesC x head).length - 25) = true := by
  rw [xOf_bytes, hl, show 25 + head.length - 25 = head.length by omega]; exact h
 rw [readC, if_neg (by omega), if_neg (by rw [flag_bytes, hm]; cases x.retired <;> simp), xOf_bytes, drop25_bytes]
structure KeyH where
 name : List UInt8
 l : List PairV
 sn : List UInt8
 ss : List UInt8
def codB (p : PairV) : List UInt8 := putB p.t.toNat 4 ++ putB p.o.toNat 4
theorem codB_len (p : PairV) : (codB p).length = 8 := by simp [codB, putB_length]
def codsB (l : List PairV) : List UInt8 := l.flatMap codB
theorem codsB_len (l : List PairV) : (codsB l).length = 8 * l.length := by
 induction l with
 | nil => rfl
 | cons p l ih => rw [codsB, List.flatMap_cons, List.length_append, codB_len, ← codsB, ih, List.length_cons]; omega
theorem codsB_snoc (l : List PairV) (p : PairV) : codsB (l ++ [p]) = codsB l ++ codB p := by simp [codsB]
def mayK (nl : Nat) (l : List PairV) (sn ss : Nat) : Prop := 1 ≤ nl ∧ nl ≤ 16 ∧ canE l sn ss = 0
instance {nl : Nat} {l : List PairV} {sn ss : Nat} : Decidable (mayK nl l sn ss) := inferInstanceAs (Decidable (_ ∧ _))
def headB (name : List UInt8) (l : List PairV) (sn ss : List UInt8) : List UInt8 := UInt8.ofNat name.length :: (name ++ (UInt8.ofNat l.length :: (codsB l ++ (sn ++ ss))))
theorem headB_len (name : List UInt8) (l : List PairV) (sn ss : List UInt8) : (headB name l sn ss).length = 2 + name.length + 8 * l.length + sn.length + ss.length := by simp [headB, codsB_len]; omega
def hdN (h : List UInt8) : Nat := (h.getD 0 0).toNat
def hdM (h : List UInt8) : Nat := (h.getD (1 + hdN h) 0).toNat
def codesL (bs : List UInt8) : Nat → List PairV
 | 0 => []
 | k + 1 => codesL bs k ++ [pairC (bs.drop (8 * k))]
theorem codesL_len (bs : List UInt8) : ∀ k, (codesL bs k).length = k
 | 0 => rfl
 | k + 1 => by rw [codesL, List.length_append, codesL_len bs k]; rfl
def okLen (h : List UInt8) : Prop := 1 ≤ h.length ∧ 2 + hdN h ≤ h.length ∧ 2 + hdN h + 8 * hdM h + 16 ≤ h.length
instance {h : List UInt8} : Decidable (okLen h) := inferInstanceAs (Decidable (_ ∧ _))
def nameH (h : List UInt8) : List UInt8 := (h.drop 1).take (hdN h)
def lH (h : List UInt8) : List PairV := codesL (h.drop (2 + hdN h)) (hdM h)
def snH (h : List UInt8) : List UInt8 := (h.drop (2 + hdN h + 8 * hdM h)).take 16
def ssH (h : List UInt8) : List UInt8 := h.drop (2 + hdN h + 8 * hdM h + 16)
def goodH (h : List UInt8) : Prop := okLen h ∧ mayK (nameH h).length (lH h) (snH h).length (ssH h).length
instance {h : List UInt8} : Decidable (goodH h) := inferInstanceAs (Decidable (_ ∧ _))
theorem nameH_len {h : List UInt8} (ok : okLen h) : (nameH h).length = hdN h := by
 have := ok.2.1
 rw [nameH, List.length_take, List.length_drop]; omega
theorem codB_pair {bs : List UInt8} (h : 8 ≤ bs.length) : codB (pairC bs) = bs.take 8 := by
 rw [codB, pairC, putB_get4 (by rw [List.length_take]; omega), putB_get4 (by rw [List.length_take, List.length_drop]; omega), ← List.take_add]
theorem codsB_codes {bs : List UInt8} : ∀ k, 8 * k ≤ bs.length → codsB (codesL bs k) = bs.take (8 * k)
 | 0, _ => rfl
 | k + 1, h => by
  rw [codesL, codsB_snoc, codsB_codes k (by omega), codB_pair (by rw [List.length_drop]; omega), ← List.take_add]; rfl
theorem cons_drop {h : List UInt8} {i : Nat} (hi : i < h.length) : h.drop i = h.getD i 0 :: h.drop (i + 1) := by
 rw [List.drop_eq_getElem_cons hi]; congr 1; rw [List.getD_eq_getElem?_getD, List.getElem?_eq_getElem hi]; rfl
theorem headB_parse {h : List UInt8} (ok : okLen h) : headB (nameH h) (lH h) (snH h) (ssH h) = h := by
 obtain ⟨h1, h2, h3⟩ := ok
 have e1 : UInt8.ofNat (nameH h).length = h.getD 0 0 := by rw [nameH_len ⟨h1, h2, h3⟩, hdN]; simp
 have e2 : UInt8.ofNat (lH h).length = h.getD (1 + hdN h) 0 := by rw [lH, codesL_len, hdM]; simp
 have e3 : codsB (lH h) = (h.drop (2 + hdN h)).take (8 * hdM h) := codsB_codes _ (by rw [List.length_drop]; omega)
 have e4 : snH h ++ ssH h = h.drop (2 + hdN h + 8 * hdM h) := by rw [snH, ssH, ← List.drop_drop (j := 2 + hdN h + 8 * hdM h) (i := 16)]; exact List.take_append_drop _ _
 have e5 : codsB (lH h) ++ (snH h ++ ssH h) = h.drop (2 + hdN h) := by rw [e3, e4, ← List.drop_drop (j := 2 + hdN h) (i := 8 * hdM h)]; exact List.take_append_drop _ _
 rw [headB, e1, e2, e5, show 2 + hdN h = (1 + hdN h) + 1 by omega, ← cons_drop (by omega), ← List.drop_drop, nameH, List.take_append_drop]
 have := cons_drop (h := h) (i := 0) (by omega)
 rw [List.drop_zero] at this
 exact this.symm
theorem pairC_cod (p : PairV) (X : List UInt8) : pairC (codB p ++ X) = p := by
 have h4 : ∀ v : UInt32, UInt32.ofNat (getB (putB v.toNat 4)) = v := fun v => by
  have := v.toNat_lt
  rw [getB_put, Nat.mod_eq_of_lt (by omega)]; simp
 have e1 : (codB p ++ X).take 4 = putB p.t.toNat 4 := by rw [codB, List.append_assoc, List.take_append_of_le_length (by rw [putB_length]; omega), List.take_of_length_le (by rw [putB_length]; omega)]
 have e2 : ((codB p ++ X).drop 4).take 4 = putB p.o.toNat 4 := by
  rw [codB, List.append_assoc, List.drop_append, List.drop_of_length_le (by rw [putB_length]; omega), putB_length]
  show (putB p.o.toNat 4 ++ X).take 4 = _
  rw [List.take_append_of_le_length (by rw [putB_length]; omega), List.take_of_length_le (by rw [putB_length]; omega)]
 rw [pairC, e1, e2, h4, h4]
theorem codes_cods (X : List UInt8) (l : List PairV) : ∀ k, k ≤ l.length → codesL (codsB l ++ X) k = l.take k
 | 0, _ => rfl
 | k + 1, h => by
  have e : l = l.take k ++ l[k] :: l.drop (k + 1) := by rw [← List.drop_eq_getElem_cons (by omega), List.take_append_drop]
  have e2 : (codsB l ++ X).drop (8 * k) = codB l[k] ++ (codsB (l.drop (k + 1)) ++ X) := by
   have : codsB l = codsB (l.take k) ++ (codB l[k] ++ codsB (l.drop (k + 1))) := by
    conv => lhs; rw [e]
    simp only [codsB, List.flatMap_append, List.flatMap_cons]
   rw [this, List.append_assoc, List.drop_append, List.drop_of_length_le (by rw [codsB_len, List.length_take]; omega), codsB_len, List.length_take, List.append_assoc, show 8 * k - 8 * min k l.length = 0 by omega]; rfl
  rw [codesL, codes_cods X l k (by omega), e2, pairC_cod, List.take_add_one, List.getElem?_eq_getElem (by omega)]; rfl
theorem mayK_facts {nl : Nat} {l : List PairV} {sn ss : Nat} (h : mayK nl l sn ss) : 1 ≤ l.length ∧ l.length ≤ 8 ∧ sn = 16 ∧ ss ≤ 32 ∧ okL l := by
 obtain ⟨_, _, h3⟩ := h
 obtain ⟨h4, h5⟩ := canE_zero h3
 obtain ⟨k1, k2, k3, k4⟩ := okL_get h4 (i := 0) (by have := h4.1.1; omega)
 have h6 := (h5 _ k2).2
 obtain ⟨n, w, p, H, hx⟩ := okP_facts k1
 have := h6.2.2
 have h32 := hx.o.n32
 have hn := hx.o.hn
 exact ⟨h4.1.1, h4.1.2, h6.2.1, by omega, h4⟩
section
variable {name : List UInt8} {l : List PairV} {sn ss : List UInt8}
theorem headB_hd (hn : name.length < 256) (hl : l.length < 256) : hdN (headB name l sn ss) = name.length ∧ hdM (headB name l sn ss) = l.length := by
 have h1 : hdN (headB name l sn ss) = name.length := by
  show (UInt8.ofNat name.length).toNat = _
  rw [UInt8.toNat_ofNat', Nat.mod_eq_of_lt hn]
 refine ⟨h1, ?_⟩
 rw [hdM, h1, headB, Nat.add_comm, List.getD_cons_succ, List.getD_eq_getElem?_getD, List.getElem?_append_right (Nat.le_refl _), Nat.sub_self]
 show (UInt8.ofNat l.length).toNat = _
 rw [UInt8.toNat_ofNat', Nat.mod_eq_of_lt hl]
theorem parse_headB (h : mayK name.length l sn.length ss.length) : goodH (headB name l sn ss) ∧ nameH (headB name l sn ss) = name ∧ lH (headB name l sn ss) = l ∧ snH (headB name l sn ss) = sn ∧ ssH (headB name l sn ss) = ss := by
 obtain ⟨h1, h2, h3, h4, h5⟩ := mayK_facts h
 have h6 := h.2.1
 obtain ⟨e1, e2⟩ := headB_hd (name := name) (l := l) (sn := sn) (ss := ss) (by omega) (by omega)
 have hlen := headB_len name l sn ss
 have d1 : (headB name l sn ss).drop (2 + name.length) = codsB l ++ (sn ++ ss) := by
  rw [show 2 + name.length = 1 + (name.length + 1) by omega, ← List.drop_drop, headB]
  show (name ++ (UInt8.ofNat l.length :: (codsB l ++ (sn ++ ss)))).drop (name.length + 1) = _
  rw [← List.drop_drop, List.drop_left]; rfl
 have d2 : (headB name l sn ss).drop (2 + name.length + 8 * l.length) = sn ++ ss := by rw [← List.drop_drop, d1, ← codsB_len, List.drop_left]
 have k1 : nameH (headB name l sn ss) = name := by
  rw [nameH, e1, headB]
  show (name ++ _).take name.length = _
  rw [List.take_left]
 have k2 : lH (headB name l sn ss) = l := by rw [lH, e1, e2, d1, codes_cods _ l _ (Nat.le_refl _), List.take_of_length_le (Nat.le_refl _)]
 have k3 : snH (headB name l sn ss) = sn := by rw [snH, e1, e2, d2, ← h3, List.take_left]
 have k4 : ssH (headB name l sn ss) = ss := by rw [ssH, e1, e2, ← List.drop_drop, d2, ← h3, List.drop_left]
 exact ⟨⟨⟨by omega, by rw [e1]; omega, by rw [e1, e2]; omega⟩, by rw [k1, k2, k3, k4]; exact h⟩, k1, k2, k3, k4⟩
end
end Go.Proofs.YtplkoemjffplcaaGreatDoor
