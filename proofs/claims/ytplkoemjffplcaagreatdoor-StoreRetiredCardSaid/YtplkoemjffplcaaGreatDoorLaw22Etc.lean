/-
From a contract to a statement; what came in. What is listed of package-level variables.
-/
import Derived.Test.YtplkoemjffplcaaGreatDoorStore15Etc
import Derived.Test.YtplkoemjffplcaaGreatDoorLms5Etc
import Derived.Test.YtplkoemjffplcaaGreatDoorHss15Etc
import Derived.Test.YtplkoemjffplcaaGreatDoorEngIEtc
import Derived.WalkKit
import Derived.ProofKit
import Derived.OpenShut
import Derived.ShutString
import Derived.ChangeOld
import Derived.Below
import Derived.Deep.Slices
import Derived.LaidMore
import Derived.LaidLaws
import Derived.MakeChecks
import Derived.Stop.Joined
import Derived.SevenTiedAt
import Derived.Test.YtplkoemjffplcaaGreatDoorTypes1Etc
import Derived.Test.YtplkoemjffplcaaGreatDoorShaEtc
import Derived.Test.YtplkoemjffplcaaGreatDoorChecked
import Derived.Test.YtplkoemjffplcaaGreatDoorRows
import Derived.Test.YtplkoemjffplcaaGreatDoorOncePureEtc
import Derived.ChangeSame
import Derived.SizedLaws
import Derived.Deep.Strs
import Derived.Test.YtplkoemjffplcaaGreatDoorMerkle5Etc
import Derived.Test.YtplkoemjffplcaaGreatDoorHss4Etc
import Derived.Test.YtplkoemjffplcaaGreatDoorChainEtc
import Derived.Test.YtplkoemjffplcaaGreatDoorShakeEtc
import Derived.Test.YtplkoemjffplcaaGreatDoorEngWEtc
import Derived.Test.YtplkoemjffplcaaGreatDoorSets3Etc
import Derived.Test.YtplkoemjffplcaaGreatDoorLms1Etc
import Derived.Test.YtplkoemjffplcaaGreatDoorHss9Etc
set_option linter.all false
namespace Go.Proofs.YtplkoemjffplcaaGreatDoor
open Go Go.Eng
theorem createS_within {S S' : DS} {B : Nat} (h : S.within B) {n : Nat} {hd : KeyH} {batch : UInt64} {o : Option KeyS} {e : Int} (hc : createS S n hd batch = ((S', o), e)) : S'.within (B + 9) := by
 have hn := fun a tot => newC_within h (s := sA a) (show (4 : Nat) ≤ 8 by decide) (headB hd.name hd.l hd.sn hd.ss) tot batch
 unfold createS at hc
 split at hc
 ·
  cases hc; exact h.mono (by omega)
 split at hc
 ·
  cases hc; exact h.mono (by omega)
 split at hc
 ·
  cases hc; exact hn _ _
 cases hc; exact hn _ _
theorem signK_within {S : DS} {B : Nat} (h : S.within B) {ks : List (KeyS × Nat)} (hn : ∀ q ∈ ks, q.1.s.n ≤ 8) (nm text : List UInt8) : (signK S ks nm text).S.within (B + 9) := by
 rw [signK]
 split
 ·
  exact h.mono (by omega)
 rename_i q hq
 have ht := takeC_within h (hn q (findP_mem hq).1) q.1.x q.1.head
 split
 ·
  exact h.mono (by omega)
 split
 ·
  exact ht
 exact ht
theorem hsigB_le {pl : List PairV} {name sec text : List UInt8} {x : Nat} (h0 : canE pl name.length sec.length = 0) : (hsigB pl (atsN (pl.map tv) x) name sec text).length ≤ 80804 := by
 obtain ⟨hok, hc⟩ := canE_zero h0
 have hcl : ∀ k, k ≤ pl.length → (catR (levR pl (atsN (pl.map tv) x) name sec text) k).length ≤ k * 10100 := by
  intro k
  induction k with
  | zero => intro _; rw [catR_zero]; exact Nat.zero_le _
  | succ k ih =>
   intro hk
   have h1 := ih (by omega)
   obtain ⟨z1, z2, _, _⟩ := lv_len hok hc _ text rfl rfl (i := k) (by omega) rfl
   have h2 : (levR pl (atsN (pl.map tv) x) name sec text k).length ≤ 10100 := by
    rw [levR, List.length_append, z1]
    split
    ·
     obtain ⟨n2, _, _, _, _, _, r1, _, _, r4, r5⟩ := pubR_facts (at_ := atsN (pl.map tv) x) (name := name) (sec := sec) hok hc rfl rfl (i := k + 1) (by omega)
     omega
    rw [List.length_nil]; omega
   rw [catR_succ, List.length_append]
   omega
 have := hcl _ (Nat.le_refl _)
 have h8 := hok.1.2
 rw [hsigB, List.length_append, putB_length]
 omega
theorem hpubB_le {pl : List PairV} {name sec : List UInt8} (h0 : canE pl name.length sec.length = 0) : (hpubB pl name sec).length ≤ 100 := by
 obtain ⟨hok, hc⟩ := canE_zero h0
 obtain ⟨n2, _, _, _, _, _, r1, _, _, r4, r5⟩ := pubR_facts (at_ := []) (name := name) (sec := sec) hok hc rfl rfl (i := 0) (by have := hok.1.1; omega)
 have e : (pubR pl [] name sec 0) = pubB (pl.getD 0 p0) name sec := rfl
 rw [e] at r1
 rw [hpubB, List.length_append, putB_length]
 omega
structure GoodK (h : KeyH) : Prop where
 can : canE h.l h.sn.length h.ss.length = 0
 name : 1 ≤ h.name.length ∧ h.name.length ≤ 16
theorem GoodK.may {h : KeyH} (g : GoodK h) : mayK h.name.length h.l h.sn.length h.ss.length := ⟨g.name.1, g.name.2, g.can⟩
theorem sort_good {k s x : Nat} (hk : k < 3) (nm : List UInt8) (hn : 1 ≤ nm.length ∧ nm.length ≤ 16) : GoodK ⟨nm, sortL k, sortN s, sortS x⟩ := by
 refine ⟨?_, hn⟩
 show canE (sortL k) (sortN s).length (sortS x).length = 0
 rw [show (sortN s).length = 16 by simp [sortN], show (sortS x).length = 24 by simp [sortS]]
 rcases (by omega : k = 0 ∨ k = 1 ∨ k = 2) with rfl | rfl | rfl
 ·
  exact can0
 ·
  exact can1
 exact can2
theorem sort_tot {k : Nat} (hk : k < 3) : 2 ≤ totN (sortL k) ∧ totN (sortL k) ≤ 4 := by
 rcases (by omega : k = 0 ∨ k = 1 ∨ k = 2) with rfl | rfl | rfl
 ·
  rw [tot0]; omega
 ·
  rw [tot1]; omega
 rw [tot2]; omega
theorem LiveSt.sign {S : DS} {ks : List (KeyS × Nat)} (hl : LiveSt S (ks.map (·.1))) {nm : List UInt8} {q : KeyS × Nat} (hf : findP ks nm = some q) {i : Nat} (hi : (ks.map (·.1))[i]? = some q.1) (hr : q.1.x.retired = false) (hnum : q.1.s.num.toNat < 9223372036854775808) (ht : q.1.x.next.toNat < q.1.x.total.toNat) {text : List UInt8} (htl : text.length ≤ 65536) :
  ∃ S' k', signK S ks nm text = ⟨S', setP ks (k', q.2), hsigB q.1.h.l (atsN (q.1.h.l.map tv) q.1.x.next.toNat) q.1.h.sn q.1.h.ss text, 0⟩ ∧ k'.h = q.1.h ∧ LiveSt S' ((ks.map (·.1)).set i k') ∧ k'.x.next.toNat = q.1.x.next.toNat + 1 ∧ k'.x.total = q.1.x.total ∧ k'.x.retired = false ∧ S'.sure.length = S.sure.length ∧ k'.s.num.toNat ≤ q.1.s.num.toNat + 1 := by
 obtain ⟨S', k', h1, h2, h3, h4, h5, h6, h7, h8, h9, h10⟩ := hl.take hi hr hnum ht
 have hK := hl.live i q.1 hi
 have hcan := hK.good.2.2
 have he : hsigE q.1.h.l q.1.h.sn.length q.1.h.ss.length q.1.x.next.toNat text.length = 0 := by
  rw [hsigE, if_neg (fun h => h hcan), if_neg (by omega), plE, if_pos (canE_zero hcan).1, if_pos (by rw [← hK.tot]; exact ht)]
 refine ⟨S', k', ?_, h2, h4, h5, h6, h8, h9, h10⟩
 rw [signK, hf]
 show (if 65536 < text.length then _ else _) = _
 rw [if_neg (by omega), h1, if_neg (by simp), h3]
 show SignR.mk S' (setP ks (k', q.2)) (hsigV _ _ _ q.1.x.next.toNat _ _ _ _) (hsigE _ _ _ q.1.x.next.toNat _) = _
 rw [hsigV, he, if_pos rfl]
section
variable {G : World} {M : Mem} {L : Own}
theorem awake22_spec (hg : LmG M) (hsh : ShaG M) : Con Tryz.prog 7 #[] G M L (fun v M' L' => L' = L ∧ v = .bool true) noPanic := by
 have hl0 := LiveSt.fresh 16
 have ha : areasN (fresh 16) = 2 := by kernel_rfl
 have hlen : (fresh 16).sure.length = 16 := fresh_len 16
 have hop : openS (fresh 16) = (0, []) := hl0.openS_eq (by rw [ha]; decide)
 have hgk : GoodK ⟨[97], sortL 1, sortN 1, sortS 0⟩ := sort_good (by omega) _ (by decide)
 refine en Tryz.func7 rfl 92 rfl <| zr <| as0 rfl rfl <| zq <| zr <| ec rfl rfl (New_spec 16) ?_
 intro _ M2 L1 hM2 hv
 rw [if_neg (by omega)] at hv
 obtain ⟨d, ⟨r2, hd2, rfl⟩, rfl⟩ := hv
 have hd := hM2
 change IsDisk M2 r2 (fresh 16) at hd2
 refine mvU rfl rfl <| zx rfl rfl <| zx rfl rfl <| asP rfl rfl <| asI rfl rfl <| zq <| .s1 1 rfl <| zr2 <| mvP rfl rfl <| tl_y rfl (y_eqNilPtr rfl rfl) <| zq <| x_false rfl (rfl) <| x_skip <| .then_normal <| zr <| mvP rfl rfl <| ec rfl rfl (sOpen_spec (hg.mono hd) (hsh.mono hd) (S := fresh 16) hd2) ?_
 rintro v M3 L3 hM3 hv
 replace hd := hd.trans hM3
 obtain ⟨sp, mp, r3, E, rfl, h3, hE, rfl⟩ : ∃ sp mp r3 E, v = .tuple #[.pointer (some ⟨sp, 0, none⟩), .int .i64 0] ∧ IsDisk M3 r3 (fresh 16) ∧ KeysAt M3 d [] E ∧ L3 = dL d r3 (fresh 16) (stL sp d 2 mp :: mpL mp [] :: (E ++ L)) := by
  rcases hv with ⟨sp, mp, r3, ks, E, ho, rfl, h3, hE, rfl⟩ | ⟨_, hno, _⟩
  ·
   rw [hop] at ho
   obtain rfl : ks = [] := by simpa using ho
   rw [ha]
   exact ⟨sp, mp, r3, E, rfl, h3, hE, rfl⟩
  rw [hop] at hno; exact absurd rfl hno
 refine mvU rfl rfl <| zx rfl rfl <| zx rfl rfl <| asP rfl rfl <| asI rfl rfl <| zq <| .s2 3 4 rfl rfl <| zr2 <| mvP rfl rfl <| tl_y rfl (y_eqNilPtr rfl rfl) <| mvB rfl rfl <| tl_set (s := 28) (u := .bool false) rfl (rfl) <| mvI rfl rfl <| tl_y rfl (y_neq rfl rfl) <| tPf rfl rfl rfl <| zq <| .s2 3 31 rfl rfl <| x_false rfl (rfl) <| x_skip <| .then_normal <| zr <| ec rfl rfl (Sort22_spec 1 0) ?_
 rintro _ M4 _ hM4 ⟨rfl, A4, n4, c4, y, z, rfl, hr4, hy4, hz4⟩
 replace hd := hd.trans hM4
 change Row M4 2 A4 n4 c4 (prow (sortL 1)) at hr4
 change Bytes M4 y.a y.n y.c (sortN 1) at hy4
 change Bytes M4 z.a z.n z.c (sortS 0) at hz4
 refine mvU rfl rfl <| zx rfl rfl <| zx rfl rfl <| tl_e rfl <| e_alloc <| fun b1 => asS rfl rfl <| tl_e rfl <| e_st rfl rfl (by rfl) (by rfl) <| zq <| .s3 3 5 6 rfl rfl rfl <| zr <| mvP rfl rfl <| mvS rfl rfl <| tLg rfl rfl rfl <| ec rfl rfl (Con.to (dL d r3 (fresh 16) (stL sp d 2 mp :: mpL mp [] :: (E ++ ((b1, .cells #[y.v, z.v] 33 (0, 0)) :: L)))) ii (sCreate_spec (nm := [97]) (hg.mono hd) (hsh.mono hd) (h3.mono hM4) (by rw [hlen]; omega) (within_fresh 16) (by omega) (hE.mono hM4) hr4 hy4 hz4 2)) ?_
 rintro v M5 L5 hM5 hv
 replace hd := hd.trans hM5
 obtain ⟨S1, k1, e1, k1h, k1x, k1n, hl1, hlen1⟩ := hl0.create hgk.may (batch := 2) (by decide) (by simp) (by rw [ha]; decide)
 rw [ha] at e1
 rw [List.nil_append] at hl1
 obtain ⟨kp, r5, E5, rfl, h5, hE5, rfl⟩ : ∃ kp r5 E5, v = .int .i64 0 ∧ IsDisk M5 r5 S1 ∧ KeysAt M5 d [(k1, kp)] E5 ∧ L5 = dL d r5 S1 (stL sp d 2 mp :: mpL mp [(k1, kp)] :: (E5 ++ ((b1, .cells #[y.v, z.v] 33 (0, 0)) :: L))) := by
  rcases hv with ⟨S', k, kp, r', E', hc, rfl, h1, h2, rfl⟩ | ⟨S', e, r', hc, _, _⟩
  ·
   rw [e1] at hc
   obtain ⟨⟨rfl, hk⟩, _⟩ := Prod.mk.inj hc |>.imp Prod.mk.inj id
   obtain rfl := Option.some.inj hk
   exact ⟨kp, r', E', rfl, h1, h2, rfl⟩
  rw [e1] at hc
  cases hc
 have hw1 := createS_within (within_fresh 16) e1
 have ha1 : areasN S1 = 2 := by rw [areasN_eq hlen1]; exact ha
 have hr5 := hr4.mono hM5
 have hy5 := hy4.mono hM5
 have hz5 := hz4.mono hM5
 refine asI rfl rfl <| zq <| .s4 3 5 6 7 rfl rfl rfl rfl <| zr <| mvP rfl rfl <| mvS rfl rfl <| tLg rfl rfl rfl <| ec rfl rfl (sCreate_spec (nm := [97]) (hg.mono hd) (hsh.mono hd) h5 (by rw [hlen1, hlen]; omega) hw1 (by omega) hE5 hr5 hy5 hz5 2) ?_
 rintro v M6 L6 hM6 hv
 replace hd := hd.trans hM6
 have h10 := hl1.freeTwice (nm := [97]) (by simp [k1h])
 rw [ha1] at h10
 have e2 : createS S1 2 ⟨[97], sortL 1, sortN 1, sortS 0⟩ 2 = ((S1, none), 10) := by
  rw [createS, if_neg (fun h => h ⟨hgk.may, by decide, by decide⟩)]
  show (if (freeS S1 [97] 2).1 ≠ 0 then ((S1, none), (freeS S1 [97] 2).1) else _) = _
  rw [h10, if_pos (by decide)]
 obtain ⟨r6, rfl, h6, rfl⟩ : ∃ r6, v = .int .i64 10 ∧ IsDisk M6 r6 S1 ∧ L6 = dL d r6 S1 (stL sp d 2 mp :: mpL mp [(k1, kp)] :: (E5 ++ ((b1, .cells #[y.v, z.v] 33 (0, 0)) :: L))) := by
  rcases hv with ⟨S', k, kp, r', E', hc, _, _⟩ | ⟨S', e, r', hc, _, rfl, h1, rfl⟩
  ·
   rw [e2] at hc; cases hc
  rw [e2] at hc
  obtain ⟨⟨rfl, _⟩, rfl⟩ := Prod.mk.inj hc |>.imp Prod.mk.inj id
  exact ⟨r', rfl, h1, rfl⟩
 have hE6 := hE5.mono hM6
 have hfd : findP [(k1, kp)] [97] = some (k1, kp) := by rw [findP, if_pos (by rw [k1h])]
 refine asI rfl rfl <| zq <| .s3 3 7 8 rfl rfl rfl <| zr <| mvP rfl rfl <| ec rfl rfl (sPublic_spec (nm := [97]) (hg.mono hd) hE6) ?_
 rintro _ M7 _ hM7 ⟨rfl, A7, m7, c7, rfl, hp7⟩
 replace hd := hd.trans hM7
 have hpk : publicK [(k1, kp)] [97] = (hpubB (sortL 1) (sortN 1) (sortS 0), 0) := by
  rw [publicK, hfd]
  show (hpubV k1.h.l _ _ _ _, canE k1.h.l _ _) = _
  rw [k1h]
  show (hpubV (sortL 1) (sortN 1).length (sortS 0).length (sortN 1) (sortS 0), canE (sortL 1) (sortN 1).length (sortS 0).length) = _
  rw [hpubV, hgk.can, if_pos rfl]
 rw [hpk] at hp7
 rw [hpk]
 have hE7 := hE6.mono hM7
 have h7 := h6.mono hM7
 refine mvU rfl rfl <| zx rfl rfl <| zx rfl rfl <| asS rfl rfl <| asI rfl rfl <| zq <| .s5 3 7 8 9 10 rfl rfl rfl rfl rfl <| zr <| mvP rfl rfl <| tl_e rfl <| e_buildSlice rfl (by decide) <| fun b7 => tl_e rfl <| e_convMark rfl ii <| fun M8 fr8 hM8 hb8 => ?_
 replace hd := hd.trans hM8
 have ht8 : Bytes M8 (some ⟨b7, 0, none⟩) 1 1 [120] := Row.whole hb8 rfl (by omega)
 have hl1' : LiveSt S1 ([(k1, kp)].map (·.1)) := hl1
 have htt := sort_tot (k := 1) (by omega)
 have htot : k1.x.total.toNat = totN (sortL 1) := by rw [k1x]; show (UInt64.ofNat (totN (sortL 1))).toNat = _; rw [UInt64.toNat_ofNat', Nat.mod_eq_of_lt (totN_lt _)]
 have hnx : k1.x.next = 0 := by rw [k1x]; rfl
 obtain ⟨S2, k2, e3, k2h, hl2, _, _, _, hlen2, _⟩ := hl1'.sign hfd (i := 0) rfl (by rw [k1x]; rfl) (by rw [k1n]; decide) (by rw [htot, hnx]; show 0 < _; omega) (text := [120]) (by decide)
 have hok1 : ∀ q ∈ [(k1, kp)], OkS S1 q.1.s := fun q hq => by
  obtain rfl : q = (k1, kp) := by simpa using hq
  exact hl1.ok k1 (by simp)
 refine ec rfl rfl (Con.to (dL d r6 S1 (stL sp d 2 mp :: mpL mp [(k1, kp)] :: (E5 ++ ((b1, .cells #[y.v, z.v] 33 (0, 0)) :: L)))) ii (sSign_spec (nm := [97]) (hg.mono hd) (hsh.mono hd) (h7.mono hM8) hw1 (by omega) (hE7.mono hM8) hok1 ht8)) ?_
 rintro _ M9 _ hM9 ⟨A9, m9, c9, r9, E9, rfl, hs9, h9, hE9, rfl⟩
 replace hd := hd.trans hM9
 rw [e3] at hs9 h9 hE9
 rw [e3]
 have hset : setP [(k1, kp)] (k2, kp) = [(k2, kp)] := by rw [setP, if_pos (by rw [k2h])]
 change KeysAt M9 d (setP [(k1, kp)] (k2, kp)) E9 at hE9
 rw [hset] at hE9
 rw [hset]
 have hw2 := signK_within hw1 (ks := [(k1, kp)]) (fun q hq => by
  obtain rfl : q = (k1, kp) := by simpa using hq
  have := (hl1.live 0 k1 rfl).n
  show k1.s.n ≤ 8
  omega) [97] [120]
 rw [e3] at hw2
 have hl2' : LiveSt S2 [k2] := hl2
 have hok2 : ∀ q ∈ [(k2, kp)], OkS S2 q.1.s := fun q hq => by
  obtain rfl : q = (k2, kp) := by simpa using hq
  exact hl2'.ok k2 (by simp)
 have hfn : findP [(k2, kp)] [98] = none := by rw [findP, if_neg (by rw [k2h]; show ¬ k1.h.name = [98]; rw [k1h]; decide)]; rfl
 have e4 : signK S2 [(k2, kp)] [98] [] = ⟨S2, [(k2, kp)], [], 11⟩ := by rw [signK, hfn]
 refine mvU rfl rfl <| zx rfl rfl <| zx rfl rfl <| asS rfl rfl <| asI rfl rfl <| zq <| .s7 3 7 8 9 10 11 12 rfl rfl rfl rfl rfl rfl rfl <| zr <| mvP rfl rfl <| ec rfl rfl (sSign_spec (nm := [98]) (hg.mono hd) (hsh.mono hd) h9 hw2 (by omega) hE9 hok2 (show Bytes M9 none 0 0 [] from Row.nil _ _)) ?_
 rintro _ M10 _ hM10 ⟨A10, m10, c10, r10, E10, rfl, hs10, h10', hE10, rfl⟩
 replace hd := hd.trans hM10
 rw [e4] at hs10 h10' hE10
 rw [e4]
 refine mvU rfl rfl <| zx rfl rfl <| zx rfl rfl <| asS rfl rfl <| asI rfl rfl <| zq <| .s8 3 7 8 9 10 11 12 14 rfl rfl rfl rfl rfl rfl rfl rfl <| zr <| mvI rfl rfl <| tl_y rfl (y_eql rfl rfl) <| mvB rfl rfl <| tl_set (s := 63) (u := .bool true) rfl (rfl) <| mvI rfl rfl <| tl_y rfl (y_eql rfl rfl) <| tPt rfl rfl rfl <| mvB rfl rfl <| tl_set (s := 67) (u := .bool true) rfl (rfl) <| mvI rfl rfl <| tl_y rfl (y_eql rfl rfl) <| tPt rfl rfl rfl <| mvB rfl rfl <| tl_set (s := 71) (u := .bool true) rfl (rfl) <| mvI rfl rfl <| tl_y rfl (y_eql rfl rfl) <| tPt rfl rfl rfl <| mvB rfl rfl <| tl_set (s := 75) (u := .bool true) rfl (rfl) <| mvS rfl rfl <| tl_e rfl <| e_buildSlice rfl (by decide) <| fun b8 => tl_e rfl <| e_convMark rfl ii <| fun M11 fr11 hM11 hb11 => ?_
 replace hd := hd.trans hM11
 have ht11 : Bytes M11 (some ⟨b8, 0, none⟩) 1 1 [120] := Row.whole hb11 rfl (by omega)
 have hfit : hfit (hpubB (sortL 1) (sortN 1) (sortS 0)) [120] (hsigB k1.h.l (atsN (k1.h.l.map tv) k1.x.next.toNat) k1.h.sn k1.h.ss [120]) := by
  rw [k1h]
  exact hss_fits hgk.can rfl rfl rfl (by decide)
 have hpl := hp7.size
 have hsl := hs9.size
 refine mvS rfl rfl <| ec rfl rfl (Fits_hspec (hg.mono hd) (hp7.mono (hM8.trans (hM9.trans (hM10.trans hM11)))) ht11 (hs9.mono (hM10.trans hM11)) (by rw [← hp7.size]; exact Nat.le_trans (hpubB_le hgk.can) (by omega)) (by rw [← hs9.size]; exact Nat.le_trans (hsigB_le (show canE k1.h.l k1.h.sn.length k1.h.ss.length = 0 by rw [k1h]; exact hgk.can)) (by omega))) ?_
 rintro _ M12 _ hM12 ⟨rfl, rfl⟩
 replace hd := hd.trans hM12
 rw [decide_eq_true hfit]
 refine tPt rfl rfl rfl <| mvB rfl rfl <| tl_set (s := 82) (u := .bool true) rfl (rfl) <| mvI rfl rfl <| tl_y rfl (y_eql rfl rfl) <| tPt rfl rfl rfl <| mvB rfl rfl <| tl_set (s := 86) (u := .bool true) rfl (rfl) <| mvP rfl rfl <| ec rfl rfl (sNames_spec (ks := [(k2, kp)]) (by simp) (by simp)) ?_
 rintro _ M13 _ hM13 ⟨rfl, ns, A13, c13, rfl, _, _, hr13⟩
 replace hd := hd.trans hM13
 refine tLen rfl rfl <| tl_y rfl (y_eql rfl rfl) <| tPt rfl rfl rfl <| asB rfl rfl <| zq <| .s1 0 rfl <| x_ret (.dropTo L ii (ret1 rfl rfl hd ⟨rfl, rfl⟩))
end
theorem sign_retired {S : DS} {ks : List (KeyS × Nat)} {nm : List UInt8} {q : KeyS × Nat} (hf : findP ks nm = some q) (hr : q.1.x.retired = true) {text : List UInt8} (htl : text.length ≤ 65536) : signK S ks nm text = ⟨S, setP ks (q.1, q.2), [], 13⟩ := by
 have ht : takeC S q.1.s q.1.x q.1.head = (((S, q.1.s), q.1.x), (0, 13)) := by rw [takeC, if_pos hr]
 have hk : tookK S q.1 = q.1 := by rw [tookK, ht]
 rw [signK, hf]
 show (if 65536 < text.length then _ else _) = _
 rw [if_neg (by omega), ht, if_pos (by simp), hk]
theorem upped_calm {S : DS} (h : S.calm) (cs : List UInt8) : (upped S cs [] 0).calm ∧ (upped S cs [] 0).sure = S.sure := by
 have e : (upped S cs [] 0).sure = S.sure := by show upGo cs 0 S.pend S.sure = S.sure; rw [h.pend]; rfl
 exact ⟨⟨rfl, rfl, rfl, rfl, Int.le_refl 0, by rw [e]; exact h.len⟩, e⟩
theorem upped_within0 (S : DS) (cs : List UInt8) : (upped S cs [] 0).within 0 := ⟨Int.le_refl 0, by show (0 : Int) ≤ _; exact Int.le_refl 0, Nat.zero_le _⟩
theorem areas_le (S : DS) : 8 * areasN S ≤ S.sure.length := by rw [areasN]; omega
theorem findP_none : ∀ {ks : List (KeyS × Nat)} {nm : List UInt8}, nm ∉ ks.map (·.1.h.name) → findP ks nm = none
 | [], _, _ => rfl
 | q0 :: r, nm, h => by
  rw [List.map_cons, List.mem_cons] at h
  rw [findP, if_neg (fun e => h (.inl e.symm)), findP_none (fun e => h (.inr e))]
theorem names_map (ks : List (KeyS × Nat)) : (ks.map (·.1)).map (·.h.name) = ks.map (·.1.h.name) := by rw [List.map_map]; rfl
section
variable {G : World} {M : Mem} {L R : Own} {sp d mp : Nat} {S : DS} {r : DRep} {NA SA : Option Addr} {nl nc sl_ sc : Nat} {sn ss nm : List UInt8}
theorem open_live (hg : LmG M) (hsh : ShaG M) (h : IsDisk M r S) {ks : List KeyS} (hl : LiveSt S ks) {n : Nat} (hn : areasN S = n) (h0 : n ≠ 0) :
  Con Tryz.prog 9 #[.pointer (some ⟨d, 0, none⟩)] G M (dL d r S R)
   (fun v M' L' => ∃ sp mp r' ks' E, v = .tuple #[.pointer (some ⟨sp, 0, none⟩), .int .i64 0] ∧ ks'.map (·.1) = ks.map KeyS.anew ∧ IsDisk M' r' S ∧ KeysAt M' d ks' E ∧ L' = dL d r' S (stL sp d n mp :: mpL mp ks' :: (E ++ R))) noPanic := by
 subst hn
 have hop := hl.openS_eq h0
 refine (sOpen_spec hg hsh h).post ?_
 rintro v M' L' _ hv
 rcases hv with ⟨sp, mp, r', ks', E, ho, rfl, h1, h2, rfl⟩ | ⟨r', hno, _⟩
 ·
  rw [hop] at ho
  exact ⟨sp, mp, r', ks', E, rfl, (Prod.mk.inj ho).2.symm, h1, h2, rfl⟩
 rw [hop] at hno; exact absurd rfl hno
theorem create_live (hg : LmG M) (hsh : ShaG M) (h : IsDisk M r S) {B : Nat} (hw : S.within B) (hB : B ≤ 1000000) {ks : List (KeyS × Nat)} {E : Own} (hE : KeysAt M d ks E) (hl : LiveSt S (ks.map (·.1))) {n : Nat} (han : areasN S = n) {A : Option Addr} {ln lc : Nat} {l : List PairV} (hll : Row M 2 A ln lc (prow l)) (hname : Bytes M NA nl nc sn) (hsec : Bytes M SA sl_ sc ss) (x : UInt64) (hx : 1 ≤ x.toNat ∧ x.toNat ≤ 65536) (hm : mayK nm.length l sn.length ss.length) (hno : nm ∉ ks.map (·.1.h.name)) (hlt : ks.length < n) :
  Con Tryz.prog 11 #[.pointer (some ⟨sp, 0, none⟩), .string (sB nm), .slice A ln lc, .agg (List.toArray (seedC NA nl nc SA sl_ sc)), .int .u64 (x.toNat : Int)] G M (dL d r S (stL sp d n mp :: mpL mp ks :: (E ++ R)))
   (fun v M' L' => ∃ S' k kp r' E', v = .int .i64 0 ∧ k.h = ⟨nm, l, sn, ss⟩ ∧ k.x = newX (UInt64.ofNat (totN l)) x ∧ k.s.num = 1 ∧ LiveSt S' ((ks ++ [(k, kp)]).map (·.1)) ∧ S'.sure.length = S.sure.length ∧ S'.within (B + 9) ∧ IsDisk M' r' S' ∧ KeysAt M' d (ks ++ [(k, kp)]) E' ∧ L' = dL d r' S' (stL sp d n mp :: mpL mp (ks ++ [(k, kp)]) :: (E' ++ R))) noPanic := by
 subst han
 obtain ⟨S1, k1, e1, k1h, k1x, k1n, hl1, hlen1⟩ := hl.create (hd := ⟨nm, l, sn, ss⟩) hm (batch := x) hx (by rw [names_map]; exact hno) (by rw [List.length_map]; exact hlt)
 refine (sCreate_spec hg hsh h (areas_le S) hw hB hE hll hname hsec x).post ?_
 rintro v M' L' _ hv
 rcases hv with ⟨S', k, kp, r', E', hc, rfl, h1, h2, rfl⟩ | ⟨S', e, r', hc, _, _⟩
 ·
  rw [e1] at hc
  obtain ⟨⟨rfl, hk⟩, _⟩ := Prod.mk.inj hc |>.imp Prod.mk.inj id
  obtain rfl := Option.some.inj hk
  have hs : setP ks (k1, kp) = ks ++ [(k1, kp)] := setP_map _ _ (findP_none (by rw [show ((k1, kp) : KeyS × Nat).1.h.name = nm by show k1.h.name = nm; rw [k1h]]; exact hno))
  rw [hs] at h2
  rw [hs]
  exact ⟨S1, k1, kp, r', E', rfl, k1h, k1x, k1n, by rw [List.map_append]; exact hl1, hlen1, createS_within hw e1, h1, h2, rfl⟩
 rw [e1] at hc
 cases hc
end
theorem u64_nat (n : Nat) (h : n < 18446744073709551616) : ∃ c : UInt64, c.toNat = n := ⟨UInt64.ofNat n, by rw [UInt64.toNat_ofNat', Nat.mod_eq_of_lt h]⟩
theorem map_nil' {ks : List (KeyS × Nat)} (h : ks.map (·.1) = ([] : List KeyS).map KeyS.anew) : ks = [] := by simpa using h
theorem publicK_eq {ks : List (KeyS × Nat)} {nm : List UInt8} {q : KeyS × Nat} (hf : findP ks nm = some q) (hc : canE q.1.h.l q.1.h.sn.length q.1.h.ss.length = 0) : publicK ks nm = (hpubB q.1.h.l q.1.h.sn q.1.h.ss, 0) := by
 rw [publicK, hf]
 show (hpubV q.1.h.l _ _ _ _, canE q.1.h.l _ _) = _
 rw [hpubV, hc, if_pos rfl]
theorem map_two {ks : List (KeyS × Nat)} {a b : KeyS} (h : ks.map (·.1) = [a, b]) : ∃ p q, ks = [(a, p), (b, q)] := by
 match ks, h with
 | [x, y], h =>
  simp at h
  exact ⟨x.2, y.2, by rw [← h.1, ← h.2]⟩
section
variable {G : World} {M : Mem} {L : Own}
theorem StoreRetired_spec (hg : LmG M) (hsh : ShaG M) (bx cx : UInt8) :
  Con Tryz.prog 6 #[.int .u8 (bx.toNat : Int), .int .u8 (cx.toNat : Int)] G M L (fun v M' L' => v = .bool true) noPanic := by
 have hbx := bx.toNat_lt
 have hl0 := LiveSt.fresh 16
 have hlen : (fresh 16).sure.length = 16 := fresh_len 16
 have ha : areasN (fresh 16) = 2 := by rw [areasN, hlen]; rfl
 obtain ⟨S0, hS0⟩ : ∃ S0, fresh 16 = S0 := ⟨_, rfl⟩
 have hw0 : S0.within 0 := by rw [← hS0]; exact within_fresh 16
 refine en Tryz.func6 rfl 136 rfl <| zr <| as0 rfl rfl <| zq <| zr2 <| ec rfl rfl (awake22_spec hg hsh) ?_
 rintro _ M1 L hM1 ⟨rfl, rfl⟩
 have hd := hM1
 refine tl_y rfl (y_not rfl) <| zq <| x_false rfl (rfl) <| x_skip <| .then_normal <| zr <| ec rfl rfl (New_spec 16) ?_
 intro _ M2 L1 hM2 hv
 rw [if_neg (by omega)] at hv
 obtain ⟨d, ⟨r2, hd2, rfl⟩, rfl⟩ := hv
 replace hd := hd.trans hM2
 change IsDisk M2 r2 (fresh 16) at hd2
 refine mvU rfl rfl <| zx rfl rfl <| zx rfl rfl <| asP rfl rfl <| asI rfl rfl <| zq <| .s3 0 1 5 rfl rfl rfl <| zr2 <| mvP rfl rfl <| tl_y rfl (y_eqNilPtr rfl rfl) <| zq <| x_false rfl (rfl) <| x_skip <| .then_normal <| zr <| mvP rfl rfl <| ec rfl rfl (open_live (hg.mono hd) (hsh.mono hd) hd2 hl0 ha (by decide)) ?_
 rintro _ M3 _ hM3 ⟨sp, mp, r3, ks0, E, rfl, hks0, h3, hE, rfl⟩
 replace hd := hd.trans hM3
 obtain rfl := map_nil' hks0
 rw [hS0] at h3 hl0 hlen ha ⊢
 refine mvU rfl rfl <| zx rfl rfl <| zx rfl rfl <| asP rfl rfl <| asI rfl rfl <| zq <| .s4 0 1 5 7 rfl rfl rfl rfl <| zr <| ec rfl rfl (Sort22_spec 0 0) ?_
 rintro _ M4 _ hM4 ⟨rfl, A4, n4, c4, y, z, rfl, hr4, hy4, hz4⟩
 replace hd := hd.trans hM4
 obtain ⟨l, sn, ss, hgk, htot, hr4, hy4, hz4⟩ : ∃ l sn ss, GoodK ⟨[97], l, sn, ss⟩ ∧ (2 ≤ totN l ∧ totN l ≤ 4) ∧ Row M4 2 A4 n4 c4 (prow l) ∧ Bytes M4 y.a y.n y.c sn ∧ Bytes M4 z.a z.n z.c ss := ⟨_, _, _, sort_good (k := 0) (by omega) [97] (by decide), sort_tot (by omega), hr4, hy4, hz4⟩
 refine mvU rfl rfl <| zx rfl rfl <| zx rfl rfl <| tl_e rfl <| e_alloc <| fun b1 => asS rfl rfl <| tl_e rfl <| e_st rfl rfl (by rfl) (by rfl) <| zq <| .s6 0 1 5 7 9 10 rfl rfl rfl rfl rfl rfl <| zr <| ec rfl rfl (Sort22_spec 1 1) ?_
 rintro _ M5 _ hM5 ⟨rfl, A5, n5, c5, y', z', rfl, hr5, hy5, hz5⟩
 replace hd := hd.trans hM5
 obtain ⟨l', sn', ss', hgk', htot', hr5, hy5, hz5⟩ : ∃ l sn ss, GoodK ⟨[98, 98], l, sn, ss⟩ ∧ (2 ≤ totN l ∧ totN l ≤ 4) ∧ Row M5 2 A5 n5 c5 (prow l) ∧ Bytes M5 y'.a y'.n y'.c sn ∧ Bytes M5 z'.a z'.n z'.c ss := ⟨_, _, _, sort_good (k := 1) (by omega) [98, 98] (by decide), sort_tot (by omega), hr5, hy5, hz5⟩
 obtain ⟨B, eB⟩ := u64_nat (1 + bx.toNat) (by omega)
 have hBc : ((1 + bx.toNat : Nat) : Int) = (B.toNat : Int) := by rw [eB]
 refine mvU rfl rfl <| zx rfl rfl <| zx rfl rfl <| tl_e rfl <| e_alloc <| fun b2 => asS rfl rfl <| tl_e rfl <| e_st rfl rfl (by rfl) (by rfl) <| zq <| .s8 0 1 5 7 9 10 11 12 rfl rfl rfl rfl rfl rfl rfl rfl <| zr2 <| mvP rfl rfl <| tl_y rfl (y_eqNilPtr rfl rfl) <| mvB rfl rfl <| tl_set (s := 49) (u := .bool false) rfl (rfl) <| mvP rfl rfl <| mvS rfl rfl <| tLg rfl rfl rfl <| mvI rfl rfl <| tl_y rfl (y_convN64 rfl (by omega)) <| tl_y rfl (y_addN64 rfl rfl (by omega)) ?_
 rw [show (1 : Int) + (bx.toNat : Int) = (B.toNat : Int) by omega]
 refine ec rfl rfl (Con.to (dL d r3 S0 (stL sp d 2 mp :: mpL mp [] :: (E ++ ((b2, .cells #[y'.v, z'.v] 33 (0, 0)) :: (b1, .cells #[y.v, z.v] 33 (0, 0)) :: L)))) ii (create_live (nm := [97]) (hg.mono hd) (hsh.mono hd) (h3.mono (hM4.trans hM5)) hw0 (by omega) (hE.mono (hM4.trans hM5)) hl0 ha (hr4.mono hM5) (hy4.mono hM5) (hz4.mono hM5) B (by omega) hgk.may (by simp) (by simp))) ?_
 rintro _ M6 _ hM6 ⟨S1, qa, ka, r6, E6, rfl, qah, qax, qan, hl1, hlen1, hw1, h6, hE6, rfl⟩
 replace hd := hd.trans hM6
 rw [show ([] : List (KeyS × Nat)) ++ [(qa, ka)] = [(qa, ka)] from rfl] at hl1 hE6 ⊢
 have ha1 : areasN S1 = 2 := by rw [areasN_eq hlen1]; exact ha
 refine tl_y rfl (y_neq rfl rfl) <| tPf rfl rfl rfl <| mvB rfl rfl <| tl_set (s := 59) (u := .bool false) rfl (rfl) <| mvP rfl rfl <| mvS rfl rfl <| tLg rfl rfl rfl <| ec rfl rfl (create_live (nm := [98, 98]) (hg.mono hd) (hsh.mono hd) h6 hw1 (by omega) hE6 hl1 ha1 (hr5.mono hM6) (hy5.mono hM6) (hz5.mono hM6) 1 (by decide) hgk'.may (by simp [qah]) (by simp)) ?_
 rintro _ M7 _ hM7 ⟨S2, qb, kb, r7, E7, rfl, qbh, qbx, qbn, hl2, hlen2, hw2, h7, hE7, rfl⟩
 replace hd := hd.trans hM7
 have ha2 : areasN S2 = 2 := by rw [areasN_eq hlen2]; exact ha1
 rw [show [(qa, ka)] ++ [(qb, kb)] = [(qa, ka), (qb, kb)] from rfl] at hl2 hE7 ⊢
 change LiveSt S2 [qa, qb] at hl2
 have hfa : findP [(qa, ka), (qb, kb)] [97] = some (qa, ka) := by rw [findP, if_pos (by rw [qah])]
 have hpk := publicK_eq hfa (by rw [qah]; exact hgk.can)
 refine tl_y rfl (y_neq rfl rfl) <| tPf rfl rfl rfl <| zq <| .s4 1 5 7 65 rfl rfl rfl rfl <| x_false rfl (rfl) <| x_skip <| .then_normal <| zr <| mvP rfl rfl <| ec rfl rfl (sPublic_spec (nm := [97]) (hg.mono hd) hE7) ?_
 rintro _ M8 _ hM8 ⟨rfl, A8, m8, c8, rfl, hp8⟩
 replace hd := hd.trans hM8
 rw [hpk] at hp8
 rw [hpk]
 have hok2 : ∀ p ∈ [(qa, ka), (qb, kb)], OkS S2 p.1.s := fun p hp => hl2.ok p.1 (List.mem_map.2 ⟨p, hp, rfl⟩)
 have qar : qa.x.retired = false := by rw [qax]; rfl
 obtain ⟨S3, qa', eR, qah', eK, hl3, qax', hlen3, qan'⟩ := hl2.retire (i := 0) (k := qa) rfl qar (by rw [qan]; decide)
 have eRk : retireK S2 [(qa, ka), (qb, kb)] [97] = ⟨S3, [(qa', ka), (qb, kb)], [], 0⟩ := by
  rw [retireK, hfa]
  show (⟨(retireC S2 qa.s qa.x qa.head).1.1.1, setP _ (retiredK S2 qa, ka), [], (retireC S2 qa.s qa.x qa.head).2⟩ : SignR) = _
  rw [eR, eK, setP, if_pos (by rw [qah'])]
 refine mvU rfl rfl <| zx rfl rfl <| zx rfl rfl <| asS rfl rfl <| asI rfl rfl <| zq <| .s5 1 5 7 13 14 rfl rfl rfl rfl rfl <| zr <| mvP rfl rfl <| ec rfl rfl (sRetire_spec (nm := [97]) (hg.mono hd) (hsh.mono hd) (h7.mono hM8) hw2 (by omega) (hE7.mono hM8) hok2) ?_
 rintro _ M9 _ hM9 ⟨r9, E9, rfl, h9, hE9, rfl⟩
 replace hd := hd.trans hM9
 rw [eRk] at h9 hE9
 rw [eRk]
 have hl3' : LiveSt S3 [qa', qb] := hl3
 have hfa3 : findP [(qa', ka), (qb, kb)] [97] = some (qa', ka) := by rw [findP, if_pos (by rw [qah', qah])]
 have eS3 : signK S3 [(qa', ka), (qb, kb)] [97] [] = ⟨S3, [(qa', ka), (qb, kb)], [], 13⟩ := by
  rw [sign_retired hfa3 (by rw [qax']) (by decide), setP, if_pos rfl]
 have hok3 : ∀ p ∈ [(qa', ka), (qb, kb)], OkS S3 p.1.s := fun p hp => hl3'.ok p.1 (List.mem_map.2 ⟨p, hp, rfl⟩)
 have hw3 : S3.within 27 := by
  have := saveC_within hw2 (s := qa.s) (by have := (hl2.live 0 qa rfl).n; omega) qa.x { qa.x with retired := true } qa.head
  rw [← retireC, eR] at this
  exact this
 refine asI rfl rfl <| zq <| zr <| mvP rfl rfl <| ec rfl rfl (sSign_spec (nm := [97]) (hg.mono hd) (hsh.mono hd) h9 hw3 (by omega) hE9 hok3 (show Bytes M9 none 0 0 [] from Row.nil _ _)) ?_
 rintro _ M10 _ hM10 ⟨A10, m10, c10, r10, E10, rfl, hs10, h10, hE10, rfl⟩
 replace hd := hd.trans hM10
 rw [eS3] at hs10 h10 hE10
 rw [eS3]
 refine mvU rfl rfl <| zx rfl rfl <| zx rfl rfl <| asS rfl rfl <| asI rfl rfl <| zq <| .s6 1 5 13 14 15 17 rfl rfl rfl rfl rfl rfl <| zr <| mvP rfl rfl <| mvI rfl rfl <| tl_e rfl <| e_buildSlice rfl (by decide) <| fun b3 => .pub b3 ii <| fun M11 hM11 hb11 => ?_
 replace hd := hd.trans hM11
 have hc11 : Bytes M11 (some ⟨b3, 0, none⟩) 1 1 [cx] := Row.whole hb11 rfl (by omega)
 obtain ⟨hcal, hsur⟩ := upped_calm hl3'.calm [cx]
 refine tl_y rfl (y_build rfl) <| ec rfl rfl (Up_spec (h10.mono hM11) (by rw [hl3'.calm.pend]; simp) hc11 (show Ints _ none 0 0 [] from Row.nil _ _) (by omega) 0) ?_
 rintro _ M12 _ hM12 ⟨r12, h12, rfl⟩
 replace hd := hd.trans hM12
 obtain ⟨S4, hS4⟩ : ∃ S4, upped S3 [cx] [] 0 = S4 := ⟨_, rfl⟩
 have hw4 : S4.within 0 := by rw [← hS4]; exact upped_within0 _ _
 rw [hS4] at hcal hsur h12 ⊢
 have hl4 := hl3'.up hsur hcal
 have ha4 : areasN S4 = 2 := by rw [areasN_eq (S := S2) (by rw [hsur, hlen3])]; exact ha2
 refine zq <| .s5 5 13 14 15 17 rfl rfl rfl rfl rfl <| zr <| mvP rfl rfl <| ec rfl rfl (open_live (hg.mono hd) (hsh.mono hd) h12 hl4 ha4 (by decide)) ?_
 rintro _ M13 _ hM13 ⟨sp', mp', r13, ks13, E13, rfl, hks13, h13, hE13, rfl⟩
 replace hd := hd.trans hM13
 obtain ⟨pa, pb, rfl⟩ := map_two hks13
 have hl5 : LiveSt S4 [qa'.anew, qb.anew] := hl4.anew
 have hfa5 : findP [(qa'.anew, pa), (qb.anew, pb)] [97] = some (qa'.anew, pa) := by rw [findP, if_pos (by show qa'.h.name = _; rw [qah', qah])]
 have eS5 : signK S4 [(qa'.anew, pa), (qb.anew, pb)] [97] [] = ⟨S4, [(qa'.anew, pa), (qb.anew, pb)], [], 13⟩ := by
  rw [sign_retired hfa5 (by show qa'.x.retired = _; rw [qax']) (by decide), setP, if_pos rfl]
 have hok5 : ∀ p ∈ [(qa'.anew, pa), (qb.anew, pb)], OkS S4 p.1.s := fun p hp => hl5.ok p.1 (List.mem_map.2 ⟨p, hp, rfl⟩)
 have hpk5 := publicK_eq hfa5 (by show canE qa'.h.l qa'.h.sn.length qa'.h.ss.length = 0; rw [qah', qah]; exact hgk.can)
 have hpk6 : publicK [(qa'.anew, pa), (qb.anew, pb)] [97] = (hpubB qa.h.l qa.h.sn qa.h.ss, 0) := by rw [hpk5]; show (hpubB qa'.h.l qa'.h.sn qa'.h.ss, _) = _; rw [qah']
 refine mvU rfl rfl <| zx rfl rfl <| zx rfl rfl <| asP rfl rfl <| asI rfl rfl <| zq <| .s6 13 14 15 17 18 19 rfl rfl rfl rfl rfl rfl <| zr2 <| mvP rfl rfl <| tl_y rfl (y_eqNilPtr rfl rfl) <| zq <| x_false rfl (rfl) <| x_skip <| .then_normal <| zr <| mvP rfl rfl <| ec rfl rfl (sSign_spec (nm := [97]) (hg.mono hd) (hsh.mono hd) h13 hw4 (by omega) hE13 hok5 (show Bytes M13 none 0 0 [] from Row.nil _ _)) ?_
 rintro _ M14 _ hM14 ⟨A14, m14, c14, r14, E14, rfl, hs14, h14, hE14, rfl⟩
 replace hd := hd.trans hM14
 rw [eS5] at hs14 h14 hE14
 rw [eS5]
 refine mvU rfl rfl <| zx rfl rfl <| zx rfl rfl <| asS rfl rfl <| asI rfl rfl <| zq <| .s7 13 14 15 17 18 19 21 rfl rfl rfl rfl rfl rfl rfl <| zr <| mvP rfl rfl <| ec rfl rfl (sPublic_spec (nm := [97]) (hg.mono hd) hE14) ?_
 rintro _ M15 _ hM15 ⟨rfl, A15, m15, c15, rfl, hp15⟩
 replace hd := hd.trans hM15
 rw [hpk6] at hp15
 rw [hpk6]
 have hfb5 : findP [(qa'.anew, pa), (qb.anew, pb)] [98, 98] = some (qb.anew, pb) := by
  rw [findP, if_neg (by show ¬ qa'.h.name = _; rw [qah', qah]; show ¬ ([97] : List UInt8) = [98, 98]; decide), findP, if_pos (by show qb.h.name = _; rw [qbh])]
 have hlx : LiveSt S4 ([(qa'.anew, pa), (qb.anew, pb)].map (·.1)) := hl5
 obtain ⟨S6, qb6, eS6, _⟩ := hlx.sign hfb5 (i := 1) rfl (by show qb.x.retired = false; rw [qbx]; rfl) (by show qb.s.num.toNat < _; rw [qbn]; decide) (by
  show qb.x.reserved.toNat < qb.x.total.toNat
  rw [qbx]
  show (0 : UInt64).toNat < (UInt64.ofNat (totN l')).toNat
  rw [UInt64.toNat_ofNat', Nat.mod_eq_of_lt (totN_lt _)]
  show 0 < totN l'
  omega) (text := []) (by decide)
 refine mvU rfl rfl <| zx rfl rfl <| zx rfl rfl <| asS rfl rfl <| asI rfl rfl <| zq <| .sub (F' := [(13, _), (14, _), (15, _), (17, _), (18, _), (19, _), (21, _), (22, _), (23, _)]) (cs9 rfl rfl rfl rfl rfl rfl rfl rfl rfl) <| zr <| mvP rfl rfl <| ec rfl rfl (sSign_spec (nm := [98, 98]) (hg.mono hd) (hsh.mono hd) (h14.mono hM15) hw4 (by omega) (hE14.mono hM15) hok5 (show Bytes M15 none 0 0 [] from Row.nil _ _)) ?_
 rintro _ M16 _ hM16 ⟨A16, m16, c16, r16, E16, rfl, hs16, h16, hE16, rfl⟩
 replace hd := hd.trans hM16
 rw [eS6]
 refine mvU rfl rfl <| zx rfl rfl <| zx rfl rfl <| asS rfl rfl <| asI rfl rfl <| zq <| .sub (F' := [(13, _), (14, _), (15, _), (17, _), (19, _), (21, _), (22, _), (23, _), (25, _)]) (cs9 rfl rfl rfl rfl rfl rfl rfl rfl rfl) <| zr <| mvI rfl rfl <| tl_y rfl (y_eql rfl rfl) <| mvB rfl rfl <| tl_set (s := 107) (u := .bool true) rfl (rfl) <| mvI rfl rfl <| tl_y rfl (y_eql rfl rfl) <| tPt rfl rfl rfl <| mvB rfl rfl <| tl_set (s := 111) (u := .bool true) rfl (rfl) <| mvI rfl rfl <| tl_y rfl (y_eql rfl rfl) <| tPt rfl rfl rfl <| mvB rfl rfl <| tl_set (s := 115) (u := .bool true) rfl (rfl) <| mvI rfl rfl <| tl_y rfl (y_eql rfl rfl) <| tPt rfl rfl rfl <| mvB rfl rfl <| tl_set (s := 119) (u := .bool true) rfl (rfl) <| mvI rfl rfl <| tl_y rfl (y_eql rfl rfl) <| tPt rfl rfl rfl <| mvB rfl rfl <| tl_set (s := 123) (u := .bool true) rfl (rfl) <| mvI rfl rfl <| tl_y rfl (y_eql rfl rfl) <| tPt rfl rfl rfl <| mvB rfl rfl <| tl_set (s := 127) (u := .bool true) rfl (rfl) <| mvI rfl rfl <| tl_y rfl (y_eql rfl rfl) <| tPt rfl rfl rfl ?_
 refine mvB rfl rfl <| tl_set (s := 131) (u := .bool true) rfl (rfl) <| mvS rfl rfl <| mvS rfl rfl <| ec rfl rfl (same_spec (hp8.mono (hM9.trans (hM10.trans (hM11.trans (hM12.trans (hM13.trans (hM14.trans (hM15.trans hM16)))))))) (hp15.mono hM16)) ?_
 rintro _ _ _ _ ⟨rfl, rfl, rfl⟩
 rw [decide_eq_true rfl]
 refine tPt rfl rfl rfl <| asB rfl rfl <| zq <| .s1 4 rfl <| x_ret (ret1 rfl rfl hd rfl)
end
end Go.Proofs.YtplkoemjffplcaaGreatDoor
namespace Go.Eng
open Go.ChangeShapes Go.WideShapes Go.ChangeAt Go.RowKit
def memOf (W : World) : Mem := fun b => W.heap[b]?
theorem st_start (W : World) : St W (memOf W) [] W := ⟨rfl, rfl, rfl, fun b o h => h, fun p hp => (by cases hp), by simp⟩
theorem below_of {W W' : World} {M' : Mem} {L' : Own} (hle : Le (memOf W) M') (h : St W M' L' W') : Below W.heap.size W W' := by
 have hb : ∀ k, k < W.heap.size → W'.heap[k]? = W.heap[k]? := fun k hk => by
  have h1 : W.heap[k]? = some W.heap[k] := Array.getElem?_eq_getElem hk
  rw [h1]
  exact h.ro k _ (hle k _ h1)
 refine ⟨h.os, h.tape, h.output, ?_, hb⟩
 rcases Nat.eq_zero_or_pos W.heap.size with h0 | h0
 ·
  omega
 have h2 := hb (W.heap.size - 1) (by omega)
 have hlt : W.heap.size - 1 < W.heap.size := by omega
 rw [Array.getElem?_eq_getElem hlt] at h2
 have h3 := (Array.getElem?_eq_some_iff.1 h2).1
 omega
theorem calls_of_con {P : Program} {f : FuncId} {args : Array Value} {W : World} (h : Con P f args W (memOf W) [] (fun v _ _ => v = .bool true) noPanic) : Calls P f args W fun e W' => e = .returned (.bool true) ∧ Below W.heap.size W W' :=
 (h.calls W (st_start W)).mono fun e W' he => by
  cases e with
  | returned v => obtain ⟨M', L', a, b, rfl⟩ := he; exact ⟨rfl, below_of a b⟩
  | panicked c => obtain ⟨M', L', a, b, c⟩ := he; exact c.elim
  | outgrown => exact he.elim
section
variable {H : Type} {enc : TypeId × Value → H} {P : Program} {W : World} {t : TypeId} {cs : List Value}
def Rd (enc : TypeId × Value → H) (P : Program) (W : World) (t : TypeId) (cs : List Value) : Prop := ∃ fuel x, DataW.trod enc P W 0 (fun _ => true) true fuel t cs = some x
theorem TI.cellsOf {d : TypeDesc} {z : Value} {s b : Nat} (h : TI P t d z s b) : P.cellsOf t = s := by
 obtain ⟨i, hi, _, hs, _⟩ := h.parts
 simp [Program.cellsOf, hi, hs]
theorem Rd.int {k : IntKind} {z : Value} {s b : Nat} [ti : TI P t (.int k) z s b] (h : Rd enc P W t cs) : ∃ n, cs = [.int k n] ∧ (Lit.int k n).wf = true := by
 obtain ⟨fuel, x, h⟩ := h
 cases fuel with
 | zero => cases h
 | succ fuel =>
  unfold DataW.trod at h
  simp only [ti.und] at h
  split at h <;> simp_all
theorem Rd.bool {z : Value} {s b : Nat} [ti : TI P t .bool z s b] (h : Rd enc P W t cs) : ∃ n, cs = [.bool n] := by
 obtain ⟨fuel, x, h⟩ := h
 cases fuel with
 | zero => cases h
 | succ fuel =>
  unfold DataW.trod at h
  simp only [ti.und] at h
  split at h <;> simp_all
theorem Rd.string {z : Value} {s b : Nat} [ti : TI P t .string z s b] (h : Rd enc P W t cs) : ∃ n : ByteArray, cs = [.string n] ∧ n.size ≤ maxLen := by
 obtain ⟨fuel, x, h⟩ := h
 cases fuel with
 | zero => cases h
 | succ fuel =>
  unfold DataW.trod at h
  simp only [ti.und] at h
  split at h <;> simp_all
theorem mapM_some {α β : Type} {f : α → Option β} : ∀ {l : List α} {r : List β}, l.mapM f = some r → ∀ a ∈ l, ∃ b, f a = some b
 | [], _, _, a, ha => by cases ha
 | x :: l, r, h, a, ha => by
  rw [List.mapM_cons] at h
  simp only [Option.bind_eq_bind, Option.bind_eq_some_iff] at h
  obtain ⟨b, hb, rs, hrs, _⟩ := h
  rcases List.mem_cons.1 ha with rfl | ha
  ·
   exact ⟨b, hb⟩
  exact mapM_some hrs a ha
theorem Rd.array {m : Nat} {e : TypeId} {z z' : Value} {s b s' b' : Nat} {d' : TypeDesc} [ti : TI P t (.array m e) z s b] [te : TI P e d' z' s' b'] (h : Rd enc P W t cs) : cs.length = s ∧ ∀ i, i < m → Rd enc P W e ((cs.drop (i * s')).take s') := by
 obtain ⟨fuel, x, h⟩ := h
 cases fuel with
 | zero => cases h
 | succ fuel =>
  unfold DataW.trod at h
  simp only [ti.und, ti.cellsOf, te.cellsOf] at h
  split at h
  ·
   rename_i hl
   obtain ⟨y, hy, _⟩ := Option.map_eq_some_iff.1 h
   refine ⟨hl, fun i hi => ?_⟩
   obtain ⟨b, hb⟩ := mapM_some hy i (List.mem_range.2 hi)
   exact ⟨fuel, b, hb⟩
  cases h
theorem Rd.struct {fs : Array Field} {z : Value} {s b : Nat} [ti : TI P t (.struct fs) z s b] (h : Rd enc P W t cs) : cs.length = s ∧ ∀ f ∈ fs.toList, Rd enc P W f.type ((cs.drop f.offset).take (P.cellsOf f.type)) := by
 obtain ⟨fuel, x, h⟩ := h
 cases fuel with
 | zero => cases h
 | succ fuel =>
  unfold DataW.trod at h
  simp only [ti.und, ti.cellsOf] at h
  split at h
  ·
   rename_i hl
   obtain ⟨y, hy, _⟩ := Option.map_eq_some_iff.1 h
   refine ⟨hl, fun f hf => ?_⟩
   obtain ⟨b, hb⟩ := mapM_some hy f hf
   exact ⟨fuel, b, hb⟩
  cases h
theorem Rd.slice {e : TypeId} {z z' : Value} {s b s' b' : Nat} {d' : TypeDesc} [ti : TI P t (.slice e) z s b] [te : TI P e d' z' s' b'] (hs : 0 < s') (h : Rd enc P W t cs) :
  ∃ A len cap vs, cs = [.slice A len cap] ∧ Row (memOf W) s' A len cap vs ∧ ∀ i, i < len → Rd enc P W e ((vs.drop (i * s')).take s') := by
 obtain ⟨fuel, x, h⟩ := h
 rcases Deep.open_slice ti.und h with ⟨rfl, _⟩ | ⟨a, len, cap, m, n, D, Pl, rfl, hb, hl, hm, hmm, _, hx⟩
 ·
  exact ⟨none, 0, 0, [], rfl, Row.nil _ _, fun i hi => by omega⟩
 rw [te.cellsOf] at hx
 have hcap : cap ≤ 9223372036854775807 := by unfold maxLen at hm; omega
 have hlm : len ≤ m := by rw [hmm]; split <;> omega
 have hx : ∀ i, i < len → ∃ cs', W.cells? 0 (a.add (i * s')) s' = some cs' ∧ DataW.trod enc P W 0 (fun _ => true) true n e cs' = some (D i, Pl i) := fun i hi => hx i (by omega)
 rcases Nat.eq_zero_or_pos len with h0 | h0
 ·
  subst h0
  exact ⟨some a, 0, cap, [], rfl, Row.empty _ _ _ hcap, fun i hi => by omega⟩
 have hspot : a.spot = none := by
  obtain ⟨cs', h1, _⟩ := hx 0 h0
  obtain ⟨_, hlen, hc⟩ := World.cells?_some h1
  have := hc 0 hs
  have hg : cs'[0]? = some (cs'[0]'(by omega)) := List.getElem?_eq_getElem (by omega)
  rw [hg] at this
  have := World.cell?_spot this
  revert this
  unfold Addr.add
  simp
 obtain ⟨bl, off, sp⟩ := a
 simp only at hspot
 subst hspot
 simp only [add_plain] at hx
 -- the cells
 have hcell : ∀ i, i < len * s' → ∃ v, W.cell? ⟨bl, off + i, none⟩ = some v := fun i hi => by
  obtain ⟨cs', h1, _⟩ := hx (i / s') (Nat.div_lt_of_lt_mul (by rwa [Nat.mul_comm]))
  obtain ⟨_, hlen, hc⟩ := World.cells?_some h1
  have hmod := Nat.mod_lt i hs
  have := hc (i % s') hmod
  rw [add_plain, Nat.add_assoc, Nat.add_comm (i / s' * s'), Nat.mod_add_div' i s', List.getElem?_eq_getElem (by omega)] at this
  exact ⟨_, this⟩
 have hblock : ∃ c T fr, W.heap[bl]? = some (.cells c T fr) := by
  obtain ⟨v, hv⟩ := hcell 0 (Nat.mul_pos h0 hs)
  unfold World.cell? at hv
  split at hv
  ·
   rename_i c T fr hh; exact ⟨c, T, fr, hh⟩
  cases hv
 obtain ⟨c, T, fr, hh⟩ := hblock
 have hc : ∀ i, i < len * s' → c[off + i]? = some (c.getD (off + i) default) ∧ W.cell? ⟨bl, off + i, none⟩ = some (c.getD (off + i) default) := fun i hi => by
  obtain ⟨v, hv⟩ := hcell i hi
  have hv' := hv
  unfold World.cell? at hv
  simp only [hh, Option.isSome_none, Bool.false_eq_true, if_false] at hv
  have : c.getD (off + i) default = v := by simp [Array.getD_eq_getD_getElem?, hv]
  rw [this]
  exact ⟨hv, hv'⟩
 refine ⟨some ⟨bl, off, none⟩, len, cap, (List.range (len * s')).map fun i => c.getD (off + i) default, rfl, ⟨by simp, hl, hcap, fun _ => ⟨bl, off, c, T, fr, rfl, hh, fun j v hj => ?_⟩⟩, fun i hi => ?_⟩
 ·
  rw [List.getElem?_map] at hj
  obtain ⟨k, hk, rfl⟩ := Option.map_eq_some_iff.1 hj
  have hlt := (List.getElem?_eq_some_iff.1 hk).1
  rw [List.getElem?_range (by simpa using hlt)] at hk
  cases hk
  exact (hc _ (by simpa using hlt)).1
 obtain ⟨cs', h1, h2⟩ := hx i hi
 have : ((((List.range (len * s')).map fun i => c.getD (off + i) default).drop (i * s')).take s') = cs' := by
  obtain ⟨_, hlen, hcc⟩ := World.cells?_some h1
  have hle : (i + 1) * s' ≤ len * s' := Nat.mul_le_mul_right _ hi
  rw [Nat.add_mul, Nat.one_mul] at hle
  apply List.ext_getElem?
  intro j
  rw [List.getElem?_take]
  split
  ·
   rename_i hj
   rw [List.getElem?_drop, List.getElem?_map, List.getElem?_range (by omega)]
   have h3 := hcc j hj
   rw [add_plain, Nat.add_assoc] at h3
   rw [← h3, (hc (i * s' + j) (by omega)).2]
   rfl
  rw [List.getElem?_eq_none (by omega)]
 rw [this]
 exact ⟨n, _, h2⟩
theorem one_of {v : Value} {base : Nat} {r : Reach} {d : TypeDesc} {z : Value} {s b : Nat} [ti : TI P t d z s b] (hd : aggD d = false) (h : Value.okWide P W r base t v) {x : Value} (hc : v.cells.toList = [x]) : v = x := by
 cases v with
 | agg c =>
  exfalso
  simp only [Value.okWide, ti.und] at h
  cases d <;> simp_all [aggD, Cell.okWide, Cell.ok]
 | _ => simpa [Value.cells] using hc
theorem u8_of {n : Int} (h : (Lit.int .u8 n).wf = true) : ∃ c : UInt8, n = (c.toNat : Int) := by
 simp [Lit.wf, IntKind.min, IntKind.max, IntKind.signed, IntKind.bits] at h
 exact ⟨UInt8.ofNat n.toNat, by simp [UInt8.toNat_ofNat']; omega⟩
theorem ints_of {k : IntKind} : ∀ (vs : List Value), (∀ i, i < vs.length → ∃ n, (vs.drop i).take 1 = [.int k n] ∧ (Lit.int k n).wf = true) → ∃ ts : List Int, vs = ts.map (.int k) ∧ ∀ t ∈ ts, (Lit.int k t).wf = true
 | [], _ => ⟨[], rfl, fun t h => by cases h⟩
 | v :: vs, h => by
  obtain ⟨n, h1, h2⟩ := h 0 (by simp)
  obtain ⟨ts, rfl, ht⟩ := ints_of vs (fun i hi => by simpa using h (i + 1) (by simpa using hi))
  refine ⟨n :: ts, by simpa using h1, fun t hm => ?_⟩
  rcases List.mem_cons.1 hm with rfl | hm
  ·
   exact h2
  exact ht t hm
theorem Rd.ints {k : IntKind} {e : TypeId} {z z' : Value} {s b b' : Nat} [ti : TI P t (.slice e) z s b] [te : TI P e (.int k) z' 1 b'] (h : Rd enc P W t cs) :
  ∃ (A : Option Addr) (len cap : Nat) (ts : List Int), cs = [.slice A len cap] ∧ Row (memOf W) 1 A len cap (ts.map (.int k)) ∧ ∀ n ∈ ts, (Lit.int k n).wf = true := by
 obtain ⟨A, len, cap, vs, rfl, hr, hx⟩ := h.slice (by omega)
 have hl := hr.len
 obtain ⟨ts, rfl, ht⟩ := ints_of (k := k) vs (fun i hi => by
  have := (hx i (by omega)).int
  simpa using this)
 exact ⟨A, len, cap, ts, rfl, hr, ht⟩
theorem u8s_of : ∀ (ts : List Int), (∀ t ∈ ts, (Lit.int .u8 t).wf = true) → ∃ bs : List UInt8, ts.map (Value.int .u8) = bs.map bv
 | [], _ => ⟨[], rfl⟩
 | t :: ts, h => by
  obtain ⟨c, rfl⟩ := u8_of (h t List.mem_cons_self)
  obtain ⟨bs, hb⟩ := u8s_of ts (fun x hx => h x (List.mem_cons_of_mem _ hx))
  exact ⟨c :: bs, by rw [List.map_cons, List.map_cons, hb]; rfl⟩
theorem Rd.bytes {e : TypeId} {z z' : Value} {s b b' : Nat} [ti : TI P t (.slice e) z s b] [te : TI P e (.int .u8) z' 1 b'] (h : Rd enc P W t cs) :
  ∃ (A : Option Addr) (len cap : Nat) (bs : List UInt8), cs = [.slice A len cap] ∧ Bytes (memOf W) A len cap bs := by
 obtain ⟨A, len, cap, ts, rfl, hr, ht⟩ := h.ints (k := .u8)
 obtain ⟨bs, hb⟩ := u8s_of ts ht
 exact ⟨A, len, cap, bs, rfl, by rw [Bytes, ← hb]; exact hr⟩
end
section
variable {P : Program} {W : World}
theorem laidVars_mem : ∀ {laid : List (String × DataW Unit)} {ps : List MemPlace}, DataW.LaidVars P W laid ps → ∀ {n d}, (n, d) ∈ laid → ∃ g t cs fuel p, P.globalNamed n = some g ∧ (P.globals[g]?).map (·.type) = some t ∧ W.var? P n = some cs ∧ DataW.trod (fun _ => ()) P W 0 (fun _ => true) false fuel t cs.toList = some (d, p)
 | [], _, _, n, d, hm => by cases hm
 | (n0, d0) :: r, ps, h, n, d, hm => by
  obtain ⟨g, t, cs, fuel, p, q, h1, h2, h3, h4, h5, _⟩ := h
  rcases List.mem_cons.1 hm with he | hm
  ·
   cases he; exact ⟨g, t, cs, fuel, p, h1, h2, h3, h4⟩
  exact laidVars_mem h5 hm
theorem var_heap {n : String} {g : Nat} {cs : Array Value} (hg : P.globalNamed n = some g) (h : W.var? P n = some cs) : ∃ T fr, memOf W g = some (.cells cs T fr) := by
 simp only [World.var?, hg, Option.bind_some] at h
 unfold memOf
 split at h
 ·
  rename_i c t fr hb
  cases h
  exact ⟨t, fr, hb⟩
 cases h
theorem map_lits {k : IntKind} : ∀ {ns : List Int} {cs : List Value}, cs.length = ns.length → (∀ i, i < ns.length → ∃ x, (cs.drop i).take 1 = [Value.int k x] ∧ ns[i]? = some x) → cs = ns.map (.int k)
 | [], [], _, _ => rfl
 | [], _ :: _, h, _ => by simp at h
 | _ :: _, [], h, _ => by simp at h
 | n :: ns, c :: cs, h, hx => by
  obtain ⟨x, h1, h2⟩ := hx 0 (by simp)
  simp at h1 h2
  have h3 := map_lits (k := k) (ns := ns) (cs := cs) (by simpa using h) (fun i hi => by simpa using hx (i + 1) (by simpa using hi))
  rw [h1, h2, h3]
  rfl
theorem trod_ints {t e : TypeId} {m : Nat} {k : IntKind} {z z' : Value} {s b b' fuel : Nat} [ti : TI P t (.array m e) z s b] [te : TI P e (.int k) z' 1 b'] {ns : List Int} {cs : List Value} {p : List MemPlace} {sp : Nat → Bool} {held : Bool} {enc : TypeId × Value → Unit}
  (h : DataW.trod enc P W 0 sp held fuel t cs = some (.agg (ns.map fun x => .lit (.int k x)), p)) (hs : s = m) : cs = ns.map (.int k) := by
 obtain ⟨xs, m', rfl, hx, hl, hn, hel⟩ := DataW.trod_array ti.und h
 rw [ti.cellsOf, hs] at hl
 simp only [Prod.mk.injEq, DataW.agg.injEq] at hx
 have hln : ns.length = m := by rw [← hn]; simpa using congrArg List.length hx.1
 refine map_lits (by omega) (fun i hi => ?_)
 have h1 := hel i (by omega)
 rw [te.cellsOf, Nat.mul_one] at h1
 rw [List.getElem?_eq_getElem (show i < xs.length by omega)] at h1
 obtain ⟨x, e1, e2, _⟩ := DataW.trod_int te.und h1
 refine ⟨x, e1, ?_⟩
 have h2 := congrArg (fun l => l[i]?) hx.1
 simp only [List.getElem?_map] at h2
 rw [List.getElem?_eq_getElem (show i < xs.length by omega), List.getElem?_eq_getElem hi] at h2
 simp only [Option.map_some, Option.some.injEq, e2, DataW.lit.injEq, Lit.int.injEq, true_and] at h2
 rw [List.getElem?_eq_getElem hi, h2]
theorem laid_ints {laid : List (String × DataW Unit)} (h : laidMet P laid W) {n : String} {g : Nat} {t e : TypeId} {m : Nat} {k : IntKind} {z z' : Value} {s b b' : Nat} (ns : List Int) (hm : (n, DataW.agg (ns.map fun x => .lit (.int k x))) ∈ laid) (hg : P.globalNamed n = some g)
  (ht : (P.globals[g]?).map (·.type) = some t) (ti : TI P t (.array m e) z s b) (te : TI P e (.int k) z' 1 b') (hs : s = m) : ∃ T fr, memOf W g = some (.cells (ns.map (.int k)).toArray T fr) := by
 obtain ⟨ps, hv, _⟩ := h
 obtain ⟨g', t', cs, fuel, p, h1, h2, h3, h4⟩ := laidVars_mem hv hm
 obtain rfl := Option.some.inj (hg.symm.trans h1)
 obtain rfl := Option.some.inj (ht.symm.trans h2)
 obtain ⟨T, fr, hh⟩ := var_heap hg h3
 have := trod_ints h4 hs
 refine ⟨T, fr, ?_⟩
 rw [hh, ← this]
end
end Go.Eng
namespace Go.Proofs.YtplkoemjffplcaaGreatDoor
open Go Go.Eng Go.ChangeShapes Go.WideShapes Go.ChangeAt Go.RowKit
theorem own : ownKnob Tryz.prog.godebug = none := by kernel_rfl
theorem laidOut : laidOutB Tryz.prog = true := by kernel_rfl
set_option maxRecDepth 100000 in
theorem shutBool {H : Type} {enc : TypeId × Value → H} {W : World} {base : Nat} {sp : Nat → Bool} {held : Bool} (b : Bool) : DataW.Trod enc Tryz.prog W base sp held 4 (.bool b) (.lit (.bool b)) [] := ⟨1, by simp [DataW.trod, Value.cells, Tryz.underlying4]⟩
set_option maxRecDepth 100000 in
theorem byte_arg {H : Type} {enc : TypeId × Value → H} {W : World} {v : Value} {r : Reach} {b : Nat} (k : Value.okWide Tryz.prog W r b 5 v) (h : Rd enc Tryz.prog W 5 v.cells.toList) : ∃ c : UInt8, v = .int .u8 c.toNat := by
 obtain ⟨n, e, w⟩ := h.int
 obtain rfl := one_of rfl k e
 obtain ⟨c, rfl⟩ := u8_of w
 exact ⟨c, rfl⟩
section
variable {W : World}
theorem shaG_of {laid : List (String × DataW Unit)} (h : laidMet Tryz.prog laid W) (h1 : ("tearoff/sha2.k", Rows.laid_tearoff_sha2_k) ∈ laid) (h2 : ("tearoff/sha2.first", Rows.laid_tearoff_sha2_first) ∈ laid) : ShaG (memOf W) := by
 refine ⟨?_, ?_⟩
 ·
  obtain ⟨T, fr, hc⟩ := laid_ints h (kT.map fun x => (x.toNat : Int)) h1 (show Tryz.prog.globalNamed "tearoff/sha2.k" = some 6 by kernel_rfl) (show (Tryz.prog.globals[6]?).map (·.type) = some 354 by kernel_rfl) ti354 ti61 rfl
  refine ⟨_, T, fr, hc, fun j hj => ?_⟩
  rw [List.getElem?_toArray, List.map_map]
  exact get_u32' kT j hj
 obtain ⟨T, fr, hc⟩ := laid_ints h (H8.init.list.map fun x => (x.toNat : Int)) h2 (show Tryz.prog.globalNamed "tearoff/sha2.first" = some 5 by kernel_rfl) (show (Tryz.prog.globals[5]?).map (·.type) = some 344 by kernel_rfl) ti344 ti61 rfl
 exact ⟨T, fr, hc⟩
end
set_option maxRecDepth 100000
section
variable {H : Type} {enc : TypeId × Value → H} {W : World}
theorem kecG_of {laid : List (String × DataW Unit)} (h : laidMet Tryz.prog laid W) (h1 : ("tearoff/keccak.rc", Rows.laid_tearoff_keccak_rc) ∈ laid) (h2 : ("tearoff/keccak.turns", Rows.laid_tearoff_keccak_turns) ∈ laid) : KecG (memOf W) := by
 refine ⟨?_, ?_⟩
 ·
  obtain ⟨T, fr, hc⟩ := laid_ints h (kRc.map fun x => (x.toNat : Int)) h1 (show Tryz.prog.globalNamed "tearoff/keccak.rc" = some 8 by kernel_rfl) (show (Tryz.prog.globals[8]?).map (·.type) = some 368 by kernel_rfl) ti368 ti38 rfl
  refine ⟨_, T, fr, hc, fun j hj => ?_⟩
  rw [List.getElem?_toArray, List.map_map]
  exact get_u64' kRc j hj
 obtain ⟨T, fr, hc⟩ := laid_ints h (kTurns.map fun (x : Nat) => (x : Int)) h2 (show Tryz.prog.globalNamed "tearoff/keccak.turns" = some 7 by kernel_rfl) (show (Tryz.prog.globals[7]?).map (·.type) = some 367 by kernel_rfl) ti367 ti3 rfl
 refine ⟨_, T, fr, hc, fun j hj => ?_⟩
 rw [List.getElem?_toArray, List.map_map, List.getElem?_map, List.getElem?_eq_getElem (show j < kTurns.length from hj), List.getD_eq_getElem?_getD, List.getElem?_eq_getElem (show j < kTurns.length from hj)]
 rfl
theorem trod_pair {t it : TypeId} {z z' : Value} {b b' fuel : Nat} {f0 f1 : Field} {cs : List Value} {a c : Int} {p : List MemPlace} {sp : Nat → Bool} {held : Bool} {enc : TypeId × Value → Unit} [ti : TI Tryz.prog t (.struct #[f0, f1]) z 2 b] [te : TI Tryz.prog it (.int .i64) z' 1 b']
  (e0 : f0.type = it ∧ f0.offset = 0) (e1 : f1.type = it ∧ f1.offset = 1) (h : DataW.trod enc Tryz.prog W 0 sp held fuel t cs = some (.agg [.lit (.int .i64 a), .lit (.int .i64 c)], p)) : cs = [.int .i64 a, .int .i64 c] := by
 obtain ⟨y0, y1, n, hx, hl, h0, h1⟩ := trod_struct2 ti.und h
 rw [ti.cellsOf] at hl
 rw [e0.1, e0.2, te.cellsOf] at h0
 rw [e1.1, e1.2, te.cellsOf] at h1
 obtain ⟨x, g1, g2, _⟩ := DataW.trod_int te.und h0
 obtain ⟨x', g1', g2', _⟩ := DataW.trod_int te.und h1
 simp only [Prod.mk.injEq, DataW.agg.injEq, List.cons.injEq, and_true] at hx
 match cs, hl with
 | [c0, c1], _ =>
  simp at g1 g1'
  rw [g2, g2'] at hx
  simp only [DataW.lit.injEq, Lit.int.injEq, true_and] at hx
  rw [g1, g1', hx.1.1, hx.1.2]
theorem setG_of {laid : List (String × DataW Unit)} (h : laidMet Tryz.prog laid W) (h1 : ("tearoff/sets.sums", Rows.laid_tearoff_sets_sums) ∈ laid) (h2 : ("tearoff/sets.widths", Rows.laid_tearoff_sets_widths) ∈ laid) : SetG (memOf W) := by
 refine ⟨?_, ?_⟩
 ·
  obtain ⟨ps, hv, _⟩ := h
  obtain ⟨g', t', cs, fuel, p, e1, e2, e3, e4⟩ := laidVars_mem hv h1
  obtain rfl := Option.some.inj ((show Tryz.prog.globalNamed "tearoff/sets.sums" = some 3 by kernel_rfl).symm.trans e1)
  obtain rfl := Option.some.inj ((show (Tryz.prog.globals[3]?).map (·.type) = some 274 by kernel_rfl).symm.trans e2)
  obtain ⟨T, fr, hh⟩ := var_heap e1 e3
  obtain ⟨xs, m', hx', hx, hl, hn, hel⟩ := DataW.trod_array (ti274 : TI Tryz.prog 274 _ _ _ _).und e4
  rw [TI.cellsOf (ti274 : TI Tryz.prog 274 _ _ _ _)] at hl
  rw [TI.cellsOf (ti223 : TI Tryz.prog 223 _ _ _ _)] at hel
  unfold Rows.laid_tearoff_sets_sums at hx
  refine ⟨T, fr, ?_⟩
  rw [hh]
  obtain ⟨cl, rfl⟩ : ∃ cl : List Value, cs = cl.toArray := ⟨cs.toList, by simp⟩
  match xs, hn with
  | [x0, x1, x2, x3], _ =>
   simp only [Prod.mk.injEq, DataW.agg.injEq, List.map_cons, List.map_nil, List.cons.injEq, and_true] at hx
   have k0 := hel 0 (by omega)
   have k1 := hel 1 (by omega)
   have k2 := hel 2 (by omega)
   have k3 := hel 3 (by omega)
   match cl, hl with
   | [c0, c1, c2, c3, c4, c5, c6, c7], _ =>
    simp at k0 k1 k2 k3
    obtain ⟨q0, q0'⟩ := x0
    obtain ⟨q1, q1'⟩ := x1
    obtain ⟨q2, q2'⟩ := x2
    obtain ⟨q3, q3'⟩ := x3
    obtain ⟨⟨rfl, rfl, rfl, rfl⟩, _⟩ := hx
    have r0 := trod_pair (te := ti3) ⟨rfl, rfl⟩ ⟨rfl, rfl⟩ k0
    have r1 := trod_pair (te := ti3) ⟨rfl, rfl⟩ ⟨rfl, rfl⟩ k1
    have r2 := trod_pair (te := ti3) ⟨rfl, rfl⟩ ⟨rfl, rfl⟩ k2
    have r3 := trod_pair (te := ti3) ⟨rfl, rfl⟩ ⟨rfl, rfl⟩ k3
    simp only [List.cons.injEq, and_true] at r0 r1 r2 r3
    rw [r0.1, r0.2, r1.1, r1.2, r2.1, r2.2, r3.1, r3.2]
 obtain ⟨T, fr, hc⟩ := laid_ints h [1, 2, 4, 8] h2 (show Tryz.prog.globalNamed "tearoff/sets.widths" = some 0 by kernel_rfl) (show (Tryz.prog.globals[0]?).map (·.type) = some 226 by kernel_rfl) ti226 ti3 rfl
 exact ⟨T, fr, hc⟩
end
section
variable {H : Type} {enc : TypeId × Value → H} {P : Program} {W : World} {t : TypeId} {cs : List Value}
def RdW (enc : TypeId × Value → H) (P : Program) (W : World) (t : TypeId) (cs : List Value) : Prop := ∃ fuel d ps, DataW.trod enc P W 0 (fun _ => true) true fuel t cs = some (d, ps) ∧ ∀ n ∈ d.weights P t, n ≤ reachBytes
theorem RdW.rd (h : RdW enc P W t cs) : Rd enc P W t cs := let ⟨n, d, ps, h, _⟩ := h; ⟨n, _, h⟩
theorem rdW_of {v : Value} {d : DataW H} {ps : List MemPlace} (h : DataW.Trod enc P W 0 (fun _ => true) true t v d ps) (hw : ∀ n ∈ d.weights P t, n ≤ reachBytes) : RdW enc P W t v.cells.toList := let ⟨n, h⟩ := h; ⟨n, _, _, h, hw⟩
theorem rdW_at {ts : List TypeId} {ds : List (DataW H)} (hz : (DataW.weightsEach P ts ds).all (· ≤ reachBytes) = true) (j : Nat) {v : Value} {d : DataW H} {ps : List MemPlace} (ht : ts[j]? = some t) (hd : ds[j]? = some d) (h : DataW.Trod enc P W 0 (fun _ => true) true t v d ps) : RdW enc P W t v.cells.toList :=
 rdW_of h fun n hn => by simpa using List.all_eq_true.1 hz n (DataW.weights_mem_each ht hd n hn)
theorem _root_.Go.Eng.TI.bytesOf {d : TypeDesc} {z : Value} {s b : Nat} (h : TI P t d z s b) : P.bytesOf t = b := by
 obtain ⟨i, hi, _, _, hb⟩ := h.parts
 simp [Program.bytesOf, hi, hb]
theorem weightsAll_mem {e : TypeId} {d : DataW H} {n : Nat} : ∀ {ds : List (DataW H)}, d ∈ ds → n ∈ d.weights P e → n ∈ DataW.weightsAll P e ds
 | [], h, _ => by cases h
 | x :: ds, h, hn => by
  simp only [DataW.weightsAll, List.mem_append]
  rcases List.mem_cons.1 h with rfl | h
  ·
   exact .inl hn
  exact .inr (weightsAll_mem h hn)
theorem RdW.slice {e : TypeId} {z z' : Value} {s b s' b' : Nat} {d' : TypeDesc} [ti : TI P t (.slice e) z s b] [te : TI P e d' z' s' b'] (hs : 0 < s') (h : RdW enc P W t cs) :
  ∃ A len cap vs, cs = [.slice A len cap] ∧ Row (memOf W) s' A len cap vs ∧ len * b' ≤ reachBytes ∧ ∀ i, i < len → RdW enc P W e ((vs.drop (i * s')).take s') := by
 obtain ⟨fuel, d, ps, h, hwt⟩ := h
 rcases Deep.open_slice ti.und h with ⟨rfl, _⟩ | ⟨a, len, cap, m, n, D, Pl, rfl, hb, hl, hm, hmm, hdd, hx⟩
 ·
  exact ⟨none, 0, 0, [], rfl, Row.nil _ _, by simp, fun i hi => by omega⟩
 obtain ⟨rfl, rfl⟩ := Prod.mk.inj hdd
 have hsz : len * b' ≤ reachBytes := by
  have h1 := hwt ((((List.range len).map D).length + ((List.range (m - len)).map fun j => D (len + j)).length) * P.bytesOf e) (by simp [DataW.weights, ti.und])
  rw [te.bytesOf] at h1
  refine Nat.le_trans (Nat.mul_le_mul_right _ ?_) h1
  simp
 have hwe : ∀ i, i < len → ∀ k ∈ (D i).weights P e, k ≤ reachBytes := fun i hi k hk => hwt k (by
  simp only [DataW.weights, ti.und, List.mem_cons, List.mem_append]
  exact .inr (.inl (weightsAll_mem (List.mem_map.2 ⟨i, List.mem_range.2 hi, rfl⟩) hk)))
 rw [te.cellsOf] at hx
 have hcap : cap ≤ 9223372036854775807 := by unfold maxLen at hm; omega
 have hlm : len ≤ m := by rw [hmm]; split <;> omega
 have hx : ∀ i, i < len → ∃ cs', W.cells? 0 (a.add (i * s')) s' = some cs' ∧ DataW.trod enc P W 0 (fun _ => true) true n e cs' = some (D i, Pl i) := fun i hi => hx i (by omega)
 rcases Nat.eq_zero_or_pos len with h0 | h0
 ·
  subst h0
  exact ⟨some a, 0, cap, [], rfl, Row.empty _ _ _ hcap, hsz, fun i hi => by omega⟩
 have hspot : a.spot = none := by
  obtain ⟨cs', h1, _⟩ := hx 0 h0
  obtain ⟨_, hlen, hc⟩ := World.cells?_some h1
  have := hc 0 hs
  have hg : cs'[0]? = some (cs'[0]'(by omega)) := List.getElem?_eq_getElem (by omega)
  rw [hg] at this
  have := World.cell?_spot this
  revert this
  unfold Addr.add
  simp
 obtain ⟨bl, off, sp⟩ := a
 simp only at hspot
 subst hspot
 simp only [Eng.add_plain] at hx
 have hcell : ∀ i, i < len * s' → ∃ v, W.cell? ⟨bl, off + i, none⟩ = some v := fun i hi => by
  obtain ⟨cs', h1, _⟩ := hx (i / s') (Nat.div_lt_of_lt_mul (by rwa [Nat.mul_comm]))
  obtain ⟨_, hlen, hc⟩ := World.cells?_some h1
  have hmod := Nat.mod_lt i hs
  have := hc (i % s') hmod
  rw [Eng.add_plain, Nat.add_assoc, Nat.add_comm (i / s' * s'), Nat.mod_add_div' i s', List.getElem?_eq_getElem (by omega)] at this
  exact ⟨_, this⟩
 have hblock : ∃ c T fr, W.heap[bl]? = some (.cells c T fr) := by
  obtain ⟨v, hv⟩ := hcell 0 (Nat.mul_pos h0 hs)
  unfold World.cell? at hv
  split at hv
  ·
   rename_i c T fr hh; exact ⟨c, T, fr, hh⟩
  cases hv
 obtain ⟨c, T, fr, hh⟩ := hblock
 have hc : ∀ i, i < len * s' → c[off + i]? = some (c.getD (off + i) default) ∧ W.cell? ⟨bl, off + i, none⟩ = some (c.getD (off + i) default) := fun i hi => by
  obtain ⟨v, hv⟩ := hcell i hi
  have hv' := hv
  unfold World.cell? at hv
  simp only [hh, Option.isSome_none, Bool.false_eq_true, if_false] at hv
  have : c.getD (off + i) default = v := by simp [Array.getD_eq_getD_getElem?, hv]
  rw [this]
  exact ⟨hv, hv'⟩
 refine ⟨some ⟨bl, off, none⟩, len, cap, (List.range (len * s')).map fun i => c.getD (off + i) default, rfl, ⟨by simp, hl, hcap, fun _ => ⟨bl, off, c, T, fr, rfl, hh, fun j v hj => ?_⟩⟩, hsz, fun i hi => ?_⟩
 ·
  rw [List.getElem?_map] at hj
  obtain ⟨k, hk, rfl⟩ := Option.map_eq_some_iff.1 hj
  have hlt := (List.getElem?_eq_some_iff.1 hk).1
  rw [List.getElem?_range (by simpa using hlt)] at hk
  cases hk
  exact (hc _ (by simpa using hlt)).1
 obtain ⟨cs', h1, h2⟩ := hx i hi
 have : ((((List.range (len * s')).map fun i => c.getD (off + i) default).drop (i * s')).take s') = cs' := by
  obtain ⟨_, hlen, hcc⟩ := World.cells?_some h1
  have hle : (i + 1) * s' ≤ len * s' := Nat.mul_le_mul_right _ hi
  rw [Nat.add_mul, Nat.one_mul] at hle
  apply List.ext_getElem?
  intro j
  rw [List.getElem?_take]
  split
  ·
   rename_i hj
   rw [List.getElem?_drop, List.getElem?_map, List.getElem?_range (by omega)]
   have h3 := hcc j hj
   rw [Eng.add_plain, Nat.add_assoc] at h3
   rw [← h3, (hc (i * s' + j) (by omega)).2]
   rfl
  rw [List.getElem?_eq_none (by omega)]
 rw [this]
 exact ⟨n, _, _, h2, hwe i hi⟩
theorem RdW.bytes {e : TypeId} {z z' : Value} {s b : Nat} [ti : TI P t (.slice e) z s b] [te : TI P e (.int .u8) z' 1 1] (h : RdW enc P W t cs) :
  ∃ (A : Option Addr) (len cap : Nat) (bs : List UInt8), cs = [.slice A len cap] ∧ Bytes (memOf W) A len cap bs ∧ len ≤ 140737488355328 := by
 obtain ⟨A, len, cap, bs, rfl, hb⟩ := Rd.bytes (te := te) h.rd
 obtain ⟨A', len', cap', vs, e1, _, hz, _⟩ := RdW.slice (te := te) (by omega) h
 have e2 : len = len' := by simp at e1; exact e1.2.1
 exact ⟨A, len, cap, bs, rfl, hb, by unfold reachBytes at hz; omega⟩
end
section
variable {H : Type} {enc : TypeId × Value → H} {W : World}
theorem sums_of {laid : List (String × DataW Unit)} (h : laidMet Tryz.prog laid W) (h1 : ("tearoff/sets.sums", Rows.laid_tearoff_sets_sums) ∈ laid) : ∃ T fr, memOf W 3 = some (.cells #[.int .i64 0, .int .i64 32, .int .i64 0, .int .i64 24, .int .i64 1, .int .i64 32, .int .i64 1, .int .i64 24] T fr) := by
 obtain ⟨ps, hv, _⟩ := h
 obtain ⟨g', t', cs, fuel, p, e1, e2, e3, e4⟩ := laidVars_mem hv h1
 obtain rfl := Option.some.inj ((show Tryz.prog.globalNamed "tearoff/sets.sums" = some 3 by kernel_rfl).symm.trans e1)
 obtain rfl := Option.some.inj ((show (Tryz.prog.globals[3]?).map (·.type) = some 274 by kernel_rfl).symm.trans e2)
 obtain ⟨T, fr, hh⟩ := var_heap e1 e3
 obtain ⟨xs, m', hx', hx, hl, hn, hel⟩ := DataW.trod_array (ti274 : TI Tryz.prog 274 _ _ _ _).und e4
 rw [TI.cellsOf (ti274 : TI Tryz.prog 274 _ _ _ _)] at hl
 rw [TI.cellsOf (ti223 : TI Tryz.prog 223 _ _ _ _)] at hel
 unfold Rows.laid_tearoff_sets_sums at hx
 refine ⟨T, fr, ?_⟩
 rw [hh]
 obtain ⟨cl, rfl⟩ : ∃ cl : List Value, cs = cl.toArray := ⟨cs.toList, by simp⟩
 match xs, hn with
 | [x0, x1, x2, x3], _ =>
  simp only [Prod.mk.injEq, DataW.agg.injEq, List.map_cons, List.map_nil, List.cons.injEq, and_true] at hx
  have k0 := hel 0 (by omega)
  have k1 := hel 1 (by omega)
  have k2 := hel 2 (by omega)
  have k3 := hel 3 (by omega)
  match cl, hl with
  | [c0, c1, c2, c3, c4, c5, c6, c7], _ =>
   simp at k0 k1 k2 k3
   obtain ⟨q0, q0'⟩ := x0
   obtain ⟨q1, q1'⟩ := x1
   obtain ⟨q2, q2'⟩ := x2
   obtain ⟨q3, q3'⟩ := x3
   obtain ⟨⟨rfl, rfl, rfl, rfl⟩, _⟩ := hx
   have r0 := trod_pair (te := ti3) ⟨rfl, rfl⟩ ⟨rfl, rfl⟩ k0
   have r1 := trod_pair (te := ti3) ⟨rfl, rfl⟩ ⟨rfl, rfl⟩ k1
   have r2 := trod_pair (te := ti3) ⟨rfl, rfl⟩ ⟨rfl, rfl⟩ k2
   have r3 := trod_pair (te := ti3) ⟨rfl, rfl⟩ ⟨rfl, rfl⟩ k3
   simp only [List.cons.injEq, and_true] at r0 r1 r2 r3
   rw [r0.1, r0.2, r1.1, r1.2, r2.1, r2.2, r3.1, r3.2]
theorem setT_of {laid : List (String × DataW Unit)} (h : laidMet Tryz.prog laid W) (h1 : ("tearoff/sets.sums", Rows.laid_tearoff_sets_sums) ∈ laid) (h2 : ("tearoff/sets.heights", Rows.laid_tearoff_sets_heights) ∈ laid) (h3 : ("tearoff/sets.own", Rows.laid_tearoff_sets_own) ∈ laid) : SetT (memOf W) := by
 refine ⟨sums_of h h1, ?_, ?_⟩
 ·
  obtain ⟨T, fr, hc⟩ := laid_ints h [5, 10, 15, 20, 25] h2 (show Tryz.prog.globalNamed "tearoff/sets.heights" = some 2 by kernel_rfl) (show (Tryz.prog.globals[2]?).map (·.type) = some 269 by kernel_rfl) ti269 ti3 rfl
  exact ⟨T, fr, hc⟩
 obtain ⟨T, fr, hc⟩ := laid_ints h [1, 2, 3, 4] h3 (show Tryz.prog.globalNamed "tearoff/sets.own" = some 1 by kernel_rfl) (show (Tryz.prog.globals[1]?).map (·.type) = some 226 by kernel_rfl) ti226 ti3 rfl
 exact ⟨T, fr, hc⟩
end
section
variable {H : Type} {enc : TypeId × Value → H} {W : World}
theorem lmG_of {laid : List (String × DataW Unit)} (e : laid = [("tearoff/keccak.rc", Rows.laid_tearoff_keccak_rc), ("tearoff/keccak.turns", Rows.laid_tearoff_keccak_turns), ("tearoff/sets.sums", Rows.laid_tearoff_sets_sums), ("tearoff/sets.widths", Rows.laid_tearoff_sets_widths), ("tearoff/sets.heights", Rows.laid_tearoff_sets_heights), ("tearoff/sets.own", Rows.laid_tearoff_sets_own), ("tearoff/sha2.k", Rows.laid_tearoff_sha2_k), ("tearoff/sha2.first", Rows.laid_tearoff_sha2_first)]) (h : laidMet Tryz.prog laid W) : LmG (memOf W) :=
 ⟨⟨shaG_of h (by rw [e]; simp) (by rw [e]; simp), kecG_of h (by rw [e]; simp) (by rw [e]; simp), setG_of h (by rw [e]; simp) (by rw [e]; simp)⟩, setT_of h (by rw [e]; simp) (by rw [e]; simp) (by rw [e]; simp)⟩
end
section
variable {H : Type} {enc : TypeId × Value → H} {W : World}
theorem sretired_con {v0 v1 : Value} {r : Reach} {b : Nat} (hl : laidMet Tryz.prog Rows.storeRetiredRow.laid W) (k0 : Value.okWide Tryz.prog W r b 5 v0) (k1 : Value.okWide Tryz.prog W r b 5 v1)
  (h0 : RdW enc Tryz.prog W 5 v0.cells.toList) (h1 : RdW enc Tryz.prog W 5 v1.cells.toList) :
  Con Tryz.prog 6 #[v0, v1] W (memOf W) [] (fun v _ _ => v = .bool true) noPanic := by
 obtain ⟨x, rfl⟩ := byte_arg k0 h0.rd
 obtain ⟨y, rfl⟩ := byte_arg k1 h1.rd
 exact StoreRetired_spec (lmG_of rfl hl) (lmG_of rfl hl).ch.sha x y
end
end Go.Proofs.YtplkoemjffplcaaGreatDoor
