/-
Contracts of functions, each proved by a walk through its code.
-/
import Derived.Test.YtplkoemjffplcaaGreatDoorStoreDefEtc
import Derived.Test.YtplkoemjffplcaaGreatDoorLaw11Etc
import Derived.Test.YtplkoemjffplcaaGreatDoorHss7Etc
import Derived.Test.YtplkoemjffplcaaGreatDoorEngNEtc
import Derived.Test.YtplkoemjffplcaaGreatDoorSlotsPureEtc
set_option linter.all false
namespace Go.Proofs.YtplkoemjffplcaaGreatDoor
open Go Go.Eng
theorem KeysAt.pick {M : Mem} {d : Nat} {nm : List UInt8} {q : KeyS × Nat} {ks : List (KeyS × Nat)} {E : Own} (h : KeysAt M d ks E) (hf : findP ks nm = some q) :
  ∃ B E0, KBl M d q.1 q.2 B ∧ E.Perm (B ++ E0) ∧ ∀ {M' : Mem} (hle : Le M M') {k' : KeyS} {B' : Own}, k'.h.name = nm → KBl M' d k' q.2 B' → KeysAt M' d (setP ks (k', q.2)) (B' ++ E0) := by
 induction h with
 | nil => cases hf
 | @cons k0 kp0 ks B0 E0 E1 h1 h2 h3 ih =>
  by_cases e : k0.h.name = nm
  ·
   rw [findP, if_pos e] at hf
   obtain rfl : (k0, kp0) = q := by simpa using hf
   refine ⟨B0, E0, h1, h3, fun hle k' B' hn hb => ?_⟩
   rw [setP, if_pos (by rw [hn]; exact e)]
   exact .cons hb (h2.mono hle) (List.Perm.refl _)
  rw [findP, if_neg e] at hf
  obtain ⟨B, E', k1, k2, k3⟩ := ih hf
  refine ⟨B, B0 ++ E', k1, h3.trans ((k2.append_left B0).trans (perm_mid _ _ _)), fun hle k' B' hn hb => ?_⟩
  rw [setP, if_neg (by rw [hn]; exact e)]
  exact .cons (h1.mono hle) (k3 hle hn hb) (perm_mid _ _ _)
theorem kvsK_setP {nm : List UInt8} {q : KeyS × Nat} {k' : KeyS} (hn : k'.h.name = nm) : ∀ {ks : List (KeyS × Nat)}, findP ks nm = some q → kvsK (setP ks (k', q.2)) = kvsK ks
 | [], h => by cases h
 | q0 :: r, h => by
  by_cases e : q0.1.h.name = nm
  ·
   rw [findP, if_pos e] at h
   obtain rfl : q0 = q := by simpa using h
   rw [setP, if_pos (by rw [hn]; exact e)]
   show (sB k'.h.name, _) :: kvsK r = (sB q0.1.h.name, _) :: kvsK r
   rw [hn, e]
  rw [findP, if_neg e] at h
  have ih := kvsK_setP hn h
  rw [setP, if_neg (by rw [hn]; exact e)]
  show _ :: kvsK (setP r _) = _ :: kvsK r
  rw [ih]
section
variable {G : World} {M : Mem} {L R : Own} {sp d n mp : Nat} {S : DS} {r : DRep} {NA SA : Option Addr} {nl nc sl_ sc : Nat} {sn ss nm : List UInt8}
theorem sCreate_spec (hg : LmG M) (hsh : ShaG M) (h : IsDisk M r S) (hn : 8 * n ≤ S.sure.length) {B : Nat} (hw : S.within B) (hB : B ≤ 1000000) {ks : List (KeyS × Nat)} {E : Own} (hE : KeysAt M d ks E) {A : Option Addr} {ln lc : Nat} {l : List PairV} (hl : Row M 2 A ln lc (prow l)) (hname : Bytes M NA nl nc sn) (hsec : Bytes M SA sl_ sc ss) (x : UInt64) :
  Con Tryz.prog 11 #[.pointer (some ⟨sp, 0, none⟩), .string (sB nm), .slice A ln lc, .agg (List.toArray (seedC NA nl nc SA sl_ sc)), .int .u64 (x.toNat : Int)] G M (dL d r S (stL sp d n mp :: mpL mp ks :: (E ++ R)))
   (fun v M' L' => (∃ S' k kp r' E', createS S n ⟨nm, l, sn, ss⟩ x = ((S', some k), 0) ∧ v = .int .i64 0 ∧ IsDisk M' r' S' ∧ KeysAt M' d (setP ks (k, kp)) E' ∧ L' = dL d r' S' (stL sp d n mp :: mpL mp (setP ks (k, kp)) :: (E' ++ R))) ∨
    (∃ S' e r', createS S n ⟨nm, l, sn, ss⟩ x = ((S', none), e) ∧ e ≠ 0 ∧ v = .int .i64 e ∧ IsDisk M' r' S' ∧ L' = dL d r' S' (stL sp d n mp :: mpL mp ks :: (E ++ R)))) noPanic := by
 refine zfn Tryz.func11 rfl 19 rfl <| zr <| tl_e rfl <| e_box rfl <| fun b1 => tl_e rfl <| e_box rfl <| fun b2 => tl_e rfl <| e_box rfl <| fun b3 => tl_e rfl <| e_box rfl <| fun b4 => tl_e rfl <| e_box rfl <| fun b5 => as0 rfl <| zq <| .s5 5 6 7 8 9 rfl rfl rfl rfl rfl <| zr <| tl_y rfl (y_makeFunc rfl rfl) <| zca rfl (caughtST_spec (K := fun (t : Bool) M' L1 => ∃ S' k kp r' E', createS S n ⟨nm, l, sn, ss⟩ x = ((S', some k), 0) ∧ IsDisk M' r' S' ∧ KeysAt M' d (setP ks (k, kp)) E' ∧ L1 = btL b5 x :: sdL b4 NA nl nc SA sl_ sc :: lvL b3 A ln lc :: nmL b2 nm :: psL b1 sp :: dL d r' S' (stL sp d n mp :: mpL mp (setP ks (k, kp)) :: (E' ++ R))) (Kp := fun e M' L1 => ∃ S' r', createS S n ⟨nm, l, sn, ss⟩ x = ((S', none), e) ∧ e ≠ 0 ∧ IsDisk M' r' S' ∧ L1 = btL b5 x :: sdL b4 NA nl nc SA sl_ sc :: lvL b3 A ln lc :: nmL b2 nm :: psL b1 sp :: dL d r' S' (stL sp d n mp :: mpL mp ks :: (E ++ R))) (first := []) (cap := [.pointer (some ⟨b2, 0, none⟩), .pointer (some ⟨b3, 0, none⟩), .pointer (some ⟨b4, 0, none⟩), .pointer (some ⟨b5, 0, none⟩), .pointer (some ⟨b1, 0, none⟩)]) (fun p' q' => sCreate1_spec hg hsh h hn hw hB hE hl hname hsec x)) ?_
 rintro v M1 L1 hM1 hv
 obtain ⟨t, e, rfl, hw2⟩ : ∃ t e, v = .tuple #[.bool t, .int .i64 e] ∧ ((∃ S' k kp r' E', createS S n ⟨nm, l, sn, ss⟩ x = ((S', some k), 0) ∧ e = 0 ∧ IsDisk M1 r' S' ∧ KeysAt M1 d (setP ks (k, kp)) E' ∧ L1 = btL b5 x :: sdL b4 NA nl nc SA sl_ sc :: lvL b3 A ln lc :: nmL b2 nm :: psL b1 sp :: dL d r' S' (stL sp d n mp :: mpL mp (setP ks (k, kp)) :: (E' ++ R))) ∨ (∃ S' r', createS S n ⟨nm, l, sn, ss⟩ x = ((S', none), e) ∧ e ≠ 0 ∧ IsDisk M1 r' S' ∧ L1 = btL b5 x :: sdL b4 NA nl nc SA sl_ sc :: lvL b3 A ln lc :: nmL b2 nm :: psL b1 sp :: dL d r' S' (stL sp d n mp :: mpL mp ks :: (E ++ R)))) := by
  rcases hv with ⟨t, rfl, S', k, kp, r', E', h1, h2, h3, rfl⟩ | ⟨e, rfl, S', r', h1, h2, h3, rfl⟩
  ·
   exact ⟨_, _, rfl, .inl ⟨S', k, kp, r', E', h1, rfl, h2, h3, rfl⟩⟩
  exact ⟨_, _, rfl, .inr ⟨S', r', h1, h2, h3, rfl⟩⟩
 refine mvU rfl <| zx rfl <| zx rfl <| asB rfl <| asI rfl <| zq <| .s1 12 rfl <| zr <| mvI rfl <| asI rfl <| zq <| x_ret ((by
  rcases hw2 with ⟨S', k, kp, r', E', h1, rfl, h2, h3, rfl⟩ | ⟨S', r', h1, h2, h3, rfl⟩
  ·
   exact .dropTo (dL d r' S' (stL sp d n mp :: mpL mp (setP ks (k, kp)) :: (E' ++ R))) iI (ret1 rfl rfl hM1 (.inl ⟨S', k, kp, r', E', h1, rfl, h2, h3, rfl⟩))
  exact .dropTo (dL d r' S' (stL sp d n mp :: mpL mp ks :: (E ++ R))) iI (ret1 rfl rfl hM1 (.inr ⟨S', e, r', h1, h2, rfl, h3, rfl⟩))))
end
def tookK (S : DS) (k : KeyS) : KeyS := { k with x := (takeC S k.s k.x k.head).1.2, s := (takeC S k.s k.x k.head).1.1.2 }
structure SignR where
 S : DS
 ks : List (KeyS × Nat)
 sig : List UInt8
 e : Int
def signK (S : DS) (ks : List (KeyS × Nat)) (nm text : List UInt8) : SignR :=
 match findP ks nm with
 | none => ⟨S, ks, [], 11⟩
 | some q =>
  if 65536 < text.length then ⟨S, ks, [], 1⟩ else
  if (takeC S q.1.s q.1.x q.1.head).2.2 ≠ 0 then ⟨(takeC S q.1.s q.1.x q.1.head).1.1.1, setP ks (tookK S q.1, q.2), [], (takeC S q.1.s q.1.x q.1.head).2.2⟩ else
  ⟨(takeC S q.1.s q.1.x q.1.head).1.1.1, setP ks (tookK S q.1, q.2), hsigV q.1.h.l q.1.h.sn.length q.1.h.ss.length (takeC S q.1.s q.1.x q.1.head).2.1.toNat text.length q.1.h.sn q.1.h.ss text, hsigE q.1.h.l q.1.h.sn.length q.1.h.ss.length (takeC S q.1.s q.1.x q.1.head).2.1.toNat text.length⟩
section
variable {G : World} {M : Mem} {L R : Own} {sp d n mp : Nat} {S : DS} {r : DRep} {nm : List UInt8}
theorem sSign1_spec (hg : LmG M) (hsh : ShaG M) (h : IsDisk M r S) {B : Nat} (hw : S.within B) (hB : B ≤ 1000000) {ks : List (KeyS × Nat)} {E : Own} (hE : KeysAt M d ks E) (hok : ∀ q ∈ ks, OkS S q.1.s) {TA : Option Addr} {tl tc : Nat} {text : List UInt8} (htext : Bytes M TA tl tc text) {c1 c2 c3 : Nat} {p' q' : Nat × Obj} :
  Con Tryz.prog 43 #[.pointer (some ⟨c1, 0, none⟩), .pointer (some ⟨c2, 0, none⟩), .pointer (some ⟨c3, 0, none⟩)] G M (p' :: q' :: bsL c3 TA tl tc :: nmL c2 nm :: psL c1 sp :: dL d r S (stL sp d n mp :: mpL mp ks :: (E ++ R)))
   (fun v M' L' => ∃ L1, L' = p' :: q' :: L1 ∧ ∃ A m c, v = .slice A m c ∧ ∃ r' E', (signK S ks nm text).e = 0 ∧ Bytes M' A m c (signK S ks nm text).sig ∧ IsDisk M' r' (signK S ks nm text).S ∧ KeysAt M' d (signK S ks nm text).ks E' ∧ L1 = bsL c3 TA tl tc :: nmL c2 nm :: psL c1 sp :: dL d r' (signK S ks nm text).S (stL sp d n mp :: mpL mp (signK S ks nm text).ks :: (E' ++ R)))
   (fun ch M' L' => ∃ L1, L' = p' :: q' :: L1 ∧ ∃ e, (∃ r' E', (signK S ks nm text).e ≠ 0 ∧ e = (signK S ks nm text).e ∧ (signK S ks nm text).sig = [] ∧ IsDisk M' r' (signK S ks nm text).S ∧ KeysAt M' d (signK S ks nm text).ks E' ∧ L1 = bsL c3 TA tl tc :: nmL c2 nm :: psL c1 sp :: dL d r' (signK S ks nm text).S (stL sp d n mp :: mpL mp (signK S ks nm text).ks :: (E' ++ R))) ∧ ch = swrong e) := by
 obtain ⟨pb, po⟩ := p'
 obtain ⟨qb, qo⟩ := q'
 have htl := htext.size
 subst htl
 refine zfn Tryz.func43 rfl 42 rfl <| zr <| as0 rfl <| zq <| zr <| tLd rfl rfl <| tLd rfl rfl <| tl_e rfl (e_call rfl (sof_spec (nm := nm) (ks := ks)) (by
  rintro _ _ _ _ ⟨rfl, rfl, hf, rfl⟩
  have e : signK S ks nm text = ⟨S, ks, [], 11⟩ := by rw [signK, hf]
  exact .retA rfl lR ⟨_, rfl, 11, ⟨r, E, by rw [e]; simp, by rw [e], by rw [e], by rw [e]; exact h, by rw [e]; exact hE, by rw [e]⟩, rfl⟩) ?_)
 rintro _ _ _ _ ⟨rfl, rfl, q, hf, rfl⟩
 obtain ⟨hqm, hqn⟩ := findP_mem hf
 have hsk : signK S ks nm text = if 65536 < text.length then ⟨S, ks, [], 1⟩ else if (takeC S q.1.s q.1.x q.1.head).2.2 ≠ 0 then ⟨(takeC S q.1.s q.1.x q.1.head).1.1.1, setP ks (tookK S q.1, q.2), [], (takeC S q.1.s q.1.x q.1.head).2.2⟩ else ⟨(takeC S q.1.s q.1.x q.1.head).1.1.1, setP ks (tookK S q.1, q.2), hsigV q.1.h.l q.1.h.sn.length q.1.h.ss.length (takeC S q.1.s q.1.x q.1.head).2.1.toNat text.length q.1.h.sn q.1.h.ss text, hsigE q.1.h.l q.1.h.sn.length q.1.h.ss.length (takeC S q.1.s q.1.x q.1.head).2.1.toNat text.length⟩ := by rw [signK, hf]
 refine asP rfl <| zq <| .s2 2 4 rfl rfl <| zr <| tLd rfl rfl <| tLen rfl <| tl_y rfl (y_leq rfl rfl) <| tl_e rfl (e_call rfl (smust_spec _ _) (by
  rintro _ _ _ _ ⟨rfl, rfl, ht, rfl⟩
  have e : signK S ks nm text = ⟨S, ks, [], 1⟩ := by rw [hsk, if_pos (by simp at ht; omega)]
  exact .retA rfl lR ⟨_, rfl, 1, ⟨r, E, by rw [e]; simp, by rw [e], by rw [e], by rw [e]; exact h, by rw [e]; exact hE, by rw [e]⟩, rfl⟩) ?_)
 rintro _ _ _ _ ⟨rfl, rfl, ht⟩
 rw [if_neg (by simp at ht; omega)] at hsk
 obtain ⟨B0, E0, hkb, hperm, hset⟩ := hE.pick hf
 obtain ⟨c, p, x, y, z, HA, A0, hl, hc, l0, c0, rfl, w1, w2, w3, w4, w5⟩ := hkb.ex
 refine .to (E ++ ((pb, po) :: (qb, qo) :: bsL c3 TA text.length tc :: nmL c2 nm :: psL c1 sp :: dL d r S (stL sp d n mp :: mpL mp ks :: R))) iI <| .to (kyL q.2 x y z c :: cL c q.1.x HA hl hc p :: sL p d q.1.s A0 l0 c0 :: (E0 ++ ((pb, po) :: (qb, qo) :: bsL c3 TA text.length tc :: nmL c2 nm :: psL c1 sp :: dL d r S (stL sp d n mp :: mpL mp ks :: R)))) ⟨hperm.append_right _⟩ <| zq <| .s2 2 4 rfl rfl <| zr <| mvP rfl <| zc rfl <| tFa rfl <| tLd rfl rfl <| zca rfl (Con.to (dL d r S (sL p d q.1.s A0 l0 c0 :: cL c q.1.x HA hl hc p :: kyL q.2 x y z c :: (E0 ++ ((pb, po) :: (qb, qo) :: bsL c3 TA text.length tc :: nmL c2 nm :: psL c1 sp :: stL sp d n mp :: mpL mp ks :: R)))) iI (cTake_spec hsh h (hok q hqm) hw hB w5 w4 q.1.x)) ?_
 rintro _ M2 _ hM2 ⟨⟨r2, A2, l2, k2, h2, hb2, rfl⟩, rfl⟩
 have hd := hM2
 have hkE := hset hM2 (k' := tookK S q.1) hqn ⟨c, p, x, y, z, HA, A2, hl, hc, l2, k2, rfl, w1.mono hM2, w2.mono hM2, w3.mono hM2, w4.mono hM2, hb2⟩
 have hkv := kvsK_setP (k' := tookK S q.1) hqn hf
 have hmp : mpL mp ks = mpL mp (setP ks (tookK S q.1, q.2)) := by show (mp, mapO (kvsK ks)) = (mp, mapO (kvsK _)); rw [hkv]
 have hqx : (takeC S q.1.s q.1.x q.1.head).1.2 = (tookK S q.1).x := rfl
 have hqs : (takeC S q.1.s q.1.x q.1.head).1.1.2 = (tookK S q.1).s := rfl
 rw [hqx, hqs, hmp]
 obtain ⟨T, hT⟩ : ∃ T, takeC S q.1.s q.1.x q.1.head = T := ⟨_, rfl⟩
 obtain ⟨k', hk'⟩ : ∃ k', tookK S q.1 = k' := ⟨_, rfl⟩
 rw [hT, hk'] at hsk
 rw [hT] at h2
 rw [hk'] at hkE
 rw [hT, hk']
 refine mvU rfl <| zx rfl <| zx rfl <| asI rfl <| asI rfl <| zq <| .s4 2 4 5 6 rfl rfl rfl rfl <| zr <| mvI rfl <| tl_e rfl (e_call rfl (swell_spec _) (by
  rintro _ _ _ _ ⟨rfl, rfl, hno, rfl⟩
  rw [if_pos hno] at hsk
  refine TP.dropTo ((pb, po) :: (qb, qo) :: bsL c3 TA text.length tc :: nmL c2 nm :: psL c1 sp :: dL d r2 T.1.1.1 (stL sp d n mp :: mpL mp (setP ks (k', q.2)) :: (kyL q.2 x y z c :: cL c k'.x HA hl hc p :: sL p d k'.s A2 l2 k2 :: (E0 ++ R)))) iI (.retA rfl hd ⟨_, rfl, _, ⟨r2, [kyL q.2 x y z c, cL c k'.x HA hl hc p, sL p d k'.s A2 l2 k2] ++ E0, ?_, rfl, ?_, ?_, ?_, ?_⟩, by rw [hsk]⟩)
  ·
   rw [hsk]; exact hno
  ·
   rw [hsk]
  ·
   rw [hsk]; exact h2
  ·
   rw [hsk]; exact hkE
  rw [hsk]; rfl) ?_)
 rintro _ _ _ _ ⟨rfl, rfl, he0⟩
 rw [if_neg (fun h => h he0)] at hsk
 refine zq <| x_seq ?_
 have he : Le M2 M2 := Le.refl _
 refine x_draw0 16 (kyL q.2 x y z c :: bsL c3 TA text.length tc :: []) Keeps.mem hmix rfl <| pmP 0 rfl rfl <| zp 1 rfl rfl (y_nilCheck rfl) <| pFa 2 rfl rfl <| pLd 3 rfl rfl rfl <| pmP 4 rfl rfl <| zp 5 rfl rfl (y_nilCheck rfl) <| pFa 6 rfl rfl <| zy 7 rfl rfl (y_lg rfl rfl) <| pmI 8 rfl rfl ?_
 refine pLd 9 rfl rfl rfl <| ze 10 rfl rfl <| e_call' rfl (Sign_hspec (hg.mono hd) (w1.mono hd) (w2.mono hd) (w3.mono hd) T.2.1 (htext.mono hd)) ?_
 rintro _ M3 _ hM3 ⟨rfl, A3, m3, k3, rfl, hb3⟩
 replace hd := hd.trans hM3
 replace he := he.trans hM3
 rw [← w2.size, ← w3.size] at hb3
 rw [← w2.size, ← w3.size]
 have hsz : (hsigE q.1.h.l q.1.h.sn.length q.1.h.ss.length T.2.1.toNat text.length) = (signK S ks nm text).e := by rw [hsk]
 rw [hsz]
 refine ⟨⟨he, Keeps.mem⟩, ?_⟩
 refine pmU 11 rfl rfl <| zp 12 rfl rfl (y_extract rfl) <| zp 13 rfl rfl (y_extract rfl) <| paS 14 rfl rfl <| paI 15 rfl rfl <| zz <| .then_normal <| .s2 6 7 rfl rfl <| zr <| mvI rfl <| tl_e rfl (e_call rfl (swell_spec _) (by
  rintro _ _ _ _ ⟨rfl, rfl, hno, rfl⟩
  refine TP.dropTo ((pb, po) :: (qb, qo) :: bsL c3 TA text.length tc :: nmL c2 nm :: psL c1 sp :: dL d r2 T.1.1.1 (stL sp d n mp :: mpL mp (setP ks (k', q.2)) :: (kyL q.2 x y z c :: cL c k'.x HA hl hc p :: sL p d k'.s A2 l2 k2 :: (E0 ++ R)))) iI (.retA rfl hd ⟨_, rfl, _, ⟨r2, [kyL q.2 x y z c, cL c k'.x HA hl hc p, sL p d k'.s A2 l2 k2] ++ E0, hno, rfl, ?_, ?_, ?_, ?_⟩, rfl⟩)
  ·
   rw [hsk] at hno ⊢
   exact if_neg hno
  ·
   rw [hsk]; exact h2.mono hM3
  ·
   rw [hsk]; exact hkE.mono hM3
  rw [hsk]; rfl) ?_)
 rintro _ _ _ _ ⟨rfl, rfl, he0⟩
 refine zq <| zr <| mvS rfl <| asS rfl <| zq <| .s1 3 rfl <| x_ret (.dropTo ((pb, po) :: (qb, qo) :: bsL c3 TA text.length tc :: nmL c2 nm :: psL c1 sp :: dL d r2 T.1.1.1 (stL sp d n mp :: mpL mp (setP ks (k', q.2)) :: (kyL q.2 x y z c :: cL c k'.x HA hl hc p :: sL p d k'.s A2 l2 k2 :: (E0 ++ R)))) iI (ret1 rfl rfl hd ⟨_, rfl, A3, m3, k3, rfl, r2, [kyL q.2 x y z c, cL c k'.x HA hl hc p, sL p d k'.s A2 l2 k2] ++ E0, he0, by rw [hsk]; exact hb3, by rw [hsk]; exact h2.mono hM3, by rw [hsk]; exact hkE.mono hM3, by rw [hsk]; rfl⟩))
theorem sSign_spec (hg : LmG M) (hsh : ShaG M) (h : IsDisk M r S) {B : Nat} (hw : S.within B) (hB : B ≤ 1000000) {ks : List (KeyS × Nat)} {E : Own} (hE : KeysAt M d ks E) (hok : ∀ q ∈ ks, OkS S q.1.s) {TA : Option Addr} {tl tc : Nat} {text : List UInt8} (htext : Bytes M TA tl tc text) :
  Con Tryz.prog 14 #[.pointer (some ⟨sp, 0, none⟩), .string (sB nm), .slice TA tl tc] G M (dL d r S (stL sp d n mp :: mpL mp ks :: (E ++ R)))
   (fun v M' L' => ∃ A m c r' E', v = .tuple #[.slice A m c, .int .i64 (signK S ks nm text).e] ∧ Bytes M' A m c (signK S ks nm text).sig ∧ IsDisk M' r' (signK S ks nm text).S ∧ KeysAt M' d (signK S ks nm text).ks E' ∧ L' = dL d r' (signK S ks nm text).S (stL sp d n mp :: mpL mp (signK S ks nm text).ks :: (E' ++ R))) noPanic := by
 refine zfn Tryz.func14 rfl 12 rfl <| zr <| tl_e rfl <| e_box rfl <| fun b1 => tl_e rfl <| e_box rfl <| fun b2 => tl_e rfl <| e_box rfl <| fun b3 => as0 rfl <| as0 rfl <| zq <| .s3 3 4 5 rfl rfl rfl <| zr <| tl_y rfl (y_makeFunc rfl rfl) <| zca rfl (caughtSB_spec (K := fun A m c M' L1 => ∃ r' E', (signK S ks nm text).e = 0 ∧ Bytes M' A m c (signK S ks nm text).sig ∧ IsDisk M' r' (signK S ks nm text).S ∧ KeysAt M' d (signK S ks nm text).ks E' ∧ L1 = bsL b3 TA tl tc :: nmL b2 nm :: psL b1 sp :: dL d r' (signK S ks nm text).S (stL sp d n mp :: mpL mp (signK S ks nm text).ks :: (E' ++ R))) (Kp := fun e M' L1 => ∃ r' E', (signK S ks nm text).e ≠ 0 ∧ e = (signK S ks nm text).e ∧ (signK S ks nm text).sig = [] ∧ IsDisk M' r' (signK S ks nm text).S ∧ KeysAt M' d (signK S ks nm text).ks E' ∧ L1 = bsL b3 TA tl tc :: nmL b2 nm :: psL b1 sp :: dL d r' (signK S ks nm text).S (stL sp d n mp :: mpL mp (signK S ks nm text).ks :: (E' ++ R))) (first := []) (cap := [.pointer (some ⟨b1, 0, none⟩), .pointer (some ⟨b2, 0, none⟩), .pointer (some ⟨b3, 0, none⟩)]) (fun p' q' => sSign1_spec hg hsh h hw hB hE hok htext)) ?_
 rintro v M1 L1 hM1 hv
 obtain ⟨A, m, c, r', E', rfl, k1, k2, k3, rfl⟩ : ∃ A m c r' E', v = .tuple #[.slice A m c, .int .i64 (signK S ks nm text).e] ∧ Bytes M1 A m c (signK S ks nm text).sig ∧ IsDisk M1 r' (signK S ks nm text).S ∧ KeysAt M1 d (signK S ks nm text).ks E' ∧ L1 = bsL b3 TA tl tc :: nmL b2 nm :: psL b1 sp :: dL d r' (signK S ks nm text).S (stL sp d n mp :: mpL mp (signK S ks nm text).ks :: (E' ++ R)) := by
  rcases hv with ⟨A, m, c, rfl, r', E', h0, h1, h2, h3, rfl⟩ | ⟨e, rfl, r', E', h0, rfl, h1, h2, h3, rfl⟩
  ·
   exact ⟨A, m, c, r', E', by rw [h0], h1, h2, h3, rfl⟩
  exact ⟨none, 0, 0, r', E', rfl, by rw [h1]; exact Row.nil _ _, h2, h3, rfl⟩
 refine zx rfl <| zx rfl <| asS rfl <| asI rfl <| zq <| .s2 6 7 rfl rfl <| x_ret (.dropTo (dL d r' (signK S ks nm text).S (stL sp d n mp :: mpL mp (signK S ks nm text).ks :: (E' ++ R))) iI (ret2 rfl rfl rfl hM1 ⟨A, m, c, r', E', rfl, k1, k2, k3, rfl⟩))
end
def publicK (ks : List (KeyS × Nat)) (nm : List UInt8) : List UInt8 × Int :=
 match findP ks nm with
 | none => ([], 11)
 | some q => (hpubV q.1.h.l q.1.h.sn.length q.1.h.ss.length q.1.h.sn q.1.h.ss, canE q.1.h.l q.1.h.sn.length q.1.h.ss.length)
section
variable {G : World} {M : Mem} {L R : Own} {sp d n mp : Nat} {S : DS} {r : DRep} {nm : List UInt8}
theorem sPublic1_spec (hg : LmG M) {ks : List (KeyS × Nat)} {E : Own} (hE : KeysAt M d ks E) {c1 c2 : Nat} {p' q' : Nat × Obj} :
  Con Tryz.prog 65 #[.pointer (some ⟨c1, 0, none⟩), .pointer (some ⟨c2, 0, none⟩)] G M (p' :: q' :: nmL c2 nm :: psL c1 sp :: dL d r S (stL sp d n mp :: mpL mp ks :: (E ++ R)))
   (fun v M' L' => ∃ L1, L' = p' :: q' :: L1 ∧ ∃ A m c, v = .slice A m c ∧ (publicK ks nm).2 = 0 ∧ Bytes M' A m c (publicK ks nm).1 ∧ L1 = nmL c2 nm :: psL c1 sp :: dL d r S (stL sp d n mp :: mpL mp ks :: (E ++ R)))
   (fun ch M' L' => ∃ L1, L' = p' :: q' :: L1 ∧ ∃ e, ((publicK ks nm).2 ≠ 0 ∧ e = (publicK ks nm).2 ∧ (publicK ks nm).1 = [] ∧ L1 = nmL c2 nm :: psL c1 sp :: dL d r S (stL sp d n mp :: mpL mp ks :: (E ++ R))) ∧ ch = swrong e) := by
 obtain ⟨pb, po⟩ := p'
 obtain ⟨qb, qo⟩ := q'
 refine zfn Tryz.func65 rfl 24 rfl <| zr <| as0 rfl <| zq <| zr <| tLd rfl rfl <| tLd rfl rfl <| tl_e rfl (e_call rfl (sof_spec (nm := nm) (ks := ks)) (by
  rintro _ _ _ _ ⟨rfl, rfl, hf, rfl⟩
  have e : publicK ks nm = ([], 11) := by rw [publicK, hf]
  exact .retA rfl lR ⟨_, rfl, 11, ⟨by rw [e]; simp, by rw [e], by rw [e], rfl⟩, rfl⟩) ?_)
 rintro _ _ _ _ ⟨rfl, rfl, q, hf, rfl⟩
 have hpk : publicK ks nm = (hpubV q.1.h.l q.1.h.sn.length q.1.h.ss.length q.1.h.sn q.1.h.ss, canE q.1.h.l q.1.h.sn.length q.1.h.ss.length) := by rw [publicK, hf]
 obtain ⟨B0, E0, hkb, hperm, -⟩ := hE.pick hf
 obtain ⟨c, p, x, y, z, HA, A0, hl, hc, l0, c0, rfl, w1, w2, w3, w4, w5⟩ := hkb.ex
 refine .to (E ++ ((pb, po) :: (qb, qo) :: nmL c2 nm :: psL c1 sp :: dL d r S (stL sp d n mp :: mpL mp ks :: R))) iI <| .to (kyL q.2 x y z c :: cL c q.1.x HA hl hc p :: sL p d q.1.s A0 l0 c0 :: (E0 ++ ((pb, po) :: (qb, qo) :: nmL c2 nm :: psL c1 sp :: dL d r S (stL sp d n mp :: mpL mp ks :: R)))) ⟨hperm.append_right _⟩ <| asP rfl <| zq <| .s1 3 rfl <| x_seq ?_
 have he : Le M M := Le.refl _
 refine x_draw0 14 (kyL q.2 x y z c :: []) Keeps.mem hmix rfl <| pmP 0 rfl rfl <| zp 1 rfl rfl (y_nilCheck rfl) <| pFa 2 rfl rfl <| pLd 3 rfl rfl rfl <| pmP 4 rfl rfl <| zp 5 rfl rfl (y_nilCheck rfl) <| pFa 6 rfl rfl <| zy 7 rfl rfl (y_lg rfl rfl) <| ze 8 rfl rfl <| e_call' rfl (Public_hspec hg w1 w2 w3) ?_
 rintro _ M3 _ hM3 ⟨rfl, A3, m3, k3, rfl, hb3⟩
 replace he := he.trans hM3
 rw [← w2.size, ← w3.size] at hb3
 rw [← w2.size, ← w3.size]
 have hsz : canE q.1.h.l q.1.h.sn.length q.1.h.ss.length = (publicK ks nm).2 := by rw [hpk]
 have hsv : hpubV q.1.h.l q.1.h.sn.length q.1.h.ss.length q.1.h.sn q.1.h.ss = (publicK ks nm).1 := by rw [hpk]
 rw [hsz]
 rw [hsv] at hb3
 refine ⟨⟨he, Keeps.mem⟩, ?_⟩
 refine pmU 9 rfl rfl <| zp 10 rfl rfl (y_extract rfl) <| zp 11 rfl rfl (y_extract rfl) <| paS 12 rfl rfl <| paI 13 rfl rfl <| zz <| .then_normal <| .to (E ++ ((pb, po) :: (qb, qo) :: nmL c2 nm :: psL c1 sp :: dL d r S (stL sp d n mp :: mpL mp ks :: R))) ⟨(hperm.append_right _).symm⟩ <| .s2 4 5 rfl rfl <| zr <| mvI rfl ?_
 refine tl_e rfl (e_call rfl (swell_spec _) (by
  rintro _ _ _ _ ⟨rfl, rfl, hno, rfl⟩
  refine TP.dropTo ((pb, po) :: (qb, qo) :: nmL c2 nm :: psL c1 sp :: dL d r S (stL sp d n mp :: mpL mp ks :: (E ++ R))) iI (.retA rfl he ⟨_, rfl, _, ⟨hno, rfl, ?_, rfl⟩, rfl⟩)
  rw [hpk] at hno ⊢
  exact if_neg hno) ?_)
 rintro _ _ _ _ ⟨rfl, rfl, he0⟩
 refine zq <| zr <| mvS rfl <| asS rfl <| zq <| .s1 2 rfl <| x_ret (.to ((pb, po) :: (qb, qo) :: nmL c2 nm :: psL c1 sp :: dL d r S (stL sp d n mp :: mpL mp ks :: (E ++ R))) iI (ret1 rfl rfl he ⟨_, rfl, A3, m3, k3, rfl, he0, hb3, rfl⟩))
theorem sPublic_spec (hg : LmG M) {ks : List (KeyS × Nat)} {E : Own} (hE : KeysAt M d ks E) :
  Con Tryz.prog 24 #[.pointer (some ⟨sp, 0, none⟩), .string (sB nm)] G M (dL d r S (stL sp d n mp :: mpL mp ks :: (E ++ R)))
   (fun v M' L' => L' = dL d r S (stL sp d n mp :: mpL mp ks :: (E ++ R)) ∧ ∃ A m c, v = .tuple #[.slice A m c, .int .i64 (publicK ks nm).2] ∧ Bytes M' A m c (publicK ks nm).1) noPanic := by
 refine zfn Tryz.func24 rfl 10 rfl <| zr <| tl_e rfl <| e_box rfl <| fun b1 => tl_e rfl <| e_box rfl <| fun b2 => as0 rfl <| as0 rfl <| zq <| .s2 2 3 rfl rfl <| zr <| tl_y rfl (y_makeFunc rfl rfl) <| zca rfl (caughtSB_spec (K := fun A m c M' L1 => (publicK ks nm).2 = 0 ∧ Bytes M' A m c (publicK ks nm).1 ∧ L1 = nmL b2 nm :: psL b1 sp :: dL d r S (stL sp d n mp :: mpL mp ks :: (E ++ R))) (Kp := fun e M' L1 => (publicK ks nm).2 ≠ 0 ∧ e = (publicK ks nm).2 ∧ (publicK ks nm).1 = [] ∧ L1 = nmL b2 nm :: psL b1 sp :: dL d r S (stL sp d n mp :: mpL mp ks :: (E ++ R))) (first := []) (cap := [.pointer (some ⟨b1, 0, none⟩), .pointer (some ⟨b2, 0, none⟩)]) (fun p' q' => sPublic1_spec hg hE)) ?_
 rintro v M1 L1 hM1 hv
 obtain ⟨A, m, c, rfl, k1, rfl⟩ : ∃ A m c, v = .tuple #[.slice A m c, .int .i64 (publicK ks nm).2] ∧ Bytes M1 A m c (publicK ks nm).1 ∧ L1 = nmL b2 nm :: psL b1 sp :: dL d r S (stL sp d n mp :: mpL mp ks :: (E ++ R)) := by
  rcases hv with ⟨A, m, c, rfl, h0, h1, rfl⟩ | ⟨e, rfl, h0, rfl, h1, rfl⟩
  ·
   exact ⟨A, m, c, by rw [h0], h1, rfl⟩
  exact ⟨none, 0, 0, rfl, by rw [h1]; exact Row.nil _ _, rfl⟩
 refine zx rfl <| zx rfl <| asS rfl <| asI rfl <| zq <| .s2 4 5 rfl rfl <| x_ret (.dropTo (dL d r S (stL sp d n mp :: mpL mp ks :: (E ++ R))) iI (ret2 rfl rfl rfl hM1 ⟨rfl, A, m, c, rfl, k1⟩))
end
abbrev blt (a b : List UInt8) : Bool := Op.bytesLess a b
theorem blt_nil (x : List UInt8) : blt x [] = false := by cases x <;> rfl
theorem blt_cons (a b : UInt8) (x y : List UInt8) : blt (a :: x) (b :: y) = if a.toNat < b.toNat then true else if b.toNat < a.toNat then false else blt x y := by
 show Op.bytesLess (a :: x) (b :: y) = _
 rw [Op.bytesLess]
 have e1 : a < b ↔ a.toNat < b.toNat := UInt8.lt_iff_toNat_lt
 by_cases h1 : a.toNat < b.toNat
 ·
  rw [if_pos h1, decide_eq_true (e1.2 h1)]; rfl
 rw [if_neg h1, decide_eq_false (fun h => h1 (e1.1 h))]
 by_cases h2 : b.toNat < a.toNat
 ·
  have hne : (a == b) = false := by
   rw [beq_eq_false_iff_ne]; intro h; rw [h] at h2; omega
  rw [if_pos h2, hne]; rfl
 have heq : a = b := UInt8.toNat_inj.1 (by omega)
 rw [if_neg h2, heq]; simp
theorem blt_asym : ∀ {x y : List UInt8}, blt x y = true → blt y x = false
 | [], [], h => rfl
 | [], b :: y, h => rfl
 | a :: x, [], h => by cases h
 | a :: x, b :: y, h => by
  rw [blt_cons] at h ⊢
  by_cases h1 : a.toNat < b.toNat
  ·
   rw [if_neg (by omega), if_pos h1]
  rw [if_neg h1] at h
  by_cases h2 : b.toNat < a.toNat
  ·
   rw [if_pos h2] at h; cases h
  rw [if_neg h2] at h
  rw [if_neg h2, if_neg h1]; exact blt_asym h
theorem blt_trans : ∀ {x y z : List UInt8}, blt y x = false → blt z y = false → blt z x = false
 | [], y, z, _, _ => blt_nil z
 | a :: x, [], z, h, _ => by cases h
 | a :: x, b :: y, [], _, h => by cases h
 | a :: x, b :: y, c :: z, h1, h2 => by
  rw [blt_cons] at h1 h2 ⊢
  by_cases k1 : b.toNat < a.toNat
  ·
   rw [if_pos k1] at h1; cases h1
  rw [if_neg k1] at h1
  by_cases k2 : c.toNat < b.toNat
  ·
   rw [if_pos k2] at h2; cases h2
  rw [if_neg k2] at h2
  rw [if_neg (by omega)]
  by_cases k3 : a.toNat < c.toNat
  ·
   rw [if_pos k3]
  rw [if_neg k3]
  rw [if_neg (by omega)] at h1 h2
  exact blt_trans h1 h2
theorem blt_eq : ∀ {x y : List UInt8}, blt x y = false → blt y x = false → x = y
 | [], [], _, _ => rfl
 | [], b :: y, h, _ => by cases h
 | a :: x, [], _, h => by cases h
 | a :: x, b :: y, h1, h2 => by
  rw [blt_cons] at h1 h2
  by_cases k1 : a.toNat < b.toNat
  ·
   rw [if_pos k1] at h1; cases h1
  by_cases k2 : b.toNat < a.toNat
  ·
   rw [if_pos k2] at h2; cases h2
  rw [if_neg k1, if_neg k2] at h1
  rw [if_neg k2, if_neg k1] at h2
  rw [blt_eq h1 h2, show a = b from UInt8.toNat_inj.1 (by omega)]
theorem sB_toList (a : List UInt8) : (sB a).toList = a := by
 have h := toList_go (sB a) ((sB a).size - 0) 0 [] rfl
 exact h
section
variable {P : Program} {F : Fr} {M : Mem} {L : Own}
theorem y_lssStr {x y : Operand} {t t' ty : TypeId} {a b : List UInt8} (hx : ev F x = some (.string (sB a))) (hy : ev F y = some (.string (sB b))) : Yld P (.binOp .lss t x y t') ty F M L (.bool (blt a b)) := fun w ρ hs hρ => by
 have hr : (binOp .lss t (.string (sB a)) (.string (sB b))).run P w = .ok (.bool (blt a b)) w := by
  simp only [binOp, Op.stringOp, Sem.run_pure, sB_toList]
 simp only [execOp, hρ _ _ hx, hρ _ _ hy, Sem.run_bind, eqGuard_string, Result.andThen_ok, hr, Sem.run_pure]
end
section
variable {G : World} {M : Mem} {L : Own}
theorem isNaN_spec (a : List UInt8) : Con Tryz.prog 255 #[.string (sB a)] G M L (fun v M' L' => M = M' ∧ L = L' ∧ v = .bool false) noPanic := by
 refine zfn Tryz.func255 rfl 6 rfl <| zr <| as0 rfl <| zq <| zr <| mvT rfl <| mvT rfl <| tl_y rfl (y_neqStr rfl rfl) <| asB rfl <| zq <| .s1 2 rfl <| x_ret (ret1 rfl rfl lR ⟨rfl, rfl, by simp⟩)
theorem cmpLess_spec (a b : List UInt8) : Con Tryz.prog 208 #[.string (sB a), .string (sB b)] G M L (fun v M' L' => M = M' ∧ L = L' ∧ v = .bool (blt a b)) noPanic := by
 refine zfn Tryz.func208 rfl 17 rfl <| zr <| as0 rfl <| zq <| zr <| mvT rfl <| zca rfl (isNaN_spec a) ?_
 rintro _ _ _ _ ⟨rfl, rfl, rfl⟩
 refine mvB rfl <| tl_set (s := 7) (u := .bool false) rfl (rfl) <| sk3 rfl rfl rfl <| tPf rfl rfl <| mvB rfl <| mvT rfl <| mvT rfl <| tl_y rfl (y_lssStr rfl rfl) <| tPf rfl rfl <| asB rfl <| zq <| .s1 4 rfl <| x_ret (ret1 rfl rfl lR ⟨rfl, rfl, rfl⟩)
end
abbrev nth (ns : List (List UInt8)) (i : Nat) : List UInt8 := ns.getD i []
def swp (ns : List (List UInt8)) (i : Nat) : List (List UInt8) := (ns.set (i + 1) (nth ns i)).set i (nth ns (i + 1))
theorem swp_len (ns : List (List UInt8)) (i : Nat) : (swp ns i).length = ns.length := by simp [swp]
theorem swp_perm : ∀ (ns : List (List UInt8)) (i : Nat), i + 1 < ns.length → (swp ns i).Perm ns
 | [], i, h => by simp at h
 | [a], i, h => by simp at h
 | a :: b :: t, 0, h => List.Perm.swap _ _ _
 | a :: b :: t, i + 1, h => by
  have ih := swp_perm (b :: t) i (by simpa using h)
  exact List.Perm.cons a ih
theorem swp_nth {ns : List (List UInt8)} {i : Nat} (h : i + 1 < ns.length) (x : Nat) : nth (swp ns i) x = if x = i then nth ns (i + 1) else if x = i + 1 then nth ns i else nth ns x := by
 simp only [nth, swp, List.getD_eq_getElem?_getD, List.getElem?_set, List.length_set]
 by_cases h1 : i = x
 ·
  subst h1
  rw [if_pos rfl, if_pos rfl, if_pos (by omega)]; rfl
 rw [if_neg h1, if_neg (show ¬ x = i by omega)]
 by_cases h2 : i + 1 = x
 ·
  subst h2
  rw [if_pos rfl, if_pos rfl, if_pos (by omega)]; rfl
 rw [if_neg h2, if_neg (show ¬ x = i + 1 by omega)]
def srt (ns : List (List UInt8)) (i : Nat) : Prop := ∀ x y, x < y → y < i → blt (nth ns y) (nth ns x) = false
def mid (ns : List (List UInt8)) (i j : Nat) : Prop := ∀ x y, x < y → y < i + 1 → y ≠ j → blt (nth ns y) (nth ns x) = false
theorem srt_mid {ns : List (List UInt8)} {i : Nat} (h : srt ns i) : mid ns i i := fun x y h1 h2 h3 => h x y h1 (by omega)
theorem mid_srt {ns : List (List UInt8)} {i j : Nat} (h : mid ns i j) (hj : j ≤ i) (h0 : j = 0 ∨ blt (nth ns j) (nth ns (j - 1)) = false) : srt ns (i + 1) := fun x y h1 h2 => by
 by_cases e : y = j
 ·
  subst e
  rcases h0 with h0 | h0
  ·
   omega
  by_cases e2 : x = y - 1
  ·
   rw [e2]; exact h0
  exact blt_trans (h x (y - 1) (by omega) (by omega) (by omega)) h0
 exact h x y h1 h2 e
theorem mid_swp {ns : List (List UInt8)} {i j : Nat} (h : mid ns i (j + 1)) (hj : j + 1 ≤ i) (hi : i < ns.length) (hl : blt (nth ns (j + 1)) (nth ns j) = true) : mid (swp ns j) i j := fun x y h1 h2 h3 => by
 rw [swp_nth (by omega) y, swp_nth (by omega) x, if_neg h3]
 by_cases e : y = j + 1
 ·
  rw [if_pos e]
  by_cases e2 : x = j
  ·
   rw [if_pos e2]; exact blt_asym hl
  rw [if_neg e2, if_neg (by omega)]; exact h x j (by omega) (by omega) (by omega)
 rw [if_neg e]
 by_cases e2 : x = j
 ·
  rw [if_pos e2]; exact h (j + 1) y (by omega) h2 e
 rw [if_neg e2]
 by_cases e3 : x = j + 1
 ·
  rw [if_pos e3]; exact h j y (by omega) h2 e
 rw [if_neg e3]; exact h x y h1 h2 e
def strR (ns : List (List UInt8)) : List Value := ns.map fun n => .string (sB n)
theorem strR_len (ns : List (List UInt8)) : (strR ns).length = ns.length := by simp [strR]
theorem strR_get {ns : List (List UInt8)} {i : Nat} (h : i < ns.length) : (strR ns)[i]? = some (.string (sB (nth ns i))) := by
 rw [strR, List.getElem?_map, List.getElem?_eq_getElem h, nth, List.getD_eq_getElem?_getD, List.getElem?_eq_getElem h]; rfl
theorem strR_set (ns : List (List UInt8)) (i : Nat) (a : List UInt8) : (strR ns).set i (.string (sB a)) = strR (ns.set i a) := by simp [strR, List.map_set]
section
variable {G : World} {M : Mem} {L : Own}
theorem isort_spec {A : Option Addr} {n c : Nat} {ns : List (List UInt8)} {E : Own} (hE : OwnRow 9 1 A n c (strR ns) E) (hn : 1 ≤ n) (hn2 : n ≤ 1000) :
  Con Tryz.prog 202 #[.slice A n c, .int .i64 0, .int .i64 n] G M (E ++ L) (fun v M' L' => M = M' ∧ ∃ ns' E', L' = E' ++ L ∧ OwnRow 9 1 A n c (strR ns') E' ∧ ns'.Perm ns ∧ srt ns' n) noPanic := by
 have hmx := hE.max
 have hle := hE.le
 have hvl : ns.length = n := by have := hE.len; simp [strR] at this; omega
 obtain ⟨g, pre, slack, rfl, rfl⟩ := hE.pos (by omega)
 refine zfn Tryz.func202 rfl 49 rfl <| zr <| mvI rfl <| tl_y rfl (y_addI rfl rfl (by omega)) ?_
 rw [show (0 : Int) + 1 = ((1 : Nat) : Int) from rfl]
 refine asI rfl <| zq <| x_block ?_
 refine x_loop (I := fun m' F D M1 L1 => ∃ (i : Nat) (ws : List (List UInt8)), m' = n - i ∧ 1 ≤ i ∧ i ≤ n ∧ ws.length = n ∧ ws.Perm ns ∧ srt ws i ∧ OwnRow 9 1 (some ⟨g, pre.length, none⟩) n c (strR ws) [(g, .cells (pre ++ (strR ws ++ slack)).toArray 9 (0, 0))] ∧ D = [] ∧ M = M1 ∧ L1 = (g, .cells (pre ++ (strR ws ++ slack)).toArray 9 (0, 0)) :: L ∧ F = [(0, .slice (some ⟨g, pre.length, none⟩) n c), (1, .int .i64 0), (2, .int .i64 n), (6, .int .i64 i)]) (n - 1) (F0 := [(0, _), (1, _), (2, _), (6, _)]) ?_ (cs4 rfl rfl rfl rfl) ?_
 ·
  exact ⟨1, ns, by omega, by omega, by omega, hvl, List.Perm.refl _, fun x y h1 h2 => by omega, hE, rfl, rfl, rfl, rfl⟩
 rintro m _ _ _ _ ⟨i, ws, rfl, hi1, hi, hwl, hwp, hws, hW, rfl, rfl, rfl, rfl⟩
 refine zr2 <| mvI rfl <| mvI rfl <| tl_y rfl (y_lss rfl rfl) <| zq <| x_cond rfl (fun hc1 => ?_) (fun hc1 => ?_)
 ·
  have hin : i < n := by omega
  refine x_skip <| .then_normal <| x_seq <| x_block <| zr <| mvI rfl <| asI rfl <| zq <| .s5 0 1 2 6 7 rfl rfl rfl rfl rfl <| x_block ?_
  refine x_loop (I := fun m' F D M1 L1 => ∃ (j : Nat) (us : List (List UInt8)), m' = j + i - i ∧ j ≤ i ∧ us.length = n ∧ us.Perm ns ∧ mid us i j ∧ OwnRow 9 1 (some ⟨g, pre.length, none⟩) n c (strR us) [(g, .cells (pre ++ (strR us ++ slack)).toArray 9 (0, 0))] ∧ D = [] ∧ M = M1 ∧ L1 = (g, .cells (pre ++ (strR us ++ slack)).toArray 9 (0, 0)) :: L ∧ F = [(0, .slice (some ⟨g, pre.length, none⟩) n c), (1, .int .i64 0), (2, .int .i64 n), (6, .int .i64 i), (7, .int .i64 j)]) (i) (F0 := [(0, _), (1, _), (2, _), (6, _), (7, _)]) ?_ (cs5 rfl rfl rfl rfl rfl) ?_
  ·
   exact ⟨i, ws, by omega, by omega, hwl, hwp, srt_mid hws, hW, rfl, rfl, rfl, rfl⟩
  rintro m _ _ _ _ ⟨j, us, rfl, hj, hul, hup, hum, hU, rfl, rfl, rfl, rfl⟩
  refine x_seq <| x_seq ?_
  obtain ⟨g', o', hgo, hcu⟩ := hU.cellIn (M := M) (L := [(g, .cells (pre ++ (strR us ++ slack)).toArray 9 (0, 0))] ++ L) iI (by rw [strR_len]; omega)
  obtain ⟨rfl, rfl⟩ : g = g' ∧ pre.length = o' := by simpa using hgo
  have hc := fun (x : Nat) (hx : x < n) => hcu x _ (strR_get (ns := us) (i := x) (by omega))
  have hsl := strR_len us
  refine x_draw 15 hmix rfl <| pmI 0 rfl rfl <| pmI 1 rfl rfl <| zp 2 rfl rfl (y_gtr rfl rfl) <| pmB 3 rfl rfl <| to_casesb (s := 19) rfl (fun hk1 => ?_) (fun hk1 => ?_)
  ·
   have hj1 : 1 ≤ j := by
    have : (0 : Int) < (j : Int) := by simpa using hk1
    omega
   obtain ⟨k, rfl⟩ : ∃ k, j = k + 1 := ⟨j - 1, by omega⟩
   refine pmS 4 rfl rfl <| pmI 5 rfl rfl <| zp 6 rfl rfl (y_indexAddr rfl rfl (by omega)) <| zy 7 rfl rfl (y_load rfl rfl (.at_ (hc (k + 1) (by omega)) (by omega))) <| pmS 8 rfl rfl <| pmI 9 rfl rfl <| zp 10 rfl rfl (y_subI rfl rfl (by omega)) ?_
   rw [show ((k + 1 : Nat) : Int) - 1 = (k : Int) by omega]
   refine zp 11 rfl rfl (y_indexAddr rfl rfl (by omega)) <| zy 12 rfl rfl (y_load rfl rfl (.at_ (hc k (by omega)) (by omega))) ?_
   refine ze 13 rfl rfl <| e_call' rfl (cmpLess_spec (nth us (k + 1)) (nth us k)) ?_
   rintro _ _ _ _ ⟨rfl, rfl, rfl⟩
   refine kp ?_
   refine zp 14 rfl rfl (y_pickT rfl rfl) <| zz <| .then_normal <| .s6 0 1 2 6 7 30 rfl rfl rfl rfl rfl rfl <| x_condb rfl (fun hc2 => ?_) (fun hc2 => ?_)
   ·
    have hlt : blt (nth us (k + 1)) (nth us k) = true := hc2
    have hW1 := hU.set (k + 1) (.string (sB (nth us k))) (by omega)
    rw [set_mid (by omega), strR_set] at hW1
    have hsl1 := strR_len (us.set (k + 1) (nth us k))
    have hsl2 : (us.set (k + 1) (nth us k)).length = n := by simp [hul]
    have hW2 := hW1.set k (.string (sB (nth us (k + 1)))) (by omega)
    rw [set_mid (by omega), strR_set] at hW2
    change OwnRow _ _ _ _ _ (strR (swp us k)) _ at hW2
    refine x_skip <| .then_normal <| x_seq <| x_block <| x_draw 15 hmix rfl <| pmS 0 rfl rfl <| pmI 1 rfl rfl <| pmS 2 rfl rfl <| pmI 3 rfl rfl <| zp 4 rfl rfl (y_subI rfl rfl (by omega)) ?_
    rw [show ((k + 1 : Nat) : Int) - 1 = (k : Int) by omega]
    refine pmS 5 rfl rfl <| pmI 6 rfl rfl <| zp 7 rfl rfl (y_subI rfl rfl (by omega)) ?_
    rw [show ((k + 1 : Nat) : Int) - 1 = (k : Int) by omega]
    refine zp 8 rfl rfl (y_indexAddr rfl rfl (by omega)) <| zy 9 rfl rfl (y_load rfl rfl (.at_ (hc k (by omega)) (by omega))) <| pmS 10 rfl rfl <| pmI 11 rfl rfl <| zp 12 rfl rfl (y_indexAddr rfl rfl (by omega)) <| zy 13 rfl rfl (y_load rfl rfl (.at_ (hc (k + 1) (by omega)) (by omega))) <| zp 14 rfl rfl (y_indexAddr rfl rfl (by omega)) <| zt 15 rfl rfl <| e_storeAt (c := pre ++ (strR us ++ slack)) rfl rfl rfl iI (by rw [List.length_append, List.length_append, hsl]; omega) iI ?_
    rw [show pre.length + ((k + 1 : Nat) : Int).toNat * 1 = pre.length + (k + 1) by omega, set_mid (by omega), strR_set]
    refine zp 16 rfl rfl (y_indexAddr rfl rfl (by omega)) <| zt 17 rfl rfl <| e_storeAt (c := pre ++ (strR (us.set (k + 1) (nth us k)) ++ slack)) rfl rfl rfl iI (by rw [List.length_append, List.length_append, hsl1, hsl2]; omega) iI ?_
    rw [show pre.length + ((k : Nat) : Int).toNat * 1 = pre.length + k by omega, set_mid (by omega), strR_set]
    refine zz <| .block_normal <| .then_normal <| .s5 0 1 2 6 7 rfl rfl rfl rfl rfl <| x_region <| mvI rfl <| tl_y rfl (y_subI rfl rfl (by omega)) ?_
    rw [show ((k + 1 : Nat) : Int) - 1 = (k : Int) by omega]
    refine asI rfl <| tl_nil <| .loop_next (m' := k + i - i) (by omega) (F' := [(0, _), (1, _), (2, _), (6, _), (7, _)]) (cs5 rfl rfl rfl rfl rfl) ?_
    exact ⟨k, swp us k, by omega, by omega, by rw [swp_len]; exact hul, (swp_perm us k (by omega)).trans hup, mid_swp hum hj (by omega) hlt, hW2, rfl, rfl, rfl, by simp⟩
   refine x_exit <| .then_exit <| .loop_exit <| .block_exit <| .block_normal <| .then_normal <| x_region <| mvI rfl <| tl_y rfl (y_addI rfl rfl (by omega)) <| asI rfl <| tl_nil <| .loop_next (m' := n - (i + 1)) (by omega) (F' := [(0, _), (1, _), (2, _), (6, _)]) (cs4 rfl rfl rfl rfl) ?_
   exact ⟨i + 1, us, by omega, by omega, by omega, hul, hup, mid_srt hum hj (.inr hc2), hU, rfl, rfl, rfl, rfl⟩
  refine zs 4 rfl rfl <| zs 5 rfl rfl <| zs 6 rfl rfl <| zs 7 rfl rfl <| zs 8 rfl rfl <| zs 9 rfl rfl <| zs 10 rfl rfl <| zs 11 rfl rfl <| zs 12 rfl rfl <| zs 13 rfl rfl ?_
  refine zp 14 rfl rfl (y_pickF rfl rfl) <| zz <| .then_normal <| .s6 0 1 2 6 7 30 rfl rfl rfl rfl rfl rfl <| x_false rfl rfl <| x_exit <| .then_exit <| .loop_exit <| .block_exit <| .block_normal <| .then_normal <| x_region <| mvI rfl <| tl_y rfl (y_addI rfl rfl (by omega)) <| asI rfl <| tl_nil <| .loop_next (m' := n - (i + 1)) (by omega) (F' := [(0, _), (1, _), (2, _), (6, _)]) (cs4 rfl rfl rfl rfl) ?_
  exact ⟨i + 1, us, by omega, by omega, by omega, hul, hup, mid_srt hum hj (.inl (by
   have : ¬ (0 : Int) < (j : Int) := by simpa using hk1
   omega)), hU, rfl, rfl, rfl, rfl⟩
 refine x_exit (.then_exit (.loop_exit (.block_exit (end0 rfl lR ⟨rfl, ws, _, rfl, hW, hwp, by
  obtain rfl : i = n := by omega
  exact hws⟩))))
end
section
variable {G : World} {M : Mem} {L : Own}
theorem pdq_spec {A : Option Addr} {n c : Nat} {ns : List (List UInt8)} {E : Own} (hE : OwnRow 9 1 A n c (strR ns) E) (hn : 1 ≤ n) (hn2 : n ≤ 12) (z : Nat) :
  Con Tryz.prog 159 #[.slice A n c, .int .i64 0, .int .i64 n, .int .i64 z] G M (E ++ L) (fun v M' L' => M = M' ∧ ∃ ns' E', L' = E' ++ L ∧ OwnRow 9 1 A n c (strR ns') E' ∧ ns'.Perm ns ∧ srt ns' n) noPanic := by
 refine zfn Tryz.func159 rfl 134 rfl <| zr <| as0 rfl <| zq <| zr <| as0 rfl <| zq <| x_block ?_
 refine x_loop (I := fun m' F D M1 L1 => m' = 0 ∧ D = [] ∧ M = M1 ∧ E ++ L = L1 ∧ F = [(0, .slice A n c), (1, .int .i64 0), (2, .int .i64 n), (3, .int .i64 z), (8, .bool true), (9, .bool true)]) (0) (F0 := [(0, _), (1, _), (2, _), (3, _), (8, _), (9, _)]) ?_ (cs6 rfl rfl rfl rfl rfl rfl) ?_
 ·
  exact ⟨rfl, rfl, rfl, rfl, rfl⟩
 rintro m _ _ _ _ ⟨rfl, rfl, rfl, rfl, rfl⟩
 refine x_block <| zr <| mvI rfl <| mvI rfl <| tl_y rfl (y_subI rfl rfl (by omega)) <| asI rfl <| zq <| zr2 <| mvI rfl <| tl_y rfl (y_leq rfl rfl) <| zq <| .s8 0 1 2 3 8 9 10 23 rfl rfl rfl rfl rfl rfl rfl rfl <| x_true rfl (by rw [decide_eq_true]; omega) <| zr <| mvS rfl <| mvI rfl <| mvI rfl ?_
 refine zca rfl (isort_spec hE hn (by omega)) ?_
 rintro _ _ _ _ ⟨rfl, ns', E', rfl, h1, h2, h3⟩
 refine zq <| .s6 0 1 2 3 8 9 rfl rfl rfl rfl rfl rfl <| x_ret (.then_ret (.block_ret (.loop_ret (.block_ret (ret0 rfl lR ⟨rfl, ns', E', rfl, h1, h2, h3⟩)))))
theorem sort_spec {A : Option Addr} {n c : Nat} {ns : List (List UInt8)} {E : Own} (hE : OwnRow 9 1 A n c (strR ns) E) (hn : 1 ≤ n) (hn2 : n ≤ 12) :
  Con Tryz.prog 109 #[.slice A n c] G M (E ++ L) (fun v M' L' => M = M' ∧ ∃ ns' E', L' = E' ++ L ∧ OwnRow 9 1 A n c (strR ns') E' ∧ ns'.Perm ns ∧ srt ns' n) noPanic := by
 refine zfn Tryz.func109 rfl 11 rfl <| zr <| mvS rfl <| tLen rfl <| asI rfl <| zq <| x_region <| mvS rfl <| mvI rfl <| mvI rfl <| tl_y rfl (y_convN64 rfl (by omega)) ?_
 refine zca rfl (len_spec n (by omega)) ?_
 rintro _ _ _ _ ⟨rfl, rfl, rfl⟩
 refine zca rfl (pdq_spec hE hn hn2 (lenT n)) ?_
 rintro _ _ _ _ ⟨rfl, ns', E', rfl, h1, h2, h3⟩
 refine tl_nil (end0 rfl lR ⟨rfl, ns', E', rfl, h1, h2, h3⟩)
end
def unseen (seen : List Nat) (l : List Nat) : Nat := l.countP fun i => decide (i ∉ seen)
theorem unseen_lt {seen : List Nat} {i : Nat} (hi : i ∉ seen) : ∀ l : List Nat, unseen (seen ++ [i]) l ≤ unseen seen l ∧ (i ∈ l → unseen (seen ++ [i]) l < unseen seen l)
  | [] => ⟨Nat.le_refl _, fun h => by cases h⟩
  | a :: l => by
    obtain ⟨h1, h2⟩ := unseen_lt hi l
    simp only [unseen, List.countP_cons] at h1 h2 ⊢
    by_cases e : a = i
    ·
      subst e
      rw [if_neg (by simp), if_pos (by simpa using hi)]
      exact ⟨by omega, fun _ => by omega⟩
    have e2 : decide (a ∉ seen ++ [i]) = decide (a ∉ seen) := by simp [e]
    rw [e2]
    refine ⟨by omega, fun h => ?_⟩
    have : i ∈ l := by rcases List.mem_cons.1 h with h | h; · exact absurd h.symm e
                       ·
                         exact h
    have := h2 this
    omega
theorem nodup_le : ∀ (n : Nat) (seen : List Nat), seen.Nodup → (∀ i ∈ seen, i < n) → seen.length ≤ n
 | 0, [], _, _ => Nat.le_refl _
 | 0, a :: s, _, h => by have := h a List.mem_cons_self; omega
 | n + 1, seen, hnd, h => by
  by_cases hm : n ∈ seen
  ·
   have h1 := nodup_le n (seen.erase n) (hnd.erase n) (fun i hi => by
    have h2 := (hnd.mem_erase_iff).1 hi
    have := h i h2.2
    have := h2.1
    omega)
   rw [List.length_erase_of_mem hm] at h1
   omega
  have := nodup_le n seen hnd (fun i hi => by
   have h1 := h i hi
   have : i ≠ n := fun e => hm (e ▸ hi)
   omega)
  omega
theorem seen_perm {n : Nat} {seen : List Nat} (hnd : seen.Nodup) (hlt : ∀ i ∈ seen, i < n) (hall : ∀ i, i < n → i ∈ seen) : seen.Perm (List.range n) := by
 rw [List.perm_iff_count]
 intro a
 by_cases h : a < n
 ·
  rw [hnd.count, List.nodup_range.count, if_pos (hall a h), if_pos (List.mem_range.2 h)]
 rw [hnd.count, List.nodup_range.count, if_neg (fun h' => h (hlt a h')), if_neg (fun h' => h (List.mem_range.1 h'))]
section
variable {G : World} {M : Mem} {L : Own}
abbrev mkL (x0 m : Nat) : Nat × Obj := (x0, .cells #[.map (some m)] 77 (0, 0))
theorem keys1_spec {l x0 m : Nat} {kvs : List (ByteArray × Value)} {X0 : Own} {Inv : List Nat → Mem → Own → Prop} {Dn : Mem → Own → Prop}
  (hy : ∀ seen i kv M1 X1, seen.Nodup → (∀ j ∈ seen, j < kvs.length) → i ∉ seen → kvs[i]? = some kv → Le M M1 → Inv seen M1 X1 → YCon Tryz.prog l [.string kv.1] G M1 X1 (Inv (seen ++ [i])) Dn) (h0 : Inv [] M X0) :
  Con Tryz.prog 110 #[.func (.yield l) #[] #[], .pointer (some ⟨x0, 0, none⟩)] G M (mkL x0 m :: (m, mapO kvs) :: X0)
   (fun v M' L' => ∃ X', L' = mkL x0 m :: (m, mapO kvs) :: X' ∧ ((∃ seen, (∀ i, i < kvs.length → i ∈ seen) ∧ seen.Nodup ∧ (∀ i ∈ seen, i < kvs.length) ∧ Inv seen M' X') ∨ Dn M' X')) noPanic := by
 refine zfn Tryz.func110 rfl 14 rfl <| zr <| tLd rfl rfl <| tl_e rfl <| e_range rfl iI <| fun b1 => zq <| x_block ?_
 refine x_loop (I := fun m' F D M1 L1 => ∃ (seen : List Nat) (X1 : Own), m' = unseen seen (List.range kvs.length) ∧ seen.Nodup ∧ (∀ i ∈ seen, i < kvs.length) ∧ Le M M1 ∧ Inv seen M1 X1 ∧ D = [] ∧ L1 = (b1, itO m kvs.length seen) :: mkL x0 m :: (m, mapO kvs) :: X1 ∧ F = [(0, .func (.yield l) #[] #[]), (5, .pointer (some ⟨b1, 0, none⟩))]) (unseen [] (List.range kvs.length)) (F0 := [(0, _), (5, _)]) ?_ (cs2 rfl rfl) ?_
 ·
  exact ⟨[], X0, rfl, List.nodup_nil, (fun i hi => by cases hi), Le.refl _, h0, rfl, rfl, rfl⟩
 rintro m _ _ M1 L1 ⟨seen, X1, rfl, hnd, hlt, hM1, hI, rfl, rfl, rfl⟩
 refine zr <| tl_e rfl (e_next rfl iI iI (fun hall => ?_) (fun i kv hi hkv => ⟨_, iI, ?_⟩))
 ·
  refine zx rfl <| zq <| x_seq <| x_false rfl rfl <| x_exit (.then_exit (.loop_exit (.block_exit (.dropTo (mkL x0 m :: (m, mapO kvs) :: X1) iI (end0 rfl hM1 ⟨X1, rfl, .inl ⟨seen, hall, hnd, hlt, hI⟩⟩)))))
 have hil : i < kvs.length := (List.getElem?_eq_some_iff.1 hkv).1
 have hmeas := (unseen_lt hi (List.range kvs.length)).2 (List.mem_range.2 hil)
 refine zx rfl <| zq <| x_seq <| x_true rfl (rfl) <| x_skip <| .then_normal <| x_block <| zr <| tl_y rfl (y_entry rfl iI iI hkv) <| zx rfl <| asT rfl <| zq <| .s3 0 3 5 rfl rfl rfl <| zr <| mvF rfl <| mvT rfl <| tl_e rfl <| e_yieldB (R := [(b1, itO m kvs.length (seen ++ [i])), mkL x0 m, (m, mapO kvs)]) (X := X1) rfl rfl (hy seen i kv M1 X1 hnd hlt hi hkv hM1 hI) <| fun b M2 X2 hM2 hb => ?_
 simp only [List.cons_append, List.nil_append]
 refine tl_y rfl (y_not rfl) <| zq <| .s3 0 5 13 rfl rfl rfl <| x_condb rfl (fun hc2 => ?_) (fun hc2 => ?_)
 ·
  refine x_ret (.block_ret (.loop_ret (.block_ret (.dropTo (mkL x0 m :: (m, mapO kvs) :: X2) iI (ret0 rfl (hM1.trans hM2) ⟨X2, rfl, by
   rcases hb with ⟨rfl, _⟩ | ⟨_, hb⟩
   ·
    simp at hc2
   exact .inr hb⟩)))))
 refine x_skip <| .block_normal <| .loop_next (m' := unseen (seen ++ [i]) (List.range kvs.length)) (by omega) (F' := [(0, _), (5, _)]) (cs2 rfl rfl) ?_
 exact ⟨seen ++ [i], X2, rfl, List.nodup_append.2 ⟨hnd, by simp, (fun a ha b hb => by rintro rfl; simp at hb; exact hi (hb ▸ ha))⟩, (fun j hj => by
  rcases List.mem_append.1 hj with h | h
  ·
   exact hlt j h
  ·
   simp at h; omega), hM1.trans hM2, (by
  rcases hb with ⟨_, hb⟩ | ⟨rfl, _⟩
  ·
   exact hb
  simp at hc2), rfl, rfl, rfl⟩
theorem keys_spec {m : Nat} : Con Tryz.prog 57 #[.map (some m)] G M L (fun v M' L' => M = M' ∧ ∃ x0, L' = mkL x0 m :: L ∧ v = .func (.func 110) #[] #[.pointer (some ⟨x0, 0, none⟩)]) noPanic := by
 refine zfn Tryz.func57 rfl 4 rfl <| zr <| tl_e rfl <| e_box rfl <| fun b1 => as0 rfl <| zq <| zr <| tl_y rfl (y_makeFunc rfl rfl) <| asF rfl <| zq <| x_ret (ret1 rfl rfl lR ⟨rfl, b1, rfl, rfl⟩)
end
section
variable {G : World} {M : Mem} {L : Own}
theorem appendSeq_spec {x0 m : Nat} {kvs : List (ByteArray × Value)} {names : List (List UInt8)} (hk : ∀ i kv, kvs[i]? = some kv → kv.1 = sB (nth names i)) (hkl : kvs.length = names.length) (hn : names.length ≤ 100) :
  Con Tryz.prog 158 #[.slice none 0 0, .func (.func 110) #[] #[.pointer (some ⟨x0, 0, none⟩)]] G M (mkL x0 m :: (m, mapO kvs) :: L)
   (fun v M' L' => Le M M' ∧ ∃ ns A c E, v = .slice A names.length c ∧ ns.Perm names ∧ OwnRow 9 1 A names.length c (strR ns) E ∧ L' = E ++ ((m, mapO kvs) :: L)) noPanic := by
 refine enterM (args := [_, _]) (fn := Tryz.f158) ⟨Tryz.func158, rfl, by kernel_rfl, by kernel_rfl⟩ 13 rfl <| zr <| tl_e rfl <| e_box rfl <| fun b1 => as0 rfl <| zq <| zr2 <| mvF rfl <| zq <| x_block <| x_rangeN rfl rfl <| fun l r0 fn tm lps las lbd hps has hbd htm => ?_
 obtain ⟨xs, hxs⟩ : ∃ xs : LoopState → Option Code → Option Addr → Nat → Nat → Own → Own, ∀ st pd A k c E, xs st pd A k c E = lrec l st pd fn tm lps las lbd r0 :: (r0, .deferred (some [])) :: (b1, .cells #[.slice A k c] 48 (0, 0)) :: (E ++ L) := ⟨_, fun _ _ _ _ _ _ => rfl⟩
 refine Con.postD (Con.to (mkL x0 m :: (m, mapO kvs) :: xs .ready none none 0 0 []) (by rw [hxs, List.nil_append]; infer_instance) (keys1_spec (Inv := fun seen M2 X2 => ∃ (A6 : Option Addr) (c6 : Nat) (E6 : Own), Le M M2 ∧ OwnRow 9 1 A6 seen.length c6 (strR (seen.map (nth names))) E6 ∧ X2 = xs .ready none A6 seen.length c6 E6) (Dn := fun _ _ => False) ?_ ⟨none, 0, [], Le.refl _, .nil, rfl⟩)) ?_
 ·
  rintro seen i kv M2 X2 hnd hlt hi hkv hM2 ⟨A6, c6, E6, hM12, hE6, rfl⟩
  rw [hxs, hk i kv hkv]
  have hsl := nodup_le _ _ hnd hlt
  subst hps
  subst has
  subst hbd
  refine ycon_body htm rfl (by kernel_rfl) <| fun R1 => ?_
  simp only [List.cons_append, List.append_assoc]
  refine x_region <| asT rfl <| .bring l iI <| tl_nil <| .asg (by kernel_rfl) <| x_block <| x_region <| tLd rfl rfl <| mvT rfl <| tl_e rfl <| e_buildSlice rfl (by decide) <| fun b8 => .pub b8 iI <| fun M5 hM5 hb8 => .bringE E6 iI <| tl_e rfl <| e_append (by decide) rfl rfl hE6 (.row (Row.whole (s := 1) hb8 rfl (by omega))) rfl (by omega) (by omega) <| fun A9 c9 E9 hE9 => ?_
  have hrr : strR (seen.map (nth names)) ++ [Value.string (sB (nth names i))] = strR ((seen ++ [i]).map (nth names)) := by simp [strR]
  have hll : seen.length + 1 = (seen ++ [i]).length := by simp
  rw [hrr, hll] at hE9
  rw [hll]
  refine tl_e rfl <| e_sT rfl rfl <| tl_nil (.block_normal (.on ((r0, .deferred (some [])) :: (b1, .cells #[.slice A9 (seen ++ [i]).length c9] 48 (0, 0)) :: (E9 ++ (L ++ R1))) iI iI
   (X := (r0, .deferred (some [])) :: (b1, .cells #[.slice A9 (seen ++ [i]).length c9] 48 (0, 0)) :: (E9 ++ L)) (by simp) hM5 ⟨A9, c9, E9, hM12.trans hM5, hE9, (hxs _ _ _ _ _ _).symm⟩))
 rintro v M4 L4 hM4 ⟨X', rfl, hX⟩
 rcases hX with ⟨seen, hall, hnd, hlt, A6, c6, E6, hM34, hE6, rfl⟩ | hX
 ·
  have hp := seen_perm hnd hlt hall
  have hsl : seen.length = names.length := by rw [hp.length_eq, List.length_range, hkl]
  rw [hsl] at hE6
  have hpn : (seen.map (nth names)).Perm names := by
   refine (hp.map _).trans ?_
   rw [hkl]
   have : (List.range names.length).map (nth names) = names := by
    apply List.ext_getElem?
    intro j
    rw [List.getElem?_map]
    by_cases hj : j < names.length
    ·
     rw [List.getElem?_range hj, List.getElem?_eq_getElem hj, Option.map_some]; show some (names.getD j []) = _; rw [List.getD_eq_getElem?_getD, List.getElem?_eq_getElem hj]; rfl
    rw [List.getElem?_eq_none (by simp; omega), List.getElem?_eq_none (by omega)]; rfl
   rw [this]
  refine ⟨lrec l .ready none fn tm lps las lbd r0 :: (r0, .deferred (some [])) :: (b1, .cells #[.slice A6 names.length c6] 48 (0, 0)) :: (E6 ++ ((m, mapO kvs) :: L)), by rw [hxs, hsl]; infer_instance, .ready, none, _, by simp, rfl, ?_⟩
  refine .block_normal <| .then_normal <| zr <| tLd rfl rfl <| asS rfl <| zq <| x_ret (.retM1 (r := r0) (L1 := E6 ++ ((m, mapO kvs) :: L)) iI (rv1 rfl (rc_tmp (by rfl))) iI hM34 ⟨hM34, _, A6, c6, E6, rfl, hpn, hE6, rfl⟩)
 exact hX.elim
theorem collect_spec {x0 m : Nat} {kvs : List (ByteArray × Value)} {names : List (List UInt8)} (hk : ∀ i kv, kvs[i]? = some kv → kv.1 = sB (nth names i)) (hkl : kvs.length = names.length) (hn : names.length ≤ 100) :
  Con Tryz.prog 108 #[.func (.func 110) #[] #[.pointer (some ⟨x0, 0, none⟩)]] G M (mkL x0 m :: (m, mapO kvs) :: L)
   (fun v M' L' => Le M M' ∧ ∃ ns A c E, v = .slice A names.length c ∧ ns.Perm names ∧ OwnRow 9 1 A names.length c (strR ns) E ∧ L' = E ++ ((m, mapO kvs) :: L)) noPanic := by
 refine zfn Tryz.func108 rfl 5 rfl <| zr <| as0 rfl <| zq <| zr <| mvF rfl <| zca rfl (appendSeq_spec hk hkl hn) ?_
 rintro _ M1 _ hM1 ⟨_, ns, A, c, E, rfl, h1, h2, rfl⟩
 refine asS rfl <| zq <| x_ret (ret1 rfl rfl hM1 ⟨hM1, ns, A, c, E, rfl, h1, h2, rfl⟩)
theorem sorted_spec {x0 m : Nat} {kvs : List (ByteArray × Value)} {names : List (List UInt8)} (hk : ∀ i kv, kvs[i]? = some kv → kv.1 = sB (nth names i)) (hkl : kvs.length = names.length) (h1 : 1 ≤ names.length) (hn : names.length ≤ 12) :
  Con Tryz.prog 56 #[.func (.func 110) #[] #[.pointer (some ⟨x0, 0, none⟩)]] G M (mkL x0 m :: (m, mapO kvs) :: L)
   (fun v M' L' => L' = (m, mapO kvs) :: L ∧ ∃ ns A c, v = .slice A names.length c ∧ ns.Perm names ∧ srt ns names.length ∧ Row M' 1 A names.length c (strR ns)) noPanic := by
 refine zfn Tryz.func56 rfl 9 rfl <| zr <| as0 rfl <| zq <| zr <| mvF rfl <| zca rfl (collect_spec hk hkl (by omega)) ?_
 rintro _ M1 _ hM1 ⟨_, ns, A, c, E, rfl, hp, hE, rfl⟩
 refine asS rfl <| zq <| .s1 3 rfl <| zr <| mvS rfl <| zca rfl (sort_spec hE h1 hn) ?_
 rintro _ _ _ _ ⟨rfl, ns', E', rfl, hE', hp', hs'⟩
 refine zq <| zr <| mvS rfl <| asS rfl <| zq <| .s1 2 rfl <| x_ret (.pubRow hE' fun M9 hM9 hr9 => ret1 rfl rfl (hM1.trans hM9) ⟨rfl, ns', A, c, rfl, hp'.trans hp, hs', hr9⟩)
theorem sNames_spec {sp d n mp : Nat} {S : DS} {r : DRep} {R : Own} {ks : List (KeyS × Nat)} (h1 : 1 ≤ ks.length) (hn : ks.length ≤ 12) :
  Con Tryz.prog 19 #[.pointer (some ⟨sp, 0, none⟩)] G M (dL d r S (stL sp d n mp :: mpL mp ks :: R))
   (fun v M' L' => L' = dL d r S (stL sp d n mp :: mpL mp ks :: R) ∧ ∃ ns A c, v = .slice A ks.length c ∧ ns.Perm (ks.map (·.1.h.name)) ∧ srt ns ks.length ∧ Row M' 1 A ks.length c (strR ns)) noPanic := by
 have hk : ∀ i kv, (kvsK ks)[i]? = some kv → kv.1 = sB (nth (ks.map (·.1.h.name)) i) := fun i kv hkv => by
  rw [kvsK, List.getElem?_map] at hkv
  cases hq : ks[i]? with
  | none => rw [hq] at hkv; cases hkv
  | some q =>
   rw [hq] at hkv
   obtain rfl := Option.some.inj hkv
   show sB q.1.h.name = sB ((ks.map (·.1.h.name)).getD i [])
   rw [List.getD_eq_getElem?_getD, List.getElem?_map, hq]; rfl
 have hl : (ks.map (·.1.h.name)).length = ks.length := by simp
 refine zfn Tryz.func19 rfl 9 rfl <| zr <| as0 rfl <| zq <| zr <| mvP rfl <| zc rfl <| tFa rfl <| tLd rfl rfl <| zca rfl keys_spec ?_
 rintro _ _ _ _ ⟨rfl, x0, rfl, rfl⟩
 refine zca rfl (Con.to (mkL x0 mp :: (mp, mapO (kvsK ks)) :: dL d r S (stL sp d n mp :: R)) iI (sorted_spec hk (by simp [kvsK]) (by rw [hl]; exact h1) (by rw [hl]; exact hn))) ?_
 rintro _ M1 _ hM1 ⟨rfl, ns, A, c, rfl, hp, hs, hr⟩
 rw [hl] at hs hr
 rw [hl]
 refine asS rfl <| zq <| .s1 2 rfl <| x_ret (.to (dL d r S (stL sp d n mp :: mpL mp ks :: R)) iI (ret1 rfl rfl hM1 ⟨rfl, ns, A, c, rfl, hp, hs, hr⟩))
end
structure Live (S : DS) (s : SS) (x : Cn) (head : List UInt8) : Prop where
 bears : Bears S s
 nz : s.num ≠ 0
 n : s.n = 8
 b : s.b = bytesC x head
 may : mayB x head.length = true
 next : x.next.toNat ≤ x.reserved.toNat
theorem mayB_iff {x : Cn} {l : Nat} : mayB x l = true ↔ (1 ≤ x.total.toNat ∧ x.total.toNat ≤ 1152921504606846976 ∧ 1 ≤ x.batch.toNat ∧ x.batch.toNat ≤ 65536 ∧ x.reserved.toNat ≤ x.total.toNat ∧ l ≤ 200) := by rw [mayB, decide_eq_true_eq]
theorem Live.take {S : DS} {s : SS} {x : Cn} {head : List UInt8} (h : Live S s x head) (hr : x.retired = false) (hnum : s.num.toNat < 9223372036854775808) (ht : x.next.toNat < x.total.toNat) :
  ∃ S' s' x', takeC S s x head = (((S', s'), x'), (x.next, 0)) ∧ Live S' s' x' head ∧ x'.next.toNat = x.next.toNat + 1 ∧ x'.total = x.total ∧ x'.batch = x.batch ∧ x'.retired = x.retired ∧ s'.first = s.first ∧ S'.sure.length = S.sure.length ∧
   ((x.next.toNat < x.reserved.toNat ∧ S' = S ∧ s' = s ∧ x'.reserved = x.reserved) ∨ (x.next.toNat = x.reserved.toNat ∧ s'.num.toNat = s.num.toNat + 1 ∧ x'.reserved.toNat = min x.total.toNat (x.reserved.toNat + x.batch.toNat))) := by
 obtain ⟨m1, m2, m3, m4, m5, m6⟩ := mayB_iff.1 h.may
 have hn := h.next
 have hne : x.next ≠ x.total := fun e => by rw [e] at ht; omega
 have hadd : ∀ u : UInt64, u.toNat < 9223372036854775808 → (u + 1).toNat = u.toNat + 1 := fun u hu => by rw [UInt64.toNat_add]; simp; omega
 by_cases he : x.next = x.reserved
 ·
  have hsum : (x.reserved + x.batch).toNat = x.reserved.toNat + x.batch.toNat := by rw [UInt64.toNat_add]; omega
  have hres : (moreC x).reserved.toNat = min x.total.toNat (x.reserved.toNat + x.batch.toNat) := by
   rw [moreC]; show (if _ then _ else _ : UInt64).toNat = _
   rw [hsum]; split <;> omega
  have hxr : x.next.toNat = x.reserved.toNat := by rw [he]
  have hmore : mayB (moreC x) head.length = true := mayB_iff.2 ⟨m1, m2, m3, m4, by rw [hres]; exact Nat.min_le_left _ _, m6⟩
  have hbl : (bytesC (moreC x) head).length + 28 ≤ 64 * s.n := by rw [bytesC_length, h.n]; omega
  have hne2 : moreC x ≠ x := fun e => by have := congrArg Cn.reserved e; rw [← UInt64.toNat_inj, hres] at this; omega
  have hsv := save_calm h.bears.calm h.bears.ok hbl
  have hcs : saveC S s x (moreC x) head = (((savedD S s (bytesC (moreC x) head), s.saved (bytesC (moreC x) head)), moreC x), 0) := by
   rw [saveC, if_neg hne2, if_neg (by simp [hmore]), hsv, if_neg (by simp)]
  have hnx : (x.next + 1).toNat = x.next.toNat + 1 := hadd _ (by omega)
  refine ⟨_, _, nextC' (moreC x), ?_, ⟨h.bears.save hbl (by omega), ?_, h.n, rfl, hmore, ?_⟩, hnx, rfl, rfl, rfl, rfl, setSecs_length _ _ _ _, .inr ⟨hxr, hadd _ hnum, hres⟩⟩
  ·
   rw [takeC, if_neg (by simp [hr]), if_neg hne, if_pos he, hcs, if_neg (by simp)]
   show (((_, _), nextC' (moreC x)), ((x.next + 1 - 1), _)) = _
   rw [UInt64.add_sub_cancel]
  ·
   show s.num + 1 ≠ 0
   intro e
   have := hadd s.num hnum
   rw [e] at this
   simp at this
  show (x.next + 1).toNat ≤ (moreC x).reserved.toNat
  rw [hnx, hres]; omega
 have hlt : x.next.toNat < x.reserved.toNat := by
  have : x.next.toNat ≠ x.reserved.toNat := fun e => he (UInt64.toNat_inj.1 e)
  omega
 have hnx : (x.next + 1).toNat = x.next.toNat + 1 := hadd _ (by omega)
 refine ⟨S, s, nextC' x, ?_, ⟨h.bears, h.nz, h.n, h.b, h.may, ?_⟩, hnx, rfl, rfl, rfl, rfl, rfl, .inl ⟨hlt, rfl, rfl, rfl⟩⟩
 ·
  rw [takeC, if_neg (by simp [hr]), if_neg hne, if_neg he]
  show (((S, s), nextC' x), ((x.next + 1 - 1), _)) = _
  rw [UInt64.add_sub_cancel]
 show (x.next + 1).toNat ≤ x.reserved.toNat
 omega
theorem Live.load {S : DS} {s t : SS} {x : Cn} {head : List UInt8} (h : Live S s x head) (hf : t.first = s.first) (hn : t.n = s.n) : loadRes S t = (s, 0) := by
 rw [h.bears.load h.nz hf hn]
 cases s; cases t; simp_all
structure LiveK (S : DS) (k : KeyS) (i : Nat) : Prop where
 bears : Bears S k.s
 nz : k.s.num ≠ 0
 n : k.s.n = 4
 first : k.s.first = 8 * i
 b : k.s.b = bytesC k.x k.head
 may : mayB k.x k.head.length = true
 next : k.x.next.toNat ≤ k.x.reserved.toNat
 good : mayK k.h.name.length k.h.l k.h.sn.length k.h.ss.length
 tot : k.x.total.toNat = totN k.h.l
structure FreeA (S : DS) (i : Nat) : Prop where
 calm : S.calm
 in_ : 8 * i + 8 ≤ S.sure.length
 z : ∀ j, j < 8 → S.sure.getD (8 * i + j) [] = zeros
theorem head_len {k : KeyS} (h : mayK k.h.name.length k.h.l k.h.sn.length k.h.ss.length) : k.head.length ≤ 130 := by
 obtain ⟨h1, h2, h3, h4, h5⟩ := mayK_facts h
 have h6 := h.2.1
 have h7 := headB_len k.h.name k.h.l k.h.sn k.h.ss
 show (headB k.h.name k.h.l k.h.sn k.h.ss).length ≤ 130
 omega
theorem Bears.other {S : DS} {s t : SS} (h : Bears S t) (ok : OkS S s) (hsn : s.n = 4) (htn : t.n = 4) {b : List UInt8} (hb : b.length + 28 ≤ 64 * s.n) (hd : t.first + 8 ≤ s.first ∨ s.first + 8 ≤ t.first) : Bears (savedD S s b) t := by
 have hc := calm_saved h.calm ok hb
 have hl : (savedD S s b).sure.length = S.sure.length := setSecs_length _ _ _ _
 have hin := h.ok.in_
 have hat := h.ok.at_
 have hto := to_le s
 have hsat := ok.at_
 have hq := Nat.mul_le_mul_right s.n (show s.to ≤ 1 by omega)
 have ho : ∀ a, t.first ≤ a → a ≤ t.first + 4 → areaB (savedD S s b) a t.n = areaB S a t.n := fun a h1 h2 => by
  have := area_other h.calm ok hb (a := a) (by omega) (by omega)
  rw [hsn] at this; rw [htn]; exact this
 refine ⟨hc, ⟨h.ok.n, by rw [hl]; exact h.ok.in_, h.ok.at_, h.ok.b⟩, fun h0 => ?_, fun h0 => ?_⟩
 ·
  rw [ho _ (by omega) (by omega), ho _ (by omega) (by omega)]; exact h.zero h0
 have e : t.at_ = 0 ∨ t.at_ = 1 := by omega
 have := h.own h0
 rcases e with e | e <;> rw [e] at this ⊢ <;> rw [ho _ (by omega) (by omega), ho _ (by omega) (by omega)] <;> exact this
theorem LiveK.other {S : DS} {s : SS} {k : KeyS} {i j : Nat} (h : LiveK S k i) (ok : OkS S s) (hsn : s.n = 4) (hsf : s.first = 8 * j) (hij : i ≠ j) {b : List UInt8} (hb : b.length + 28 ≤ 64 * s.n) : LiveK (savedD S s b) k i :=
 ⟨h.bears.other ok hsn h.n hb (by rw [h.first, hsf]; omega), h.nz, h.n, h.first, h.b, h.may, h.next, h.good, h.tot⟩
theorem FreeA.other {S : DS} {s : SS} {i j : Nat} (h : FreeA S i) (ok : OkS S s) (hsn : s.n = 4) (hsf : s.first = 8 * j) (hij : i ≠ j) {b : List UInt8} (hb : b.length + 28 ≤ 64 * s.n) : FreeA (savedD S s b) i := by
 have hin := ok.in_
 have hto := to_le s
 have hsat := ok.at_
 have hq := Nat.mul_le_mul_right s.n (show s.to ≤ 1 by omega)
 refine ⟨calm_saved h.calm ok hb, by rw [show (savedD S s b).sure.length = S.sure.length from setSecs_length _ _ _ _]; exact h.in_, fun x hx => ?_⟩
 show (setSecs S.sure _ _ s.n).getD _ [] = _
 rw [setSecs_get _ _ _ _ _ (by omega), if_neg (by omega)]
 exact h.z x hx
theorem FreeA.load {S : DS} {i : Nat} (h : FreeA S i) : loadRes S (sA i) = (sA i, 11) := by
 have hin := h.in_
 have z1 : areaB S (sA i).first (sA i).n = List.replicate 256 0 := area_zeros h.calm 4 (by show 8 * i + 4 ≤ _; omega) (fun j hj => h.z j (by omega))
 have z2 : areaB S ((sA i).first + (sA i).n) (sA i).n = List.replicate 256 0 := area_zeros h.calm 4 (by show 8 * i + 4 + 4 ≤ _; omega) (fun j hj => by
  have := h.z (4 + j) (by omega)
  rwa [← Nat.add_assoc] at this)
 rw [loadRes, if_neg (by simp [h.calm.down]), z1, z2, loaded, readRec_zeros, if_neg (by decide), if_neg (by decide), if_pos (.inl (by rw [isBlank, List.all_replicate]; rfl))]
 rfl
theorem FreeA.loadK {S : DS} {i : Nat} (h : FreeA S i) : loadK S i = (0, none) := by
 have e : (openC S (sA i)).2 = 11 := by rw [openC, h.load, if_pos (by simp)]
 rw [Go.Proofs.YtplkoemjffplcaaGreatDoor.loadK, if_pos e]
theorem FreeA.bears {S : DS} {i : Nat} (h : FreeA S i) : Bears S (sA i) := by
 have hin := h.in_
 have z1 : areaB S (sA i).first (sA i).n = List.replicate 256 0 := area_zeros h.calm 4 (by show 8 * i + 4 ≤ _; omega) (fun j hj => h.z j (by omega))
 have z2 : areaB S ((sA i).first + (sA i).n) (sA i).n = List.replicate 256 0 := area_zeros h.calm 4 (by show 8 * i + 4 + 4 ≤ _; omega) (fun j hj => by
  have := h.z (4 + j) (by omega)
  rwa [← Nat.add_assoc] at this)
 exact ⟨h.calm, okS0 (by omega) (by omega), fun _ => ⟨rfl, rfl, by rw [z1, readRec_zeros], by rw [z2, readRec_zeros]⟩, fun h0 => absurd rfl h0⟩
def KeyS.anew (k : KeyS) : KeyS := { k with x := { k.x with next := k.x.reserved } }
theorem LiveK.loadK {S : DS} {k : KeyS} {i : Nat} (h : LiveK S k i) : loadK S i = (0, some k.anew) := by
 have hl : loadRes S (sA i) = (k.s, 0) := by
  rw [h.bears.load h.nz (by rw [h.first]; rfl) (by rw [h.n]; rfl)]
  have h1 := h.n
  have h2 := h.first
  obtain ⟨kh, kx, ks⟩ := k
  obtain ⟨a, b, c, d, e⟩ := ks
  simp only at h1 h2
  subst h1 h2
  rfl
 have ho : openC S (sA i) = (({ k.x with next := k.x.reserved }, k.head), 0) := by
  rw [openC, hl, if_neg (by simp)]
  show readC k.s.b = _
  rw [h.b, readC_bytesC h.may]
 obtain ⟨p1, p2, p3, p4, p5⟩ := parse_headB h.good
 have hg : goodH k.head ∧ k.x.total.toNat = totN (lH k.head) := ⟨p1, by rw [show lH k.head = k.h.l from p3]; exact h.tot⟩
 rw [Go.Proofs.YtplkoemjffplcaaGreatDoor.loadK, ho, if_neg (by simp), if_neg (by simp), if_neg (by simp)]
 show (if goodH k.head ∧ k.x.total.toNat = totN (lH k.head) then _ else _) = _
 rw [if_pos hg, hl]
 show (0, some (⟨⟨nameH k.head, lH k.head, snH k.head, ssH k.head⟩, _, k.s⟩ : KeyS)) = _
 rw [show nameH k.head = k.h.name from p2, show lH k.head = k.h.l from p3, show snH k.head = k.h.sn from p4, show ssH k.head = k.h.ss from p5]
 rfl
theorem LiveK.anew {S : DS} {k : KeyS} {i : Nat} (h : LiveK S k i) : LiveK S k.anew i := ⟨h.bears, h.nz, h.n, h.first, h.b, h.may, Nat.le_refl _, h.good, h.tot⟩
end Go.Proofs.YtplkoemjffplcaaGreatDoor
