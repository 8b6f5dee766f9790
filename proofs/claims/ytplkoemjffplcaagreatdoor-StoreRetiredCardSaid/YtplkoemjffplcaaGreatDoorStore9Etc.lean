/-
Contracts of functions, each proved by a walk through its code.
-/
import Derived.Test.YtplkoemjffplcaaGreatDoorStore4Etc
import Derived.Test.YtplkoemjffplcaaGreatDoorHss4Etc
set_option linter.all false
namespace Go.Proofs.YtplkoemjffplcaaGreatDoor
open Go Go.Eng
def setP : List (KeyS × Nat) → KeyS × Nat → List (KeyS × Nat)
 | [], q => [q]
 | q0 :: r, q => if q0.1.h.name = q.1.h.name then q :: r else q0 :: setP r q
theorem mSet_kvs (q : KeyS × Nat) : ∀ ks : List (KeyS × Nat), mSet (kvsK ks) (sB q.1.h.name) (.pointer (some ⟨q.2, 0, none⟩)) = kvsK (setP ks q)
 | [] => rfl
 | q0 :: r => by
  have ih := mSet_kvs q r
  show (if sB q0.1.h.name = sB q.1.h.name then _ else _ :: mSet (kvsK r) _ _) = _
  by_cases e : q0.1.h.name = q.1.h.name
  ·
   rw [if_pos (sB_inj.2 e), setP, if_pos e]; rfl
  rw [if_neg (fun h => e (sB_inj.1 h)), setP, if_neg e, ih]; rfl
theorem KeysAt.set {M : Mem} {d : Nat} {ks : List (KeyS × Nat)} {E : Own} (h : KeysAt M d ks E) {k : KeyS} {kp : Nat} {B : Own} (hb : KBl M d k kp B) : ∃ E' K, KeysAt M d (setP ks (k, kp)) E' ∧ (B ++ E).Perm (K ++ E') := by
 induction h with
 | nil => exact ⟨B, [], .cons hb .nil (by simp), by simp⟩
 | @cons k0 kp0 ks B0 E0 E1 h1 h2 h3 ih =>
  by_cases e : k0.h.name = k.h.name
  ·
   refine ⟨B ++ E0, B0, ?_, (h3.append_left B).trans (perm_mid _ _ _)⟩
   rw [setP, if_pos e]; exact .cons hb h2 (List.Perm.refl _)
  obtain ⟨E', K, h4, h5⟩ := ih
  refine ⟨B0 ++ E', K, ?_, ((h3.append_left B).trans (perm_mid _ _ _)).trans ((h5.append_left B0).trans (perm_mid _ _ _))⟩
  rw [setP, if_neg e]; exact .cons h1 h4 (List.Perm.refl _)
theorem setP_map (q : KeyS × Nat) : ∀ ks : List (KeyS × Nat), findP ks q.1.h.name = none → setP ks q = ks ++ [q]
 | [], _ => rfl
 | q0 :: r, h => by
  by_cases e : q0.1.h.name = q.1.h.name
  ·
   simp [findP, e] at h
  rw [findP, if_neg e] at h
  rw [setP, if_neg e, setP_map q r h]; rfl
def createS (S : DS) (n : Nat) (h : KeyH) (batch : UInt64) : (DS × Option KeyS) × Int :=
 if ¬ (mayK h.name.length h.l h.sn.length h.ss.length ∧ 1 ≤ batch.toNat ∧ batch.toNat ≤ 65536) then ((S, none), 1) else
 if (freeS S h.name n).1 ≠ 0 then ((S, none), (freeS S h.name n).1) else
 if (newC S (sA (freeS S h.name n).2.toNat) (headB h.name h.l h.sn h.ss) (UInt64.ofNat (totN h.l)) batch).2 ≠ 0 then
  (((newC S (sA (freeS S h.name n).2.toNat) (headB h.name h.l h.sn h.ss) (UInt64.ofNat (totN h.l)) batch).1.1, none), (newC S (sA (freeS S h.name n).2.toNat) (headB h.name h.l h.sn h.ss) (UInt64.ofNat (totN h.l)) batch).2)
 else (((newC S (sA (freeS S h.name n).2.toNat) (headB h.name h.l h.sn h.ss) (UInt64.ofNat (totN h.l)) batch).1.1, some ⟨h, newX (UInt64.ofNat (totN h.l)) batch, (newC S (sA (freeS S h.name n).2.toNat) (headB h.name h.l h.sn h.ss) (UInt64.ofNat (totN h.l)) batch).1.2⟩), 0)
theorem freeS_at {S : DS} {nm : List UInt8} {n : Nat} (h : (freeS S nm n).1 = 0) : ∃ a : Nat, (freeS S nm n).2 = (a : Int) ∧ a < n := by
 unfold freeS at h ⊢
 split at h
 ·
  rename_i h1; exact absurd h h1
 rename_i h1
 rw [if_neg h1]
 split at h
 ·
  cases h
 rename_i h2
 rw [if_neg h2]
 have := freeGo_at (S := S) (nm := nm) n
 exact ⟨(freeGo S nm n).2.toNat, by omega, by omega⟩
abbrev psL (b sp : Nat) : Nat × Obj := (b, .cells #[.pointer (some ⟨sp, 0, none⟩)] 28 (0, 0))
abbrev nmL (b : Nat) (nm : List UInt8) : Nat × Obj := (b, .cells #[.string (sB nm)] 9 (0, 0))
abbrev lvL (b : Nat) (A : Option Addr) (n c : Nat) : Nat × Obj := (b, .cells #[.slice A n c] 31 (0, 0))
abbrev sdL (b : Nat) (NA : Option Addr) (nl nc : Nat) (SA : Option Addr) (sl_ sc : Nat) : Nat × Obj := (b, .cells (List.toArray (seedC NA nl nc SA sl_ sc)) 33 (0, 0))
abbrev btL (b : Nat) (x : UInt64) : Nat × Obj := (b, .cells #[.int .u64 (x.toNat : Int)] 38 (0, 0))
section
variable {G : World} {M : Mem} {L R : Own} {sp d n mp : Nat} {S : DS} {r : DRep} {NA SA : Option Addr} {nl nc sl_ sc : Nat} {sn ss nm : List UInt8}
theorem sCreate1_spec (hg : LmG M) (hsh : ShaG M) (h : IsDisk M r S) (hn : 8 * n ≤ S.sure.length) {B : Nat} (hw : S.within B) (hB : B ≤ 1000000) {ks : List (KeyS × Nat)} {E : Own} (hE : KeysAt M d ks E) {A : Option Addr} {ln lc : Nat} {l : List PairV} (hl : Row M 2 A ln lc (prow l)) (hname : Bytes M NA nl nc sn) (hsec : Bytes M SA sl_ sc ss) (x : UInt64) {c1 c2 c3 c4 c5 : Nat} {p' q' : Nat × Obj} :
  Con Tryz.prog 33 #[.pointer (some ⟨c2, 0, none⟩), .pointer (some ⟨c3, 0, none⟩), .pointer (some ⟨c4, 0, none⟩), .pointer (some ⟨c5, 0, none⟩), .pointer (some ⟨c1, 0, none⟩)] G M (p' :: q' :: btL c5 x :: sdL c4 NA nl nc SA sl_ sc :: lvL c3 A ln lc :: nmL c2 nm :: psL c1 sp :: dL d r S (stL sp d n mp :: mpL mp ks :: (E ++ R)))
   (fun v M' L' => ∃ L1, L' = p' :: q' :: L1 ∧ ∃ t, v = .bool t ∧ ∃ S' k kp r' E', createS S n ⟨nm, l, sn, ss⟩ x = ((S', some k), 0) ∧ IsDisk M' r' S' ∧ KeysAt M' d (setP ks (k, kp)) E' ∧ L1 = btL c5 x :: sdL c4 NA nl nc SA sl_ sc :: lvL c3 A ln lc :: nmL c2 nm :: psL c1 sp :: dL d r' S' (stL sp d n mp :: mpL mp (setP ks (k, kp)) :: (E' ++ R)))
   (fun ch M' L' => ∃ L1, L' = p' :: q' :: L1 ∧ ∃ e, (∃ S' r', createS S n ⟨nm, l, sn, ss⟩ x = ((S', none), e) ∧ e ≠ 0 ∧ IsDisk M' r' S' ∧ L1 = btL c5 x :: sdL c4 NA nl nc SA sl_ sc :: lvL c3 A ln lc :: nmL c2 nm :: psL c1 sp :: dL d r' S' (stL sp d n mp :: mpL mp ks :: (E ++ R))) ∧ ch = swrong e) := by
 obtain ⟨pb, po⟩ := p'
 obtain ⟨qb, qo⟩ := q'
 have hns := hname.size
 have hss := hsec.size
 have hsz := h.sz
 refine en Tryz.func33 rfl 57 rfl <| zr <| as0 rfl rfl <| zq <| zr <| tLd rfl rfl rfl <| tLd rfl rfl rfl <| tLg rfl rfl rfl <| ec rfl rfl (shead_spec hg hl hname hsec) ?_
 rintro _ M1 _ hM1 ⟨rfl, A1, k1, rfl, hh1⟩
 have hd := hM1
 refine mvU rfl rfl <| zx rfl rfl <| zx rfl rfl <| asS rfl rfl <| asI rfl rfl <| zq <| .s6 0 1 3 4 6 7 rfl rfl rfl rfl rfl rfl <| x_join (I := fun F D M2 L2 => (mayK nm.length l sn.length ss.length ∧ 1 ≤ x.toNat ∧ x.toNat ≤ 65536) ∧ F = [(0, .pointer (some ⟨c2, 0, none⟩)), (1, .pointer (some ⟨c3, 0, none⟩)), (3, .pointer (some ⟨c5, 0, none⟩)), (4, .pointer (some ⟨c1, 0, none⟩)), (6, .slice A1 (headV nm l sn ss).length k1)] ∧ D = [] ∧ M1 = M2 ∧ (pb, po) :: (qb, qo) :: btL c5 x :: sdL c4 NA nl nc SA sl_ sc :: lvL c3 A ln lc :: nmL c2 nm :: psL c1 sp :: dL d r S (stL sp d n mp :: mpL mp ks :: (E ++ R)) = L2) ?_ (fun Jq2 => ?_)
 ·
  rintro _ _ _ _ ⟨hok, rfl, rfl, rfl, rfl⟩
  refine x_seq ?_
  have he : Le M1 M1 := Le.refl _
  have hV : headV nm l sn ss = headB nm l sn ss := if_pos hok.1
  rw [hV] at hh1
  rw [hV]
  obtain ⟨g1, g2, g3, g4, g5⟩ := mayK_facts hok.1
  have hbl := headB_len nm l sn ss
  have hnm16 := hok.1.2.1
  have hcr : createS S n ⟨nm, l, sn, ss⟩ x = if (freeS S nm n).1 ≠ 0 then ((S, none), (freeS S nm n).1) else if (newC S (sA (freeS S nm n).2.toNat) (headB nm l sn ss) (UInt64.ofNat (totN l)) x).2 ≠ 0 then (((newC S (sA (freeS S nm n).2.toNat) (headB nm l sn ss) (UInt64.ofNat (totN l)) x).1.1, none), (newC S (sA (freeS S nm n).2.toNat) (headB nm l sn ss) (UInt64.ofNat (totN l)) x).2) else (((newC S (sA (freeS S nm n).2.toNat) (headB nm l sn ss) (UInt64.ofNat (totN l)) x).1.1, some ⟨⟨nm, l, sn, ss⟩, newX (UInt64.ofNat (totN l)) x, (newC S (sA (freeS S nm n).2.toNat) (headB nm l sn ss) (UInt64.ofNat (totN l)) x).1.2⟩), 0) := by rw [createS, if_neg (fun h => h hok)]
  refine x_draw0 15 (btL c5 x :: sdL c4 NA nl nc SA sl_ sc :: lvL c3 A ln lc :: nmL c2 nm :: psL c1 sp :: []) Keeps.mem hmix rfl <| zy 0 rfl rfl (y_ld rfl rfl) <| zy 1 rfl rfl (y_ld rfl rfl) <| zy 2 rfl rfl (y_ld rfl rfl) <| zp 5 rfl rfl (y_move (v := .slice _ _ _) rfl) <| zy 6 rfl rfl (y_ld rfl rfl) <| zy 8 rfl rfl (y_ld rfl rfl) <| to_e 3 rfl (by kernel_rfl) rfl (e_call rfl (Con.to (dL d r S (stL sp d n mp :: ((pb, po) :: (qb, qo) :: btL c5 x :: sdL c4 NA nl nc SA sl_ sc :: lvL c3 A ln lc :: nmL c2 nm :: psL c1 sp :: mpL mp ks :: (E ++ R)))) ii (sfree_spec (hg.mono hd) (hsh.mono hd) (h.mono hd) nm hn)) (by
   rintro _ M2 _ hM2 ⟨r2, h2, rfl, hno, rfl⟩
   exact TP.dropTo ((pb, po) :: (qb, qo) :: btL c5 x :: sdL c4 NA nl nc SA sl_ sc :: lvL c3 A ln lc :: nmL c2 nm :: psL c1 sp :: dL d r2 S (stL sp d n mp :: mpL mp ks :: (E ++ R))) ii (.retA rfl (hd.trans hM2) ⟨_, rfl, _, ⟨S, r2, by rw [hcr, if_pos hno], hno, h2, rfl⟩, rfl⟩)) ?_)
  rintro _ M2 _ hM2 ⟨r2, h2, rfl, hf0, rfl⟩
  replace he := he.trans hM2
  replace hd := hd.trans hM2
  obtain ⟨a, ha, han⟩ := freeS_at hf0
  rw [if_neg (fun h => h hf0), ha, Int.toNat_natCast] at hcr
  rw [ha]
  refine ⟨⟨he, Keeps.mem⟩, ?_⟩
  refine ze 4 rfl rfl <| e_call' rfl (sarea_spec h2 han hn) ?_
  rintro _ M3 _ hM3 ⟨p, rfl, r3, A3, l3, k3, h3, hb3, rfl⟩
  replace he := he.trans hM3
  replace hd := hd.trans hM3
  refine ⟨⟨he, Keeps.mem⟩, ?_⟩
  refine ze 7 rfl rfl <| e_call' rfl (Total_spec (hg.mono hd).hs (hl.mono hd)) ?_
  rintro _ M4 _ hM4 ⟨rfl, rfl⟩
  replace he := he.trans hM4
  replace hd := hd.trans hM4
  obtain ⟨tot, htot, htn⟩ : ∃ tot : UInt64, UInt64.ofNat (totN l) = tot ∧ tot.toNat = totN l := ⟨_, rfl, by rw [UInt64.toNat_ofNat', Nat.mod_eq_of_lt (totN_lt l)]⟩
  rw [htot] at hcr
  rw [← htn]
  obtain ⟨N, hN⟩ : ∃ N, newC S (sA a) (headB nm l sn ss) tot x = N := ⟨_, rfl⟩
  rw [hN] at hcr
  refine ⟨⟨he, Keeps.mem⟩, ?_⟩
  refine ze 9 rfl rfl <| e_call' rfl (cNew_spec (hsh.mono hd) (h3.mono hM4) (show OkS S (sA a) from okS0 (by omega) (by omega)) hw hB (hb3.mono hM4) (hh1.mono he) tot x) ?_
  rintro v M5 L5 hM5 hv
  rw [hN] at hv
  replace he := he.trans hM5
  replace hd := hd.trans hM5
  obtain ⟨e, hee⟩ : ∃ e, N.2 = e := ⟨_, rfl⟩
  rw [hee] at hv hcr
  obtain ⟨P, X, r5, A5, l5, k5, rfl, h5, hb5, rfl, hcase⟩ : ∃ P X r5 A5 l5 k5, v = .tuple #[.pointer P, .int .i64 e] ∧ IsDisk M5 r5 N.1.1 ∧ Bytes M5 A5 l5 k5 N.1.2.b ∧ L5 = dL d r5 N.1.1 (sL p d N.1.2 A5 l5 k5 :: X) ∧ ((e = 0 ∧ ∃ c A' c', P = some ⟨c, 0, none⟩ ∧ Bytes M5 A' (headB nm l sn ss).length c' (headB nm l sn ss) ∧ X = cL c (newX tot x) A' (headB nm l sn ss).length c' p :: stL sp d n mp :: ((pb, po) :: (qb, qo) :: btL c5 x :: sdL c4 NA nl nc SA sl_ sc :: lvL c3 A ln lc :: nmL c2 nm :: psL c1 sp :: mpL mp ks :: (E ++ R))) ∨ (e ≠ 0 ∧ X = stL sp d n mp :: ((pb, po) :: (qb, qo) :: btL c5 x :: sdL c4 NA nl nc SA sl_ sc :: lvL c3 A ln lc :: nmL c2 nm :: psL c1 sp :: mpL mp ks :: (E ++ R)))) := by
   split at hv
   ·
    rename_i h0
    obtain ⟨c, A', c', rfl, hA', r2, A2, l2, c2, h2, hb2, rfl⟩ := hv
    exact ⟨_, _, r2, A2, l2, c2, by rw [h0], h2, hb2, rfl, .inl ⟨h0, c, A', c', rfl, hA', rfl⟩⟩
   rename_i h0
   obtain ⟨rfl, r2, A2, l2, c2, h2, hb2, rfl⟩ := hv
   exact ⟨none, _, r2, A2, l2, c2, rfl, h2, hb2, rfl, .inr ⟨h0, rfl⟩⟩
  refine ⟨⟨he, by rcases hcase with ⟨_, _, _, _, _, _, rfl⟩ | ⟨_, rfl⟩ <;> exact Keeps.mem⟩, ?_⟩
  refine zp 10 rfl rfl (y_move (v := .tuple _) rfl) <| zp 11 rfl rfl (y_extract rfl) <| zp 12 rfl rfl (y_extract rfl) <| zp 13 rfl rfl (y_assign (v := .pointer _) rfl) <| zp 14 rfl rfl (y_assign (v := .int _ _) rfl) <| zz <| .then_normal <| .s5 0 4 6 7 8 rfl rfl rfl rfl rfl <| zr <| mvI rfl rfl <| tl_e rfl (e_call rfl (swell_spec _) (by
   rintro _ _ _ _ ⟨rfl, rfl, hno, rfl⟩
   rw [if_pos hno] at hcr
   rcases hcase with ⟨h0, _⟩ | ⟨_, rfl⟩
   ·
    exact absurd h0 hno
   exact TP.dropTo ((pb, po) :: (qb, qo) :: btL c5 x :: sdL c4 NA nl nc SA sl_ sc :: lvL c3 A ln lc :: nmL c2 nm :: psL c1 sp :: dL d r5 N.1.1 (stL sp d n mp :: mpL mp ks :: (E ++ R))) ii (.retA rfl hd ⟨_, rfl, _, ⟨N.1.1, r5, hcr, hno, h5, rfl⟩, rfl⟩)) ?_)
  rintro _ _ _ _ ⟨rfl, rfl, he0⟩
  obtain ⟨_, c, HA, hc, rfl, hH, rfl⟩ : e = 0 ∧ ∃ c A' c', P = some ⟨c, 0, none⟩ ∧ Bytes M5 A' (headB nm l sn ss).length c' (headB nm l sn ss) ∧ X = cL c (newX tot x) A' (headB nm l sn ss).length c' p :: stL sp d n mp :: ((pb, po) :: (qb, qo) :: btL c5 x :: sdL c4 NA nl nc SA sl_ sc :: lvL c3 A ln lc :: nmL c2 nm :: psL c1 sp :: mpL mp ks :: (E ++ R)) := by
   rcases hcase with h | ⟨h0, _⟩
   ·
    exact h
   exact absurd he0 h0
  rw [if_neg (fun h => h he0)] at hcr
  refine zq <| zr <| mvS rfl rfl <| tl_e rfl (e_call rfl (sparse_spec (hg.mono hd) (hh1.mono he) (by omega)) (by
   rintro _ _ _ _ ⟨_, hno, _⟩
   exact absurd (parse_headB hok.1).1 hno) ?_)
  rintro _ M6 _ hM6 ⟨rfl, hgood, y1, y2, y3, rfl, w1, w2, w3⟩
  obtain ⟨_, z1, z2, z3, z4⟩ := parse_headB hok.1
  rw [z1]
  rw [z2] at w1
  rw [z3] at w2
  rw [z4] at w3
  replace hd := hd.trans hM6
  obtain ⟨kk, hkk⟩ : ∃ kk : KeyS, (⟨⟨nm, l, sn, ss⟩, newX tot x, N.1.2⟩ : KeyS) = kk := ⟨_, rfl⟩
  rw [hkk] at hcr
  refine tl_e rfl <| e_alloc <| fun b1 => tl_e rfl <| e_st rfl rfl (by rfl) (by rfl) <| zq <| .s4 0 4 8 9 rfl rfl rfl rfl <| x_seq ?_
  have hf : Le M6 M6 := Le.refl _
  refine x_draw0 12 (psL c1 sp :: stL sp d n mp :: nmL c2 nm :: parsL b1 nm y1 y2 y3 :: []) Keeps.mem hmix rfl <| zy 0 rfl rfl (y_ld rfl rfl) <| zp 1 rfl rfl (y_nilCheck rfl) <| zp 2 rfl rfl (y_fieldAddr rfl) <| zy 3 rfl rfl (y_ld rfl rfl) <| zy 4 rfl rfl (y_ld rfl rfl) <| zp 5 rfl rfl (y_fieldAddr rfl) <| zy 6 rfl rfl (y_ld rfl rfl) <| zp 7 rfl rfl (y_fieldAddr rfl) <| zy 8 rfl rfl (y_lg rfl rfl) ?_
  refine zp 9 rfl rfl (y_move (v := .pointer _) rfl) <| zp 10 rfl rfl (y_build rfl) <| ze 11 rfl rfl <| e_box rfl <| fun b2 => ⟨⟨hf, Keeps.mem⟩, ?_⟩
  have hKB : KBl M6 d kk b2 [kyL b2 y1 y2 y3 c, cL c (newX tot x) HA (headB nm l sn ss).length hc p, sL p d N.1.2 A5 l5 k5] := by
   rw [← hkk]; exact ⟨c, p, y1, y2, y3, HA, A5, _, hc, l5, k5, rfl, w1, w2, w3, hH.mono hM6, hb5.mono hM6⟩
  obtain ⟨E', K, hE', hperm⟩ := (hE.mono hd).set hKB
  have hms := mSet_kvs (kk, b2) ks
  rw [← hkk] at hms
  change mSet (kvsK ks) (sB nm) (.pointer (some ⟨b2, 0, none⟩)) = _ at hms
  rw [hkk] at hms
  refine zt 12 rfl rfl <| e_mapUpdate rfl rfl rfl ii ii <| zz <| .then_normal <| .s0 <| zr <| as0 rfl rfl <| zq ?_
  rw [hms]
  refine x_ret (.dropTo ([kyL b2 y1 y2 y3 c, cL c (newX tot x) HA (headB nm l sn ss).length hc p, sL p d N.1.2 A5 l5 k5] ++ (E ++ ((pb, po) :: (qb, qo) :: btL c5 x :: sdL c4 NA nl nc SA sl_ sc :: lvL c3 A ln lc :: nmL c2 nm :: psL c1 sp :: dL d r5 N.1.1 (stL sp d n mp :: mpL mp (setP ks (kk, b2)) :: R)))) (by simp only [List.cons_append, List.nil_append]; infer_instance) (.dropTo (E' ++ ((pb, po) :: (qb, qo) :: btL c5 x :: sdL c4 NA nl nc SA sl_ sc :: lvL c3 A ln lc :: nmL c2 nm :: psL c1 sp :: dL d r5 N.1.1 (stL sp d n mp :: mpL mp (setP ks (kk, b2)) :: R))) ⟨K, by rw [← List.append_assoc, ← List.append_assoc]; exact hperm.append_right _⟩ (.to ((pb, po) :: (qb, qo) :: btL c5 x :: sdL c4 NA nl nc SA sl_ sc :: lvL c3 A ln lc :: nmL c2 nm :: psL c1 sp :: dL d r5 N.1.1 (stL sp d n mp :: mpL mp (setP ks (kk, b2)) :: (E' ++ R))) ii (ret1 rfl rfl hd ⟨_, rfl, true, rfl, N.1.1, kk, b2, r5, E', hcr, h5.mono hM6, hE', rfl⟩))))
 refine x_region <| mvI rfl rfl <| tl_y rfl (y_eql rfl rfl) <| mvB rfl rfl <| tl_casesb (s := 19) rfl (fun hk1 => ?_) (fun hk1 => ?_)
 ·
  refine tLd rfl rfl rfl <| tl_y rfl (y_geq rfl rfl) <| tPt rfl rfl rfl <| mvB rfl rfl <| tl_casesb (s := 23) rfl (fun hk2 => ?_) (fun hk2 => ?_)
  ·
   refine tLd rfl rfl rfl <| tl_y rfl (y_leq rfl rfl) <| tPt rfl rfl rfl <| tl_e rfl (e_call rfl (smust_spec _ _) (by
    rintro _ _ _ _ ⟨rfl, rfl, ht, rfl⟩
    have hno : ¬ (mayK nm.length l sn.length ss.length ∧ 1 ≤ x.toNat ∧ x.toNat ≤ 65536) := by
     rintro ⟨h1, h2, h3⟩
     have h0 : headE nm l sn ss = 0 := if_pos h1
     first | (rw [h0] at hk1; exact absurd hk1 (by decide)) | (simp at hk2; omega) | (simp at ht; omega)
    have e : createS S n ⟨nm, l, sn, ss⟩ x = ((S, none), 1) := by rw [createS, if_pos hno]
    exact .retA rfl hd ⟨_, rfl, 1, ⟨S, r, e, by decide, h.mono hd, rfl⟩, rfl⟩) ?_)
   rintro _ _ _ _ ⟨rfl, rfl, ht⟩
   refine zq <| .sub (F' := [(0, _), (1, _), (3, _), (4, _), (6, _)]) (cs5 rfl rfl rfl rfl rfl) <| Jq2 _ _ _ _ ?_
   exact ⟨by
    refine ⟨?_, ?_, ?_⟩
    ·
     have h0 : headE nm l sn ss = 0 := by first | (cases ht; done) | simpa using hk1
     unfold headE at h0
     split at h0
     ·
      assumption
     cases h0
    ·
     first | (cases ht; done) | (simp at hk2; omega)
    first | (cases ht; done) | (simp at ht; omega), rfl, rfl, rfl, rfl⟩
  refine tl_skip rfl <| tl_skip rfl <| tPf rfl rfl rfl <| tl_e rfl (e_call rfl (smust_spec _ _) (by
   rintro _ _ _ _ ⟨rfl, rfl, ht, rfl⟩
   have hno : ¬ (mayK nm.length l sn.length ss.length ∧ 1 ≤ x.toNat ∧ x.toNat ≤ 65536) := by
    rintro ⟨h1, h2, h3⟩
    have h0 : headE nm l sn ss = 0 := if_pos h1
    first | (rw [h0] at hk1; exact absurd hk1 (by decide)) | (simp at hk2; omega) | (simp at ht; omega)
   have e : createS S n ⟨nm, l, sn, ss⟩ x = ((S, none), 1) := by rw [createS, if_pos hno]
   exact .retA rfl hd ⟨_, rfl, 1, ⟨S, r, e, by decide, h.mono hd, rfl⟩, rfl⟩) ?_)
  rintro _ _ _ _ ⟨rfl, rfl, ht⟩
  refine zq <| .sub (F' := [(0, _), (1, _), (3, _), (4, _), (6, _)]) (cs5 rfl rfl rfl rfl rfl) <| Jq2 _ _ _ _ ?_
  exact ⟨by
   refine ⟨?_, ?_, ?_⟩
   ·
    have h0 : headE nm l sn ss = 0 := by first | (cases ht; done) | simpa using hk1
    unfold headE at h0
    split at h0
    ·
     assumption
    cases h0
   ·
    first | (cases ht; done) | (simp at hk2; omega)
   first | (cases ht; done) | (simp at ht; omega), rfl, rfl, rfl, rfl⟩
 refine tl_skip rfl <| tl_skip rfl <| tPf rfl rfl rfl <| mvB rfl rfl <| tl_skip rfl <| tl_skip rfl <| tPf rfl rfl rfl <| tl_e rfl (e_call rfl (smust_spec _ _) (by
  rintro _ _ _ _ ⟨rfl, rfl, ht, rfl⟩
  have hno : ¬ (mayK nm.length l sn.length ss.length ∧ 1 ≤ x.toNat ∧ x.toNat ≤ 65536) := by
   rintro ⟨h1, h2, h3⟩
   have h0 : headE nm l sn ss = 0 := if_pos h1
   first | (rw [h0] at hk1; exact absurd hk1 (by decide)) | (simp at hk2; omega) | (simp at ht; omega)
  have e : createS S n ⟨nm, l, sn, ss⟩ x = ((S, none), 1) := by rw [createS, if_pos hno]
  exact .retA rfl hd ⟨_, rfl, 1, ⟨S, r, e, by decide, h.mono hd, rfl⟩, rfl⟩) ?_)
 rintro _ _ _ _ ⟨rfl, rfl, ht⟩
 refine zq <| .sub (F' := [(0, _), (1, _), (3, _), (4, _), (6, _)]) (cs5 rfl rfl rfl rfl rfl) <| Jq2 _ _ _ _ ?_
 exact ⟨by
  refine ⟨?_, ?_, ?_⟩
  ·
   have h0 : headE nm l sn ss = 0 := by first | (cases ht; done) | simpa using hk1
   unfold headE at h0
   split at h0
   ·
    assumption
   cases h0
  ·
   first | (cases ht; done) | (simp at hk2; omega)
  first | (cases ht; done) | (simp at ht; omega), rfl, rfl, rfl, rfl⟩
end
theorem KeysAt.pick {M : Mem} {d : Nat} {nm : List UInt8} {q : KeyS × Nat} {ks : List (KeyS × Nat)} {E : Own} (h : KeysAt M d ks E) (hf : findP ks nm = some q) :
  ∃ B E0, KBl M d q.1 q.2 B ∧ E.Perm (B ++ E0) ∧ ∀ {M' : Mem} (hle : Le M M') {k' : KeyS} {B' : Own}, k'.h.name = nm → KBl M' d k' q.2 B' → KeysAt M' d (setP ks (k', q.2)) (B' ++ E0) := by
 induction h with
 | nil => cases hf
 | @cons k0 kp0 ks B0 E0 E1 h1 h2 h3 ih =>
  by_cases e : k0.h.name = nm
  ·
   rw [findP, if_pos e] at hf
   obtain rfl : (k0, kp0) = q := by simpa using hf
   refine ⟨B0, E0, h1, h3, fun hle k' B' hn hb => ?_⟩
   rw [setP, if_pos (by rw [hn]; exact e)]
   exact .cons hb (h2.mono hle) (List.Perm.refl _)
  rw [findP, if_neg e] at hf
  obtain ⟨B, E', k1, k2, k3⟩ := ih hf
  refine ⟨B, B0 ++ E', k1, h3.trans ((k2.append_left B0).trans (perm_mid _ _ _)), fun hle k' B' hn hb => ?_⟩
  rw [setP, if_neg (by rw [hn]; exact e)]
  exact .cons (h1.mono hle) (k3 hle hn hb) (perm_mid _ _ _)
theorem kvsK_setP {nm : List UInt8} {q : KeyS × Nat} {k' : KeyS} (hn : k'.h.name = nm) : ∀ {ks : List (KeyS × Nat)}, findP ks nm = some q → kvsK (setP ks (k', q.2)) = kvsK ks
 | [], h => by cases h
 | q0 :: r, h => by
  by_cases e : q0.1.h.name = nm
  ·
   rw [findP, if_pos e] at h
   obtain rfl : q0 = q := by simpa using h
   rw [setP, if_pos (by rw [hn]; exact e)]
   show (sB k'.h.name, _) :: kvsK r = (sB q0.1.h.name, _) :: kvsK r
   rw [hn, e]
  rw [findP, if_neg e] at h
  have ih := kvsK_setP hn h
  rw [setP, if_neg (by rw [hn]; exact e)]
  show _ :: kvsK (setP r _) = _ :: kvsK r
  rw [ih]
section
variable {G : World} {M : Mem} {L R : Own} {sp d n mp : Nat} {S : DS} {r : DRep} {NA SA : Option Addr} {nl nc sl_ sc : Nat} {sn ss nm : List UInt8}
theorem sCreate_spec (hg : LmG M) (hsh : ShaG M) (h : IsDisk M r S) (hn : 8 * n ≤ S.sure.length) {B : Nat} (hw : S.within B) (hB : B ≤ 1000000) {ks : List (KeyS × Nat)} {E : Own} (hE : KeysAt M d ks E) {A : Option Addr} {ln lc : Nat} {l : List PairV} (hl : Row M 2 A ln lc (prow l)) (hname : Bytes M NA nl nc sn) (hsec : Bytes M SA sl_ sc ss) (x : UInt64) :
  Con Tryz.prog 11 #[.pointer (some ⟨sp, 0, none⟩), .string (sB nm), .slice A ln lc, .agg (List.toArray (seedC NA nl nc SA sl_ sc)), .int .u64 (x.toNat : Int)] G M (dL d r S (stL sp d n mp :: mpL mp ks :: (E ++ R)))
   (fun v M' L' => (∃ S' k kp r' E', createS S n ⟨nm, l, sn, ss⟩ x = ((S', some k), 0) ∧ v = .int .i64 0 ∧ IsDisk M' r' S' ∧ KeysAt M' d (setP ks (k, kp)) E' ∧ L' = dL d r' S' (stL sp d n mp :: mpL mp (setP ks (k, kp)) :: (E' ++ R))) ∨
    (∃ S' e r', createS S n ⟨nm, l, sn, ss⟩ x = ((S', none), e) ∧ e ≠ 0 ∧ v = .int .i64 e ∧ IsDisk M' r' S' ∧ L' = dL d r' S' (stL sp d n mp :: mpL mp ks :: (E ++ R)))) noPanic := by
 refine en Tryz.func11 rfl 19 rfl <| zr <| tl_e rfl <| e_box rfl <| fun b1 => tl_e rfl <| e_box rfl <| fun b2 => tl_e rfl <| e_box rfl <| fun b3 => tl_e rfl <| e_box rfl <| fun b4 => tl_e rfl <| e_box rfl <| fun b5 => as0 rfl rfl <| zq <| .s5 5 6 7 8 9 rfl rfl rfl rfl rfl <| zr <| tl_y rfl (y_makeFunc rfl rfl) <| ec rfl rfl (caughtST_spec (K := fun (t : Bool) M' L1 => ∃ S' k kp r' E', createS S n ⟨nm, l, sn, ss⟩ x = ((S', some k), 0) ∧ IsDisk M' r' S' ∧ KeysAt M' d (setP ks (k, kp)) E' ∧ L1 = btL b5 x :: sdL b4 NA nl nc SA sl_ sc :: lvL b3 A ln lc :: nmL b2 nm :: psL b1 sp :: dL d r' S' (stL sp d n mp :: mpL mp (setP ks (k, kp)) :: (E' ++ R))) (Kp := fun e M' L1 => ∃ S' r', createS S n ⟨nm, l, sn, ss⟩ x = ((S', none), e) ∧ e ≠ 0 ∧ IsDisk M' r' S' ∧ L1 = btL b5 x :: sdL b4 NA nl nc SA sl_ sc :: lvL b3 A ln lc :: nmL b2 nm :: psL b1 sp :: dL d r' S' (stL sp d n mp :: mpL mp ks :: (E ++ R))) (first := []) (cap := [.pointer (some ⟨b2, 0, none⟩), .pointer (some ⟨b3, 0, none⟩), .pointer (some ⟨b4, 0, none⟩), .pointer (some ⟨b5, 0, none⟩), .pointer (some ⟨b1, 0, none⟩)]) (fun p' q' => sCreate1_spec hg hsh h hn hw hB hE hl hname hsec x)) ?_
 rintro v M1 L1 hM1 hv
 obtain ⟨t, e, rfl, hw2⟩ : ∃ t e, v = .tuple #[.bool t, .int .i64 e] ∧ ((∃ S' k kp r' E', createS S n ⟨nm, l, sn, ss⟩ x = ((S', some k), 0) ∧ e = 0 ∧ IsDisk M1 r' S' ∧ KeysAt M1 d (setP ks (k, kp)) E' ∧ L1 = btL b5 x :: sdL b4 NA nl nc SA sl_ sc :: lvL b3 A ln lc :: nmL b2 nm :: psL b1 sp :: dL d r' S' (stL sp d n mp :: mpL mp (setP ks (k, kp)) :: (E' ++ R))) ∨ (∃ S' r', createS S n ⟨nm, l, sn, ss⟩ x = ((S', none), e) ∧ e ≠ 0 ∧ IsDisk M1 r' S' ∧ L1 = btL b5 x :: sdL b4 NA nl nc SA sl_ sc :: lvL b3 A ln lc :: nmL b2 nm :: psL b1 sp :: dL d r' S' (stL sp d n mp :: mpL mp ks :: (E ++ R)))) := by
  rcases hv with ⟨t, rfl, S', k, kp, r', E', h1, h2, h3, rfl⟩ | ⟨e, rfl, S', r', h1, h2, h3, rfl⟩
  ·
   exact ⟨_, _, rfl, .inl ⟨S', k, kp, r', E', h1, rfl, h2, h3, rfl⟩⟩
  exact ⟨_, _, rfl, .inr ⟨S', r', h1, h2, h3, rfl⟩⟩
 refine mvU rfl rfl <| zx rfl rfl <| zx rfl rfl <| asB rfl rfl <| asI rfl rfl <| zq <| .s1 12 rfl <| zr <| mvI rfl rfl <| asI rfl rfl <| zq <| x_ret ((by
  rcases hw2 with ⟨S', k, kp, r', E', h1, rfl, h2, h3, rfl⟩ | ⟨S', r', h1, h2, h3, rfl⟩
  ·
   exact .dropTo (dL d r' S' (stL sp d n mp :: mpL mp (setP ks (k, kp)) :: (E' ++ R))) ii (ret1 rfl rfl hM1 (.inl ⟨S', k, kp, r', E', h1, rfl, h2, h3, rfl⟩))
  exact .dropTo (dL d r' S' (stL sp d n mp :: mpL mp ks :: (E ++ R))) ii (ret1 rfl rfl hM1 (.inr ⟨S', e, r', h1, h2, rfl, h3, rfl⟩))))
end
def tookK (S : DS) (k : KeyS) : KeyS := { k with x := (takeC S k.s k.x k.head).1.2, s := (takeC S k.s k.x k.head).1.1.2 }
structure SignR where
 S : DS
 ks : List (KeyS × Nat)
 sig : List UInt8
 e : Int
def signK (S : DS) (ks : List (KeyS × Nat)) (nm text : List UInt8) : SignR :=
 match findP ks nm with
 | none => ⟨S, ks, [], 11⟩
 | some q =>
  if 65536 < text.length then ⟨S, ks, [], 1⟩ else
  if (takeC S q.1.s q.1.x q.1.head).2.2 ≠ 0 then ⟨(takeC S q.1.s q.1.x q.1.head).1.1.1, setP ks (tookK S q.1, q.2), [], (takeC S q.1.s q.1.x q.1.head).2.2⟩ else
  ⟨(takeC S q.1.s q.1.x q.1.head).1.1.1, setP ks (tookK S q.1, q.2), hsigV q.1.h.l q.1.h.sn.length q.1.h.ss.length (takeC S q.1.s q.1.x q.1.head).2.1.toNat text.length q.1.h.sn q.1.h.ss text, hsigE q.1.h.l q.1.h.sn.length q.1.h.ss.length (takeC S q.1.s q.1.x q.1.head).2.1.toNat text.length⟩
section
variable {G : World} {M : Mem} {L R : Own} {sp d n mp : Nat} {S : DS} {r : DRep} {nm : List UInt8}
theorem sSign1_spec (hg : LmG M) (hsh : ShaG M) (h : IsDisk M r S) {B : Nat} (hw : S.within B) (hB : B ≤ 1000000) {ks : List (KeyS × Nat)} {E : Own} (hE : KeysAt M d ks E) (hok : ∀ q ∈ ks, OkS S q.1.s) {TA : Option Addr} {tl tc : Nat} {text : List UInt8} (htext : Bytes M TA tl tc text) {c1 c2 c3 : Nat} {p' q' : Nat × Obj} :
  Con Tryz.prog 43 #[.pointer (some ⟨c1, 0, none⟩), .pointer (some ⟨c2, 0, none⟩), .pointer (some ⟨c3, 0, none⟩)] G M (p' :: q' :: bsL c3 TA tl tc :: nmL c2 nm :: psL c1 sp :: dL d r S (stL sp d n mp :: mpL mp ks :: (E ++ R)))
   (fun v M' L' => ∃ L1, L' = p' :: q' :: L1 ∧ ∃ A m c, v = .slice A m c ∧ ∃ r' E', (signK S ks nm text).e = 0 ∧ Bytes M' A m c (signK S ks nm text).sig ∧ IsDisk M' r' (signK S ks nm text).S ∧ KeysAt M' d (signK S ks nm text).ks E' ∧ L1 = bsL c3 TA tl tc :: nmL c2 nm :: psL c1 sp :: dL d r' (signK S ks nm text).S (stL sp d n mp :: mpL mp (signK S ks nm text).ks :: (E' ++ R)))
   (fun ch M' L' => ∃ L1, L' = p' :: q' :: L1 ∧ ∃ e, (∃ r' E', (signK S ks nm text).e ≠ 0 ∧ e = (signK S ks nm text).e ∧ (signK S ks nm text).sig = [] ∧ IsDisk M' r' (signK S ks nm text).S ∧ KeysAt M' d (signK S ks nm text).ks E' ∧ L1 = bsL c3 TA tl tc :: nmL c2 nm :: psL c1 sp :: dL d r' (signK S ks nm text).S (stL sp d n mp :: mpL mp (signK S ks nm text).ks :: (E' ++ R))) ∧ ch = swrong e) := by
 obtain ⟨pb, po⟩ := p'
 obtain ⟨qb, qo⟩ := q'
 have htl := htext.size
 subst htl
 refine en Tryz.func43 rfl 42 rfl <| zr <| as0 rfl rfl <| zq <| zr <| tLd rfl rfl rfl <| tLd rfl rfl rfl <| tl_e rfl (e_call rfl (sof_spec (nm := nm) (ks := ks)) (by
  rintro _ _ _ _ ⟨rfl, rfl, hf, rfl⟩
  have e : signK S ks nm text = ⟨S, ks, [], 11⟩ := by rw [signK, hf]
  exact .retA rfl (Le.refl _) ⟨_, rfl, 11, ⟨r, E, by rw [e]; simp, by rw [e], by rw [e], by rw [e]; exact h, by rw [e]; exact hE, by rw [e]⟩, rfl⟩) ?_)
 rintro _ _ _ _ ⟨rfl, rfl, q, hf, rfl⟩
 obtain ⟨hqm, hqn⟩ := findP_mem hf
 have hsk : signK S ks nm text = if 65536 < text.length then ⟨S, ks, [], 1⟩ else if (takeC S q.1.s q.1.x q.1.head).2.2 ≠ 0 then ⟨(takeC S q.1.s q.1.x q.1.head).1.1.1, setP ks (tookK S q.1, q.2), [], (takeC S q.1.s q.1.x q.1.head).2.2⟩ else ⟨(takeC S q.1.s q.1.x q.1.head).1.1.1, setP ks (tookK S q.1, q.2), hsigV q.1.h.l q.1.h.sn.length q.1.h.ss.length (takeC S q.1.s q.1.x q.1.head).2.1.toNat text.length q.1.h.sn q.1.h.ss text, hsigE q.1.h.l q.1.h.sn.length q.1.h.ss.length (takeC S q.1.s q.1.x q.1.head).2.1.toNat text.length⟩ := by rw [signK, hf]
 refine asP rfl rfl <| zq <| .s2 2 4 rfl rfl <| zr <| tLd rfl rfl rfl <| tLen rfl rfl <| tl_y rfl (y_leq rfl rfl) <| tl_e rfl (e_call rfl (smust_spec _ _) (by
  rintro _ _ _ _ ⟨rfl, rfl, ht, rfl⟩
  have e : signK S ks nm text = ⟨S, ks, [], 1⟩ := by rw [hsk, if_pos (by simp at ht; omega)]
  exact .retA rfl (Le.refl _) ⟨_, rfl, 1, ⟨r, E, by rw [e]; simp, by rw [e], by rw [e], by rw [e]; exact h, by rw [e]; exact hE, by rw [e]⟩, rfl⟩) ?_)
 rintro _ _ _ _ ⟨rfl, rfl, ht⟩
 rw [if_neg (by simp at ht; omega)] at hsk
 obtain ⟨B0, E0, hkb, hperm, hset⟩ := hE.pick hf
 obtain ⟨c, p, x, y, z, HA, A0, hl, hc, l0, c0, rfl, w1, w2, w3, w4, w5⟩ := hkb.ex
 refine .to (E ++ ((pb, po) :: (qb, qo) :: bsL c3 TA text.length tc :: nmL c2 nm :: psL c1 sp :: dL d r S (stL sp d n mp :: mpL mp ks :: R))) ii <| .to (kyL q.2 x y z c :: cL c q.1.x HA hl hc p :: sL p d q.1.s A0 l0 c0 :: (E0 ++ ((pb, po) :: (qb, qo) :: bsL c3 TA text.length tc :: nmL c2 nm :: psL c1 sp :: dL d r S (stL sp d n mp :: mpL mp ks :: R)))) ⟨hperm.append_right _⟩ <| zq <| .s2 2 4 rfl rfl <| zr <| mvP rfl rfl <| zc rfl rfl <| tFa rfl rfl <| tLd rfl rfl rfl <| ec rfl rfl (Con.to (dL d r S (sL p d q.1.s A0 l0 c0 :: cL c q.1.x HA hl hc p :: kyL q.2 x y z c :: (E0 ++ ((pb, po) :: (qb, qo) :: bsL c3 TA text.length tc :: nmL c2 nm :: psL c1 sp :: stL sp d n mp :: mpL mp ks :: R)))) ii (cTake_spec hsh h (hok q hqm) hw hB w5 w4 q.1.x)) ?_
 rintro _ M2 _ hM2 ⟨⟨r2, A2, l2, k2, h2, hb2, rfl⟩, rfl⟩
 have hd := hM2
 have hkE := hset hM2 (k' := tookK S q.1) hqn ⟨c, p, x, y, z, HA, A2, hl, hc, l2, k2, rfl, w1.mono hM2, w2.mono hM2, w3.mono hM2, w4.mono hM2, hb2⟩
 have hkv := kvsK_setP (k' := tookK S q.1) hqn hf
 have hmp : mpL mp ks = mpL mp (setP ks (tookK S q.1, q.2)) := by show (mp, mapO (kvsK ks)) = (mp, mapO (kvsK _)); rw [hkv]
 have hqx : (takeC S q.1.s q.1.x q.1.head).1.2 = (tookK S q.1).x := rfl
 have hqs : (takeC S q.1.s q.1.x q.1.head).1.1.2 = (tookK S q.1).s := rfl
 rw [hqx, hqs, hmp]
 obtain ⟨T, hT⟩ : ∃ T, takeC S q.1.s q.1.x q.1.head = T := ⟨_, rfl⟩
 obtain ⟨k', hk'⟩ : ∃ k', tookK S q.1 = k' := ⟨_, rfl⟩
 rw [hT, hk'] at hsk
 rw [hT] at h2
 rw [hk'] at hkE
 rw [hT, hk']
 refine mvU rfl rfl <| zx rfl rfl <| zx rfl rfl <| asI rfl rfl <| asI rfl rfl <| zq <| .s4 2 4 5 6 rfl rfl rfl rfl <| zr <| mvI rfl rfl <| tl_e rfl (e_call rfl (swell_spec _) (by
  rintro _ _ _ _ ⟨rfl, rfl, hno, rfl⟩
  rw [if_pos hno] at hsk
  refine TP.dropTo ((pb, po) :: (qb, qo) :: bsL c3 TA text.length tc :: nmL c2 nm :: psL c1 sp :: dL d r2 T.1.1.1 (stL sp d n mp :: mpL mp (setP ks (k', q.2)) :: (kyL q.2 x y z c :: cL c k'.x HA hl hc p :: sL p d k'.s A2 l2 k2 :: (E0 ++ R)))) ii (.retA rfl hd ⟨_, rfl, _, ⟨r2, [kyL q.2 x y z c, cL c k'.x HA hl hc p, sL p d k'.s A2 l2 k2] ++ E0, ?_, rfl, ?_, ?_, ?_, ?_⟩, by rw [hsk]⟩)
  ·
   rw [hsk]; exact hno
  ·
   rw [hsk]
  ·
   rw [hsk]; exact h2
  ·
   rw [hsk]; exact hkE
  rw [hsk]; rfl) ?_)
 rintro _ _ _ _ ⟨rfl, rfl, he0⟩
 rw [if_neg (fun h => h he0)] at hsk
 refine zq <| x_seq ?_
 have he : Le M2 M2 := Le.refl _
 refine x_draw0 16 (kyL q.2 x y z c :: bsL c3 TA text.length tc :: []) Keeps.mem hmix rfl <| zp 0 rfl rfl (y_move (v := .pointer _) rfl) <| zp 1 rfl rfl (y_nilCheck rfl) <| zp 2 rfl rfl (y_fieldAddr rfl) <| zy 3 rfl rfl (y_ld rfl rfl) <| zp 4 rfl rfl (y_move (v := .pointer _) rfl) <| zp 5 rfl rfl (y_nilCheck rfl) <| zp 6 rfl rfl (y_fieldAddr rfl) <| zy 7 rfl rfl (y_lg rfl rfl) <| zp 8 rfl rfl (y_move (v := .int _ _) rfl) ?_
 refine zy 9 rfl rfl (y_ld rfl rfl) <| ze 10 rfl rfl <| e_call' rfl (Sign_hspec (hg.mono hd) (w1.mono hd) (w2.mono hd) (w3.mono hd) T.2.1 (htext.mono hd)) ?_
 rintro _ M3 _ hM3 ⟨rfl, A3, m3, k3, rfl, hb3⟩
 replace hd := hd.trans hM3
 replace he := he.trans hM3
 rw [← w2.size, ← w3.size] at hb3
 rw [← w2.size, ← w3.size]
 have hsz : (hsigE q.1.h.l q.1.h.sn.length q.1.h.ss.length T.2.1.toNat text.length) = (signK S ks nm text).e := by rw [hsk]
 rw [hsz]
 refine ⟨⟨he, Keeps.mem⟩, ?_⟩
 refine zp 11 rfl rfl (y_move (v := .tuple _) rfl) <| zp 12 rfl rfl (y_extract rfl) <| zp 13 rfl rfl (y_extract rfl) <| zp 14 rfl rfl (y_assign (v := .slice _ _ _) rfl) <| zp 15 rfl rfl (y_assign (v := .int _ _) rfl) <| zz <| .then_normal <| .s2 6 7 rfl rfl <| zr <| mvI rfl rfl <| tl_e rfl (e_call rfl (swell_spec _) (by
  rintro _ _ _ _ ⟨rfl, rfl, hno, rfl⟩
  refine TP.dropTo ((pb, po) :: (qb, qo) :: bsL c3 TA text.length tc :: nmL c2 nm :: psL c1 sp :: dL d r2 T.1.1.1 (stL sp d n mp :: mpL mp (setP ks (k', q.2)) :: (kyL q.2 x y z c :: cL c k'.x HA hl hc p :: sL p d k'.s A2 l2 k2 :: (E0 ++ R)))) ii (.retA rfl hd ⟨_, rfl, _, ⟨r2, [kyL q.2 x y z c, cL c k'.x HA hl hc p, sL p d k'.s A2 l2 k2] ++ E0, hno, rfl, ?_, ?_, ?_, ?_⟩, rfl⟩)
  ·
   rw [hsk] at hno ⊢
   exact if_neg hno
  ·
   rw [hsk]; exact h2.mono hM3
  ·
   rw [hsk]; exact hkE.mono hM3
  rw [hsk]; rfl) ?_)
 rintro _ _ _ _ ⟨rfl, rfl, he0⟩
 refine zq <| zr <| mvS rfl rfl <| asS rfl rfl <| zq <| .s1 3 rfl <| x_ret (.dropTo ((pb, po) :: (qb, qo) :: bsL c3 TA text.length tc :: nmL c2 nm :: psL c1 sp :: dL d r2 T.1.1.1 (stL sp d n mp :: mpL mp (setP ks (k', q.2)) :: (kyL q.2 x y z c :: cL c k'.x HA hl hc p :: sL p d k'.s A2 l2 k2 :: (E0 ++ R)))) ii (ret1 rfl rfl hd ⟨_, rfl, A3, m3, k3, rfl, r2, [kyL q.2 x y z c, cL c k'.x HA hl hc p, sL p d k'.s A2 l2 k2] ++ E0, he0, by rw [hsk]; exact hb3, by rw [hsk]; exact h2.mono hM3, by rw [hsk]; exact hkE.mono hM3, by rw [hsk]; rfl⟩))
theorem sSign_spec (hg : LmG M) (hsh : ShaG M) (h : IsDisk M r S) {B : Nat} (hw : S.within B) (hB : B ≤ 1000000) {ks : List (KeyS × Nat)} {E : Own} (hE : KeysAt M d ks E) (hok : ∀ q ∈ ks, OkS S q.1.s) {TA : Option Addr} {tl tc : Nat} {text : List UInt8} (htext : Bytes M TA tl tc text) :
  Con Tryz.prog 14 #[.pointer (some ⟨sp, 0, none⟩), .string (sB nm), .slice TA tl tc] G M (dL d r S (stL sp d n mp :: mpL mp ks :: (E ++ R)))
   (fun v M' L' => ∃ A m c r' E', v = .tuple #[.slice A m c, .int .i64 (signK S ks nm text).e] ∧ Bytes M' A m c (signK S ks nm text).sig ∧ IsDisk M' r' (signK S ks nm text).S ∧ KeysAt M' d (signK S ks nm text).ks E' ∧ L' = dL d r' (signK S ks nm text).S (stL sp d n mp :: mpL mp (signK S ks nm text).ks :: (E' ++ R))) noPanic := by
 refine en Tryz.func14 rfl 12 rfl <| zr <| tl_e rfl <| e_box rfl <| fun b1 => tl_e rfl <| e_box rfl <| fun b2 => tl_e rfl <| e_box rfl <| fun b3 => as0 rfl rfl <| as0 rfl rfl <| zq <| .s3 3 4 5 rfl rfl rfl <| zr <| tl_y rfl (y_makeFunc rfl rfl) <| ec rfl rfl (caughtSB_spec (K := fun A m c M' L1 => ∃ r' E', (signK S ks nm text).e = 0 ∧ Bytes M' A m c (signK S ks nm text).sig ∧ IsDisk M' r' (signK S ks nm text).S ∧ KeysAt M' d (signK S ks nm text).ks E' ∧ L1 = bsL b3 TA tl tc :: nmL b2 nm :: psL b1 sp :: dL d r' (signK S ks nm text).S (stL sp d n mp :: mpL mp (signK S ks nm text).ks :: (E' ++ R))) (Kp := fun e M' L1 => ∃ r' E', (signK S ks nm text).e ≠ 0 ∧ e = (signK S ks nm text).e ∧ (signK S ks nm text).sig = [] ∧ IsDisk M' r' (signK S ks nm text).S ∧ KeysAt M' d (signK S ks nm text).ks E' ∧ L1 = bsL b3 TA tl tc :: nmL b2 nm :: psL b1 sp :: dL d r' (signK S ks nm text).S (stL sp d n mp :: mpL mp (signK S ks nm text).ks :: (E' ++ R))) (first := []) (cap := [.pointer (some ⟨b1, 0, none⟩), .pointer (some ⟨b2, 0, none⟩), .pointer (some ⟨b3, 0, none⟩)]) (fun p' q' => sSign1_spec hg hsh h hw hB hE hok htext)) ?_
 rintro v M1 L1 hM1 hv
 obtain ⟨A, m, c, r', E', rfl, k1, k2, k3, rfl⟩ : ∃ A m c r' E', v = .tuple #[.slice A m c, .int .i64 (signK S ks nm text).e] ∧ Bytes M1 A m c (signK S ks nm text).sig ∧ IsDisk M1 r' (signK S ks nm text).S ∧ KeysAt M1 d (signK S ks nm text).ks E' ∧ L1 = bsL b3 TA tl tc :: nmL b2 nm :: psL b1 sp :: dL d r' (signK S ks nm text).S (stL sp d n mp :: mpL mp (signK S ks nm text).ks :: (E' ++ R)) := by
  rcases hv with ⟨A, m, c, rfl, r', E', h0, h1, h2, h3, rfl⟩ | ⟨e, rfl, r', E', h0, rfl, h1, h2, h3, rfl⟩
  ·
   exact ⟨A, m, c, r', E', by rw [h0], h1, h2, h3, rfl⟩
  exact ⟨none, 0, 0, r', E', rfl, by rw [h1]; exact Row.nil _ _, h2, h3, rfl⟩
 refine zx rfl rfl <| zx rfl rfl <| asS rfl rfl <| asI rfl rfl <| zq <| .s2 6 7 rfl rfl <| x_ret (.dropTo (dL d r' (signK S ks nm text).S (stL sp d n mp :: mpL mp (signK S ks nm text).ks :: (E' ++ R))) ii (ret2 rfl rfl rfl hM1 ⟨A, m, c, r', E', rfl, k1, k2, k3, rfl⟩))
end
def publicK (ks : List (KeyS × Nat)) (nm : List UInt8) : List UInt8 × Int :=
 match findP ks nm with
 | none => ([], 11)
 | some q => (hpubV q.1.h.l q.1.h.sn.length q.1.h.ss.length q.1.h.sn q.1.h.ss, canE q.1.h.l q.1.h.sn.length q.1.h.ss.length)
def retiredK (S : DS) (k : KeyS) : KeyS := { k with x := (retireC S k.s k.x k.head).1.2, s := (retireC S k.s k.x k.head).1.1.2 }
def retireK (S : DS) (ks : List (KeyS × Nat)) (nm : List UInt8) : SignR :=
 match findP ks nm with
 | none => ⟨S, ks, [], 11⟩
 | some q => ⟨(retireC S q.1.s q.1.x q.1.head).1.1.1, setP ks (retiredK S q.1, q.2), [], (retireC S q.1.s q.1.x q.1.head).2⟩
section
variable {G : World} {M : Mem} {L R : Own} {sp d n mp : Nat} {S : DS} {r : DRep} {nm : List UInt8}
theorem sPublic1_spec (hg : LmG M) {ks : List (KeyS × Nat)} {E : Own} (hE : KeysAt M d ks E) {c1 c2 : Nat} {p' q' : Nat × Obj} :
  Con Tryz.prog 65 #[.pointer (some ⟨c1, 0, none⟩), .pointer (some ⟨c2, 0, none⟩)] G M (p' :: q' :: nmL c2 nm :: psL c1 sp :: dL d r S (stL sp d n mp :: mpL mp ks :: (E ++ R)))
   (fun v M' L' => ∃ L1, L' = p' :: q' :: L1 ∧ ∃ A m c, v = .slice A m c ∧ (publicK ks nm).2 = 0 ∧ Bytes M' A m c (publicK ks nm).1 ∧ L1 = nmL c2 nm :: psL c1 sp :: dL d r S (stL sp d n mp :: mpL mp ks :: (E ++ R)))
   (fun ch M' L' => ∃ L1, L' = p' :: q' :: L1 ∧ ∃ e, ((publicK ks nm).2 ≠ 0 ∧ e = (publicK ks nm).2 ∧ (publicK ks nm).1 = [] ∧ L1 = nmL c2 nm :: psL c1 sp :: dL d r S (stL sp d n mp :: mpL mp ks :: (E ++ R))) ∧ ch = swrong e) := by
 obtain ⟨pb, po⟩ := p'
 obtain ⟨qb, qo⟩ := q'
 refine en Tryz.func65 rfl 24 rfl <| zr <| as0 rfl rfl <| zq <| zr <| tLd rfl rfl rfl <| tLd rfl rfl rfl <| tl_e rfl (e_call rfl (sof_spec (nm := nm) (ks := ks)) (by
  rintro _ _ _ _ ⟨rfl, rfl, hf, rfl⟩
  have e : publicK ks nm = ([], 11) := by rw [publicK, hf]
  exact .retA rfl (Le.refl _) ⟨_, rfl, 11, ⟨by rw [e]; simp, by rw [e], by rw [e], rfl⟩, rfl⟩) ?_)
 rintro _ _ _ _ ⟨rfl, rfl, q, hf, rfl⟩
 have hpk : publicK ks nm = (hpubV q.1.h.l q.1.h.sn.length q.1.h.ss.length q.1.h.sn q.1.h.ss, canE q.1.h.l q.1.h.sn.length q.1.h.ss.length) := by rw [publicK, hf]
 obtain ⟨B0, E0, hkb, hperm, -⟩ := hE.pick hf
 obtain ⟨c, p, x, y, z, HA, A0, hl, hc, l0, c0, rfl, w1, w2, w3, w4, w5⟩ := hkb.ex
 refine .to (E ++ ((pb, po) :: (qb, qo) :: nmL c2 nm :: psL c1 sp :: dL d r S (stL sp d n mp :: mpL mp ks :: R))) ii <| .to (kyL q.2 x y z c :: cL c q.1.x HA hl hc p :: sL p d q.1.s A0 l0 c0 :: (E0 ++ ((pb, po) :: (qb, qo) :: nmL c2 nm :: psL c1 sp :: dL d r S (stL sp d n mp :: mpL mp ks :: R)))) ⟨hperm.append_right _⟩ <| asP rfl rfl <| zq <| .s1 3 rfl <| x_seq ?_
 have he : Le M M := Le.refl _
 refine x_draw0 14 (kyL q.2 x y z c :: []) Keeps.mem hmix rfl <| zp 0 rfl rfl (y_move (v := .pointer _) rfl) <| zp 1 rfl rfl (y_nilCheck rfl) <| zp 2 rfl rfl (y_fieldAddr rfl) <| zy 3 rfl rfl (y_ld rfl rfl) <| zp 4 rfl rfl (y_move (v := .pointer _) rfl) <| zp 5 rfl rfl (y_nilCheck rfl) <| zp 6 rfl rfl (y_fieldAddr rfl) <| zy 7 rfl rfl (y_lg rfl rfl) <| ze 8 rfl rfl <| e_call' rfl (Public_hspec hg w1 w2 w3) ?_
 rintro _ M3 _ hM3 ⟨rfl, A3, m3, k3, rfl, hb3⟩
 replace he := he.trans hM3
 rw [← w2.size, ← w3.size] at hb3
 rw [← w2.size, ← w3.size]
 have hsz : canE q.1.h.l q.1.h.sn.length q.1.h.ss.length = (publicK ks nm).2 := by rw [hpk]
 have hsv : hpubV q.1.h.l q.1.h.sn.length q.1.h.ss.length q.1.h.sn q.1.h.ss = (publicK ks nm).1 := by rw [hpk]
 rw [hsz]
 rw [hsv] at hb3
 refine ⟨⟨he, Keeps.mem⟩, ?_⟩
 refine zp 9 rfl rfl (y_move (v := .tuple _) rfl) <| zp 10 rfl rfl (y_extract rfl) <| zp 11 rfl rfl (y_extract rfl) <| zp 12 rfl rfl (y_assign (v := .slice _ _ _) rfl) <| zp 13 rfl rfl (y_assign (v := .int _ _) rfl) <| zz <| .then_normal <| .to (E ++ ((pb, po) :: (qb, qo) :: nmL c2 nm :: psL c1 sp :: dL d r S (stL sp d n mp :: mpL mp ks :: R))) ⟨(hperm.append_right _).symm⟩ <| .s2 4 5 rfl rfl <| zr <| mvI rfl rfl ?_
 refine tl_e rfl (e_call rfl (swell_spec _) (by
  rintro _ _ _ _ ⟨rfl, rfl, hno, rfl⟩
  refine TP.dropTo ((pb, po) :: (qb, qo) :: nmL c2 nm :: psL c1 sp :: dL d r S (stL sp d n mp :: mpL mp ks :: (E ++ R))) ii (.retA rfl he ⟨_, rfl, _, ⟨hno, rfl, ?_, rfl⟩, rfl⟩)
  rw [hpk] at hno ⊢
  exact if_neg hno) ?_)
 rintro _ _ _ _ ⟨rfl, rfl, he0⟩
 refine zq <| zr <| mvS rfl rfl <| asS rfl rfl <| zq <| .s1 2 rfl <| x_ret (.to ((pb, po) :: (qb, qo) :: nmL c2 nm :: psL c1 sp :: dL d r S (stL sp d n mp :: mpL mp ks :: (E ++ R))) ii (ret1 rfl rfl he ⟨_, rfl, A3, m3, k3, rfl, he0, hb3, rfl⟩))
theorem sPublic_spec (hg : LmG M) {ks : List (KeyS × Nat)} {E : Own} (hE : KeysAt M d ks E) :
  Con Tryz.prog 24 #[.pointer (some ⟨sp, 0, none⟩), .string (sB nm)] G M (dL d r S (stL sp d n mp :: mpL mp ks :: (E ++ R)))
   (fun v M' L' => L' = dL d r S (stL sp d n mp :: mpL mp ks :: (E ++ R)) ∧ ∃ A m c, v = .tuple #[.slice A m c, .int .i64 (publicK ks nm).2] ∧ Bytes M' A m c (publicK ks nm).1) noPanic := by
 refine en Tryz.func24 rfl 10 rfl <| zr <| tl_e rfl <| e_box rfl <| fun b1 => tl_e rfl <| e_box rfl <| fun b2 => as0 rfl rfl <| as0 rfl rfl <| zq <| .s2 2 3 rfl rfl <| zr <| tl_y rfl (y_makeFunc rfl rfl) <| ec rfl rfl (caughtSB_spec (K := fun A m c M' L1 => (publicK ks nm).2 = 0 ∧ Bytes M' A m c (publicK ks nm).1 ∧ L1 = nmL b2 nm :: psL b1 sp :: dL d r S (stL sp d n mp :: mpL mp ks :: (E ++ R))) (Kp := fun e M' L1 => (publicK ks nm).2 ≠ 0 ∧ e = (publicK ks nm).2 ∧ (publicK ks nm).1 = [] ∧ L1 = nmL b2 nm :: psL b1 sp :: dL d r S (stL sp d n mp :: mpL mp ks :: (E ++ R))) (first := []) (cap := [.pointer (some ⟨b1, 0, none⟩), .pointer (some ⟨b2, 0, none⟩)]) (fun p' q' => sPublic1_spec hg hE)) ?_
 rintro v M1 L1 hM1 hv
 obtain ⟨A, m, c, rfl, k1, rfl⟩ : ∃ A m c, v = .tuple #[.slice A m c, .int .i64 (publicK ks nm).2] ∧ Bytes M1 A m c (publicK ks nm).1 ∧ L1 = nmL b2 nm :: psL b1 sp :: dL d r S (stL sp d n mp :: mpL mp ks :: (E ++ R)) := by
  rcases hv with ⟨A, m, c, rfl, h0, h1, rfl⟩ | ⟨e, rfl, h0, rfl, h1, rfl⟩
  ·
   exact ⟨A, m, c, by rw [h0], h1, rfl⟩
  exact ⟨none, 0, 0, rfl, by rw [h1]; exact Row.nil _ _, rfl⟩
 refine zx rfl rfl <| zx rfl rfl <| asS rfl rfl <| asI rfl rfl <| zq <| .s2 4 5 rfl rfl <| x_ret (.dropTo (dL d r S (stL sp d n mp :: mpL mp ks :: (E ++ R))) ii (ret2 rfl rfl rfl hM1 ⟨rfl, A, m, c, rfl, k1⟩))
theorem sRetire1_spec (hg : LmG M) (hsh : ShaG M) (h : IsDisk M r S) {B : Nat} (hw : S.within B) (hB : B ≤ 1000000) {ks : List (KeyS × Nat)} {E : Own} (hE : KeysAt M d ks E) (hok : ∀ q ∈ ks, OkS S q.1.s) {c1 c2 : Nat} {p' q' : Nat × Obj} :
  Con Tryz.prog 67 #[.pointer (some ⟨c1, 0, none⟩), .pointer (some ⟨c2, 0, none⟩)] G M (p' :: q' :: nmL c2 nm :: psL c1 sp :: dL d r S (stL sp d n mp :: mpL mp ks :: (E ++ R)))
   (fun v M' L' => ∃ L1, L' = p' :: q' :: L1 ∧ ∃ t, v = .bool t ∧ ∃ r' E', (retireK S ks nm).e = 0 ∧ IsDisk M' r' (retireK S ks nm).S ∧ KeysAt M' d (retireK S ks nm).ks E' ∧ L1 = nmL c2 nm :: psL c1 sp :: dL d r' (retireK S ks nm).S (stL sp d n mp :: mpL mp (retireK S ks nm).ks :: (E' ++ R)))
   (fun ch M' L' => ∃ L1, L' = p' :: q' :: L1 ∧ ∃ e, (∃ r' E', (retireK S ks nm).e ≠ 0 ∧ e = (retireK S ks nm).e ∧ IsDisk M' r' (retireK S ks nm).S ∧ KeysAt M' d (retireK S ks nm).ks E' ∧ L1 = nmL c2 nm :: psL c1 sp :: dL d r' (retireK S ks nm).S (stL sp d n mp :: mpL mp (retireK S ks nm).ks :: (E' ++ R))) ∧ ch = swrong e) := by
 obtain ⟨pb, po⟩ := p'
 obtain ⟨qb, qo⟩ := q'
 refine en Tryz.func67 rfl 11 rfl <| zr <| as0 rfl rfl <| zq <| zr <| tLd rfl rfl rfl <| tLd rfl rfl rfl <| tl_e rfl (e_call rfl (sof_spec (nm := nm) (ks := ks)) (by
  rintro _ _ _ _ ⟨rfl, rfl, hf, rfl⟩
  have e : retireK S ks nm = ⟨S, ks, [], 11⟩ := by rw [retireK, hf]
  exact .retA rfl (Le.refl _) ⟨_, rfl, 11, ⟨r, E, by rw [e]; simp, by rw [e], by rw [e]; exact h, by rw [e]; exact hE, by rw [e]⟩, rfl⟩) ?_)
 rintro _ _ _ _ ⟨rfl, rfl, q, hf, rfl⟩
 obtain ⟨hqm, hqn⟩ := findP_mem hf
 have hsk : retireK S ks nm = ⟨(retireC S q.1.s q.1.x q.1.head).1.1.1, setP ks (retiredK S q.1, q.2), [], (retireC S q.1.s q.1.x q.1.head).2⟩ := by rw [retireK, hf]
 obtain ⟨B0, E0, hkb, hperm, hset⟩ := hE.pick hf
 obtain ⟨c, p, x, y, z, HA, A0, hl, hc, l0, c0, rfl, w1, w2, w3, w4, w5⟩ := hkb.ex
 refine .to (E ++ ((pb, po) :: (qb, qo) :: nmL c2 nm :: psL c1 sp :: dL d r S (stL sp d n mp :: mpL mp ks :: R))) ii <| .to (kyL q.2 x y z c :: cL c q.1.x HA hl hc p :: sL p d q.1.s A0 l0 c0 :: (E0 ++ ((pb, po) :: (qb, qo) :: nmL c2 nm :: psL c1 sp :: dL d r S (stL sp d n mp :: mpL mp ks :: R)))) ⟨hperm.append_right _⟩ <| zc rfl rfl <| tFa rfl rfl <| tLd rfl rfl rfl <| ec rfl rfl (Con.to (dL d r S (sL p d q.1.s A0 l0 c0 :: cL c q.1.x HA hl hc p :: kyL q.2 x y z c :: (E0 ++ ((pb, po) :: (qb, qo) :: nmL c2 nm :: psL c1 sp :: stL sp d n mp :: mpL mp ks :: R)))) ii (Retire_spec hsh h (hok q hqm) hw hB w5 w4 q.1.x)) ?_
 rintro _ M2 _ hM2 ⟨⟨r2, A2, l2, k2, h2, hb2, rfl⟩, rfl⟩
 have hkE := hset hM2 (k' := retiredK S q.1) hqn ⟨c, p, x, y, z, HA, A2, hl, hc, l2, k2, rfl, w1.mono hM2, w2.mono hM2, w3.mono hM2, w4.mono hM2, hb2⟩
 have hkv := kvsK_setP (k' := retiredK S q.1) hqn hf
 have hmp : mpL mp ks = mpL mp (setP ks (retiredK S q.1, q.2)) := by show (mp, mapO (kvsK ks)) = (mp, mapO (kvsK _)); rw [hkv]
 have hqx : (retireC S q.1.s q.1.x q.1.head).1.2 = (retiredK S q.1).x := rfl
 have hqs : (retireC S q.1.s q.1.x q.1.head).1.1.2 = (retiredK S q.1).s := rfl
 rw [hqx, hqs, hmp]
 obtain ⟨T, hT⟩ : ∃ T, retireC S q.1.s q.1.x q.1.head = T := ⟨_, rfl⟩
 obtain ⟨k', hk'⟩ : ∃ k', retiredK S q.1 = k' := ⟨_, rfl⟩
 rw [hT, hk'] at hsk
 rw [hT] at h2
 rw [hk'] at hkE
 rw [hT, hk']
 refine tl_e rfl (e_call rfl (swell_spec _) (by
  rintro _ _ _ _ ⟨rfl, rfl, hno, rfl⟩
  refine TP.dropTo ((pb, po) :: (qb, qo) :: nmL c2 nm :: psL c1 sp :: dL d r2 T.1.1.1 (stL sp d n mp :: mpL mp (setP ks (k', q.2)) :: (kyL q.2 x y z c :: cL c k'.x HA hl hc p :: sL p d k'.s A2 l2 k2 :: (E0 ++ R)))) ii (.retA rfl hM2 ⟨_, rfl, _, ⟨r2, [kyL q.2 x y z c, cL c k'.x HA hl hc p, sL p d k'.s A2 l2 k2] ++ E0, ?_, rfl, ?_, ?_, ?_⟩, by rw [hsk]⟩)
  ·
   rw [hsk]; exact hno
  ·
   rw [hsk]; exact h2
  ·
   rw [hsk]; exact hkE
  rw [hsk]; rfl) ?_)
 rintro _ _ _ _ ⟨rfl, rfl, he0⟩
 refine zq <| .s0 <| zr <| as0 rfl rfl <| zq <| x_ret (.dropTo ((pb, po) :: (qb, qo) :: nmL c2 nm :: psL c1 sp :: dL d r2 T.1.1.1 (stL sp d n mp :: mpL mp (setP ks (k', q.2)) :: (kyL q.2 x y z c :: cL c k'.x HA hl hc p :: sL p d k'.s A2 l2 k2 :: (E0 ++ R)))) ii (ret1 rfl rfl hM2 ⟨_, rfl, true, rfl, r2, [kyL q.2 x y z c, cL c k'.x HA hl hc p, sL p d k'.s A2 l2 k2] ++ E0, by rw [hsk]; exact he0, by rw [hsk]; exact h2, by rw [hsk]; exact hkE, by rw [hsk]; rfl⟩))
theorem sRetire_spec (hg : LmG M) (hsh : ShaG M) (h : IsDisk M r S) {B : Nat} (hw : S.within B) (hB : B ≤ 1000000) {ks : List (KeyS × Nat)} {E : Own} (hE : KeysAt M d ks E) (hok : ∀ q ∈ ks, OkS S q.1.s) :
  Con Tryz.prog 25 #[.pointer (some ⟨sp, 0, none⟩), .string (sB nm)] G M (dL d r S (stL sp d n mp :: mpL mp ks :: (E ++ R)))
   (fun v M' L' => ∃ r' E', v = .int .i64 (retireK S ks nm).e ∧ IsDisk M' r' (retireK S ks nm).S ∧ KeysAt M' d (retireK S ks nm).ks E' ∧ L' = dL d r' (retireK S ks nm).S (stL sp d n mp :: mpL mp (retireK S ks nm).ks :: (E' ++ R))) noPanic := by
 refine en Tryz.func25 rfl 13 rfl <| zr <| tl_e rfl <| e_box rfl <| fun b1 => tl_e rfl <| e_box rfl <| fun b2 => as0 rfl rfl <| zq <| zr <| tl_y rfl (y_makeFunc rfl rfl) <| ec rfl rfl (caughtST_spec (K := fun (t : Bool) M' L1 => ∃ r' E', (retireK S ks nm).e = 0 ∧ IsDisk M' r' (retireK S ks nm).S ∧ KeysAt M' d (retireK S ks nm).ks E' ∧ L1 = nmL b2 nm :: psL b1 sp :: dL d r' (retireK S ks nm).S (stL sp d n mp :: mpL mp (retireK S ks nm).ks :: (E' ++ R))) (Kp := fun e M' L1 => ∃ r' E', (retireK S ks nm).e ≠ 0 ∧ e = (retireK S ks nm).e ∧ IsDisk M' r' (retireK S ks nm).S ∧ KeysAt M' d (retireK S ks nm).ks E' ∧ L1 = nmL b2 nm :: psL b1 sp :: dL d r' (retireK S ks nm).S (stL sp d n mp :: mpL mp (retireK S ks nm).ks :: (E' ++ R))) (first := []) (cap := [.pointer (some ⟨b1, 0, none⟩), .pointer (some ⟨b2, 0, none⟩)]) (fun p' q' => sRetire1_spec hg hsh h hw hB hE hok)) ?_
 rintro v M1 L1 hM1 hv
 obtain ⟨t, r', E', rfl, k2, k3, rfl⟩ : ∃ t r' E', v = .tuple #[.bool t, .int .i64 (retireK S ks nm).e] ∧ IsDisk M1 r' (retireK S ks nm).S ∧ KeysAt M1 d (retireK S ks nm).ks E' ∧ L1 = nmL b2 nm :: psL b1 sp :: dL d r' (retireK S ks nm).S (stL sp d n mp :: mpL mp (retireK S ks nm).ks :: (E' ++ R)) := by
  rcases hv with ⟨t, rfl, r', E', h0, h2, h3, rfl⟩ | ⟨e, rfl, r', E', h0, rfl, h2, h3, rfl⟩
  ·
   exact ⟨t, r', E', by rw [h0], h2, h3, rfl⟩
  exact ⟨_, r', E', rfl, h2, h3, rfl⟩
 refine mvU rfl rfl <| zx rfl rfl <| zx rfl rfl <| asB rfl rfl <| asI rfl rfl <| zq <| .s1 6 rfl <| zr <| mvI rfl rfl <| asI rfl rfl <| zq <| x_ret (.dropTo (dL d r' (retireK S ks nm).S (stL sp d n mp :: mpL mp (retireK S ks nm).ks :: (E' ++ R))) ii (ret1 rfl rfl hM1 ⟨r', E', rfl, k2, k3, rfl⟩))
end
abbrev blt (a b : List UInt8) : Bool := Op.bytesLess a b
theorem blt_nil (x : List UInt8) : blt x [] = false := by cases x <;> rfl
theorem blt_cons (a b : UInt8) (x y : List UInt8) : blt (a :: x) (b :: y) = if a.toNat < b.toNat then true else if b.toNat < a.toNat then false else blt x y := by
 show Op.bytesLess (a :: x) (b :: y) = _
 rw [Op.bytesLess]
 have e1 : a < b ↔ a.toNat < b.toNat := UInt8.lt_iff_toNat_lt
 by_cases h1 : a.toNat < b.toNat
 ·
  rw [if_pos h1, decide_eq_true (e1.2 h1)]; rfl
 rw [if_neg h1, decide_eq_false (fun h => h1 (e1.1 h))]
 by_cases h2 : b.toNat < a.toNat
 ·
  have hne : (a == b) = false := by
   rw [beq_eq_false_iff_ne]; intro h; rw [h] at h2; omega
  rw [if_pos h2, hne]; rfl
 have heq : a = b := UInt8.toNat_inj.1 (by omega)
 rw [if_neg h2, heq]; simp
theorem blt_asym : ∀ {x y : List UInt8}, blt x y = true → blt y x = false
 | [], [], h => rfl
 | [], b :: y, h => rfl
 | a :: x, [], h => by cases h
 | a :: x, b :: y, h => by
  rw [blt_cons] at h ⊢
  by_cases h1 : a.toNat < b.toNat
  ·
   rw [if_neg (by omega), if_pos h1]
  rw [if_neg h1] at h
  by_cases h2 : b.toNat < a.toNat
  ·
   rw [if_pos h2] at h; cases h
  rw [if_neg h2] at h
  rw [if_neg h2, if_neg h1]; exact blt_asym h
theorem blt_trans : ∀ {x y z : List UInt8}, blt y x = false → blt z y = false → blt z x = false
 | [], y, z, _, _ => blt_nil z
 | a :: x, [], z, h, _ => by cases h
 | a :: x, b :: y, [], _, h => by cases h
 | a :: x, b :: y, c :: z, h1, h2 => by
  rw [blt_cons] at h1 h2 ⊢
  by_cases k1 : b.toNat < a.toNat
  ·
   rw [if_pos k1] at h1; cases h1
  rw [if_neg k1] at h1
  by_cases k2 : c.toNat < b.toNat
  ·
   rw [if_pos k2] at h2; cases h2
  rw [if_neg k2] at h2
  rw [if_neg (by omega)]
  by_cases k3 : a.toNat < c.toNat
  ·
   rw [if_pos k3]
  rw [if_neg k3]
  rw [if_neg (by omega)] at h1 h2
  exact blt_trans h1 h2
theorem blt_eq : ∀ {x y : List UInt8}, blt x y = false → blt y x = false → x = y
 | [], [], _, _ => rfl
 | [], b :: y, h, _ => by cases h
 | a :: x, [], _, h => by cases h
 | a :: x, b :: y, h1, h2 => by
  rw [blt_cons] at h1 h2
  by_cases k1 : a.toNat < b.toNat
  ·
   rw [if_pos k1] at h1; cases h1
  by_cases k2 : b.toNat < a.toNat
  ·
   rw [if_pos k2] at h2; cases h2
  rw [if_neg k1, if_neg k2] at h1
  rw [if_neg k2, if_neg k1] at h2
  rw [blt_eq h1 h2, show a = b from UInt8.toNat_inj.1 (by omega)]
theorem sB_toList (a : List UInt8) : (sB a).toList = a := by
 have h := toList_go (sB a) ((sB a).size - 0) 0 [] rfl
 exact h
section
variable {P : Program} {F : Fr} {M : Mem} {L : Own}
theorem y_lssStr {x y : Operand} {t t' ty : TypeId} {a b : List UInt8} (hx : ev F x = some (.string (sB a))) (hy : ev F y = some (.string (sB b))) : Yld P (.binOp .lss t x y t') ty F M L (.bool (blt a b)) := fun w ρ hs hρ => by
 have hr : (binOp .lss t (.string (sB a)) (.string (sB b))).run P w = .ok (.bool (blt a b)) w := by
  simp only [binOp, Op.stringOp, Sem.run_pure, sB_toList]
 simp only [execOp, hρ _ _ hx, hρ _ _ hy, Sem.run_bind, eqGuard_string, Result.andThen_ok, hr, Sem.run_pure]
end
section
variable {G : World} {M : Mem} {L : Own}
theorem isNaN_spec (a : List UInt8) : Con Tryz.prog 255 #[.string (sB a)] G M L (fun v M' L' => M = M' ∧ L = L' ∧ v = .bool false) noPanic := by
 refine en Tryz.func255 rfl 6 rfl <| zr <| as0 rfl rfl <| zq <| zr <| mvT rfl rfl <| mvT rfl rfl <| tl_y rfl (y_neqStr rfl rfl) <| asB rfl rfl <| zq <| .s1 2 rfl <| x_ret (ret1 rfl rfl (Le.refl _) ⟨rfl, rfl, by simp⟩)
theorem cmpLess_spec (a b : List UInt8) : Con Tryz.prog 208 #[.string (sB a), .string (sB b)] G M L (fun v M' L' => M = M' ∧ L = L' ∧ v = .bool (blt a b)) noPanic := by
 refine en Tryz.func208 rfl 17 rfl <| zr <| as0 rfl rfl <| zq <| zr <| mvT rfl rfl <| ec rfl rfl (isNaN_spec a) ?_
 rintro _ _ _ _ ⟨rfl, rfl, rfl⟩
 refine mvB rfl rfl <| tl_set (s := 7) (u := .bool false) rfl (rfl) <| tl_skip rfl <| tl_skip rfl <| tl_skip rfl <| tPf rfl rfl rfl <| mvB rfl rfl <| mvT rfl rfl <| mvT rfl rfl <| tl_y rfl (y_lssStr rfl rfl) <| tPf rfl rfl rfl <| asB rfl rfl <| zq <| .s1 4 rfl <| x_ret (ret1 rfl rfl (Le.refl _) ⟨rfl, rfl, rfl⟩)
end
abbrev nth (ns : List (List UInt8)) (i : Nat) : List UInt8 := ns.getD i []
def swp (ns : List (List UInt8)) (i : Nat) : List (List UInt8) := (ns.set (i + 1) (nth ns i)).set i (nth ns (i + 1))
theorem swp_len (ns : List (List UInt8)) (i : Nat) : (swp ns i).length = ns.length := by simp [swp]
theorem swp_perm : ∀ (ns : List (List UInt8)) (i : Nat), i + 1 < ns.length → (swp ns i).Perm ns
 | [], i, h => by simp at h
 | [a], i, h => by simp at h
 | a :: b :: t, 0, h => List.Perm.swap _ _ _
 | a :: b :: t, i + 1, h => by
  have ih := swp_perm (b :: t) i (by simpa using h)
  exact List.Perm.cons a ih
theorem swp_nth {ns : List (List UInt8)} {i : Nat} (h : i + 1 < ns.length) (x : Nat) : nth (swp ns i) x = if x = i then nth ns (i + 1) else if x = i + 1 then nth ns i else nth ns x := by
 simp only [nth, swp, List.getD_eq_getElem?_getD, List.getElem?_set, List.length_set]
 by_cases h1 : i = x
 ·
  subst h1
  rw [if_pos rfl, if_pos rfl, if_pos (by omega)]; rfl
 rw [if_neg h1, if_neg (show ¬ x = i by omega)]
 by_cases h2 : i + 1 = x
 ·
  subst h2
  rw [if_pos rfl, if_pos rfl, if_pos (by omega)]; rfl
 rw [if_neg h2, if_neg (show ¬ x = i + 1 by omega)]
def srt (ns : List (List UInt8)) (i : Nat) : Prop := ∀ x y, x < y → y < i → blt (nth ns y) (nth ns x) = false
def mid (ns : List (List UInt8)) (i j : Nat) : Prop := ∀ x y, x < y → y < i + 1 → y ≠ j → blt (nth ns y) (nth ns x) = false
theorem srt_mid {ns : List (List UInt8)} {i : Nat} (h : srt ns i) : mid ns i i := fun x y h1 h2 h3 => h x y h1 (by omega)
theorem mid_srt {ns : List (List UInt8)} {i j : Nat} (h : mid ns i j) (hj : j ≤ i) (h0 : j = 0 ∨ blt (nth ns j) (nth ns (j - 1)) = false) : srt ns (i + 1) := fun x y h1 h2 => by
 by_cases e : y = j
 ·
  subst e
  rcases h0 with h0 | h0
  ·
   omega
  by_cases e2 : x = y - 1
  ·
   rw [e2]; exact h0
  exact blt_trans (h x (y - 1) (by omega) (by omega) (by omega)) h0
 exact h x y h1 h2 e
theorem mid_swp {ns : List (List UInt8)} {i j : Nat} (h : mid ns i (j + 1)) (hj : j + 1 ≤ i) (hi : i < ns.length) (hl : blt (nth ns (j + 1)) (nth ns j) = true) : mid (swp ns j) i j := fun x y h1 h2 h3 => by
 rw [swp_nth (by omega) y, swp_nth (by omega) x, if_neg h3]
 by_cases e : y = j + 1
 ·
  rw [if_pos e]
  by_cases e2 : x = j
  ·
   rw [if_pos e2]; exact blt_asym hl
  rw [if_neg e2, if_neg (by omega)]; exact h x j (by omega) (by omega) (by omega)
 rw [if_neg e]
 by_cases e2 : x = j
 ·
  rw [if_pos e2]; exact h (j + 1) y (by omega) h2 e
 rw [if_neg e2]
 by_cases e3 : x = j + 1
 ·
  rw [if_pos e3]; exact h j y (by omega) h2 e
 rw [if_neg e3]; exact h x y h1 h2 e
def strR (ns : List (List UInt8)) : List Value := ns.map fun n => .string (sB n)
theorem strR_len (ns : List (List UInt8)) : (strR ns).length = ns.length := by simp [strR]
theorem strR_get {ns : List (List UInt8)} {i : Nat} (h : i < ns.length) : (strR ns)[i]? = some (.string (sB (nth ns i))) := by
 rw [strR, List.getElem?_map, List.getElem?_eq_getElem h, nth, List.getD_eq_getElem?_getD, List.getElem?_eq_getElem h]; rfl
theorem strR_set (ns : List (List UInt8)) (i : Nat) (a : List UInt8) : (strR ns).set i (.string (sB a)) = strR (ns.set i a) := by simp [strR, List.map_set]
section
variable {G : World} {M : Mem} {L : Own}
theorem isort_spec {A : Option Addr} {n c : Nat} {ns : List (List UInt8)} {E : Own} (hE : OwnRow 9 1 A n c (strR ns) E) (hn : 1 ≤ n) (hn2 : n ≤ 1000) :
  Con Tryz.prog 202 #[.slice A n c, .int .i64 0, .int .i64 n] G M (E ++ L) (fun v M' L' => M = M' ∧ ∃ ns' E', L' = E' ++ L ∧ OwnRow 9 1 A n c (strR ns') E' ∧ ns'.Perm ns ∧ srt ns' n) noPanic := by
 have hmx := hE.max
 have hle := hE.le
 have hvl : ns.length = n := by have := hE.len; simp [strR] at this; omega
 obtain ⟨g, pre, slack, rfl, rfl⟩ := hE.pos (by omega)
 refine en Tryz.func202 rfl 49 rfl <| zr <| mvI rfl rfl <| tl_y rfl (y_addI rfl rfl (by omega)) ?_
 rw [show (0 : Int) + 1 = ((1 : Nat) : Int) from rfl]
 refine asI rfl rfl <| zq <| x_block ?_
 refine x_loop (I := fun m' F D M1 L1 => ∃ (i : Nat) (ws : List (List UInt8)), m' = n - i ∧ 1 ≤ i ∧ i ≤ n ∧ ws.length = n ∧ ws.Perm ns ∧ srt ws i ∧ OwnRow 9 1 (some ⟨g, pre.length, none⟩) n c (strR ws) [(g, .cells (pre ++ (strR ws ++ slack)).toArray 9 (0, 0))] ∧ D = [] ∧ M = M1 ∧ L1 = (g, .cells (pre ++ (strR ws ++ slack)).toArray 9 (0, 0)) :: L ∧ F = [(0, .slice (some ⟨g, pre.length, none⟩) n c), (1, .int .i64 0), (2, .int .i64 n), (6, .int .i64 i)]) (n - 1) (F0 := [(0, _), (1, _), (2, _), (6, _)]) ?_ (cs4 rfl rfl rfl rfl) ?_
 ·
  exact ⟨1, ns, by omega, by omega, by omega, hvl, List.Perm.refl _, fun x y h1 h2 => by omega, hE, rfl, rfl, rfl, rfl⟩
 rintro m _ _ _ _ ⟨i, ws, rfl, hi1, hi, hwl, hwp, hws, hW, rfl, rfl, rfl, rfl⟩
 refine zr2 <| mvI rfl rfl <| mvI rfl rfl <| tl_y rfl (y_lss rfl rfl) <| zq <| x_cond rfl (fun hc1 => ?_) (fun hc1 => ?_)
 ·
  have hin : i < n := by omega
  refine x_skip <| .then_normal <| x_seq <| x_block <| zr <| mvI rfl rfl <| asI rfl rfl <| zq <| .s5 0 1 2 6 7 rfl rfl rfl rfl rfl <| x_block ?_
  refine x_loop (I := fun m' F D M1 L1 => ∃ (j : Nat) (us : List (List UInt8)), m' = j + i - i ∧ j ≤ i ∧ us.length = n ∧ us.Perm ns ∧ mid us i j ∧ OwnRow 9 1 (some ⟨g, pre.length, none⟩) n c (strR us) [(g, .cells (pre ++ (strR us ++ slack)).toArray 9 (0, 0))] ∧ D = [] ∧ M = M1 ∧ L1 = (g, .cells (pre ++ (strR us ++ slack)).toArray 9 (0, 0)) :: L ∧ F = [(0, .slice (some ⟨g, pre.length, none⟩) n c), (1, .int .i64 0), (2, .int .i64 n), (6, .int .i64 i), (7, .int .i64 j)]) (i) (F0 := [(0, _), (1, _), (2, _), (6, _), (7, _)]) ?_ (cs5 rfl rfl rfl rfl rfl) ?_
  ·
   exact ⟨i, ws, by omega, by omega, hwl, hwp, srt_mid hws, hW, rfl, rfl, rfl, rfl⟩
  rintro m _ _ _ _ ⟨j, us, rfl, hj, hul, hup, hum, hU, rfl, rfl, rfl, rfl⟩
  refine x_seq <| x_seq ?_
  obtain ⟨g', o', hgo, hcu⟩ := hU.cellIn (M := M) (L := [(g, .cells (pre ++ (strR us ++ slack)).toArray 9 (0, 0))] ++ L) ii (by rw [strR_len]; omega)
  obtain ⟨rfl, rfl⟩ : g = g' ∧ pre.length = o' := by simpa using hgo
  have hc := fun (x : Nat) (hx : x < n) => hcu x _ (strR_get (ns := us) (i := x) (by omega))
  have hsl := strR_len us
  refine x_draw 15 hmix rfl <| zp 0 rfl rfl (y_move (v := .int _ _) rfl) <| zp 1 rfl rfl (y_move (v := .int _ _) rfl) <| zp 2 rfl rfl (y_gtr rfl rfl) <| zp 3 rfl rfl (y_move (v := .bool _) rfl) <| to_casesb (s := 19) rfl (fun hk1 => ?_) (fun hk1 => ?_)
  ·
   have hj1 : 1 ≤ j := by
    have : (0 : Int) < (j : Int) := by simpa using hk1
    omega
   obtain ⟨k, rfl⟩ : ∃ k, j = k + 1 := ⟨j - 1, by omega⟩
   refine zp 4 rfl rfl (y_move (v := .slice _ _ _) rfl) <| zp 5 rfl rfl (y_move (v := .int _ _) rfl) <| zp 6 rfl rfl (y_indexAddr rfl rfl (by omega)) <| zy 7 rfl rfl (y_load rfl rfl (.at_ (hc (k + 1) (by omega)) (by omega))) <| zp 8 rfl rfl (y_move (v := .slice _ _ _) rfl) <| zp 9 rfl rfl (y_move (v := .int _ _) rfl) <| zp 10 rfl rfl (y_subI rfl rfl (by omega)) ?_
   rw [show ((k + 1 : Nat) : Int) - 1 = (k : Int) by omega]
   refine zp 11 rfl rfl (y_indexAddr rfl rfl (by omega)) <| zy 12 rfl rfl (y_load rfl rfl (.at_ (hc k (by omega)) (by omega))) <| ze 13 rfl rfl <| e_call' rfl (cmpLess_spec (nth us (k + 1)) (nth us k)) ?_
   rintro _ _ _ _ ⟨rfl, rfl, rfl⟩
   refine ⟨⟨(by first | exact Le.refl _ | assumption), Keeps.mem⟩, ?_⟩
   refine zp 14 rfl rfl (y_pickT rfl rfl) <| zz <| .then_normal <| .s6 0 1 2 6 7 30 rfl rfl rfl rfl rfl rfl <| x_condb rfl (fun hc2 => ?_) (fun hc2 => ?_)
   ·
    have hlt : blt (nth us (k + 1)) (nth us k) = true := hc2
    have hW1 := hU.set (k + 1) (.string (sB (nth us k))) (by omega)
    rw [set_mid (by omega), strR_set] at hW1
    have hsl1 := strR_len (us.set (k + 1) (nth us k))
    have hsl2 : (us.set (k + 1) (nth us k)).length = n := by simp [hul]
    have hW2 := hW1.set k (.string (sB (nth us (k + 1)))) (by omega)
    rw [set_mid (by omega), strR_set] at hW2
    change OwnRow _ _ _ _ _ (strR (swp us k)) _ at hW2
    refine x_skip <| .then_normal <| x_seq <| x_block <| x_draw 15 hmix rfl <| zp 0 rfl rfl (y_move (v := .slice _ _ _) rfl) <| zp 1 rfl rfl (y_move (v := .int _ _) rfl) <| zp 2 rfl rfl (y_move (v := .slice _ _ _) rfl) <| zp 3 rfl rfl (y_move (v := .int _ _) rfl) <| zp 4 rfl rfl (y_subI rfl rfl (by omega)) ?_
    rw [show ((k + 1 : Nat) : Int) - 1 = (k : Int) by omega]
    refine zp 5 rfl rfl (y_move (v := .slice _ _ _) rfl) <| zp 6 rfl rfl (y_move (v := .int _ _) rfl) <| zp 7 rfl rfl (y_subI rfl rfl (by omega)) ?_
    rw [show ((k + 1 : Nat) : Int) - 1 = (k : Int) by omega]
    refine zp 8 rfl rfl (y_indexAddr rfl rfl (by omega)) <| zy 9 rfl rfl (y_load rfl rfl (.at_ (hc k (by omega)) (by omega))) <| zp 10 rfl rfl (y_move (v := .slice _ _ _) rfl) <| zp 11 rfl rfl (y_move (v := .int _ _) rfl) <| zp 12 rfl rfl (y_indexAddr rfl rfl (by omega)) <| zy 13 rfl rfl (y_load rfl rfl (.at_ (hc (k + 1) (by omega)) (by omega))) <| zp 14 rfl rfl (y_indexAddr rfl rfl (by omega)) <| zt 15 rfl rfl <| e_storeAt (c := pre ++ (strR us ++ slack)) rfl rfl rfl ii (by rw [List.length_append, List.length_append, hsl]; omega) ii ?_
    rw [show pre.length + ((k + 1 : Nat) : Int).toNat * 1 = pre.length + (k + 1) by omega, set_mid (by omega), strR_set]
    refine zp 16 rfl rfl (y_indexAddr rfl rfl (by omega)) <| zt 17 rfl rfl <| e_storeAt (c := pre ++ (strR (us.set (k + 1) (nth us k)) ++ slack)) rfl rfl rfl ii (by rw [List.length_append, List.length_append, hsl1, hsl2]; omega) ii ?_
    rw [show pre.length + ((k : Nat) : Int).toNat * 1 = pre.length + k by omega, set_mid (by omega), strR_set]
    refine zz <| .block_normal <| .then_normal <| .s5 0 1 2 6 7 rfl rfl rfl rfl rfl <| x_region <| mvI rfl rfl <| tl_y rfl (y_subI rfl rfl (by omega)) ?_
    rw [show ((k + 1 : Nat) : Int) - 1 = (k : Int) by omega]
    refine asI rfl rfl <| tl_nil <| .loop_next (m' := k + i - i) (by omega) (F' := [(0, _), (1, _), (2, _), (6, _), (7, _)]) (cs5 rfl rfl rfl rfl rfl) ?_
    exact ⟨k, swp us k, by omega, by omega, by rw [swp_len]; exact hul, (swp_perm us k (by omega)).trans hup, mid_swp hum hj (by omega) hlt, hW2, rfl, rfl, rfl, by simp⟩
   refine x_exit <| .then_exit <| .loop_exit <| .block_exit <| .block_normal <| .then_normal <| x_region <| mvI rfl rfl <| tl_y rfl (y_addI rfl rfl (by omega)) <| asI rfl rfl <| tl_nil <| .loop_next (m' := n - (i + 1)) (by omega) (F' := [(0, _), (1, _), (2, _), (6, _)]) (cs4 rfl rfl rfl rfl) ?_
   exact ⟨i + 1, us, by omega, by omega, by omega, hul, hup, mid_srt hum hj (.inr hc2), hU, rfl, rfl, rfl, rfl⟩
  refine zs 4 rfl rfl <| zs 5 rfl rfl <| zs 6 rfl rfl <| zs 7 rfl rfl <| zs 8 rfl rfl <| zs 9 rfl rfl <| zs 10 rfl rfl <| zs 11 rfl rfl <| zs 12 rfl rfl <| zs 13 rfl rfl ?_
  refine zp 14 rfl rfl (y_pickF rfl rfl) <| zz <| .then_normal <| .s6 0 1 2 6 7 30 rfl rfl rfl rfl rfl rfl <| x_false rfl rfl <| x_exit <| .then_exit <| .loop_exit <| .block_exit <| .block_normal <| .then_normal <| x_region <| mvI rfl rfl <| tl_y rfl (y_addI rfl rfl (by omega)) <| asI rfl rfl <| tl_nil <| .loop_next (m' := n - (i + 1)) (by omega) (F' := [(0, _), (1, _), (2, _), (6, _)]) (cs4 rfl rfl rfl rfl) ?_
  exact ⟨i + 1, us, by omega, by omega, by omega, hul, hup, mid_srt hum hj (.inl (by
   have : ¬ (0 : Int) < (j : Int) := by simpa using hk1
   omega)), hU, rfl, rfl, rfl, rfl⟩
 refine x_exit (.then_exit (.loop_exit (.block_exit (end0 rfl (Le.refl _) ⟨rfl, ws, _, rfl, hW, hwp, by
  obtain rfl : i = n := by omega
  exact hws⟩))))
end
section
variable {G : World} {M : Mem} {L : Own}
theorem pdq_spec {A : Option Addr} {n c : Nat} {ns : List (List UInt8)} {E : Own} (hE : OwnRow 9 1 A n c (strR ns) E) (hn : 1 ≤ n) (hn2 : n ≤ 12) (z : Nat) :
  Con Tryz.prog 159 #[.slice A n c, .int .i64 0, .int .i64 n, .int .i64 z] G M (E ++ L) (fun v M' L' => M = M' ∧ ∃ ns' E', L' = E' ++ L ∧ OwnRow 9 1 A n c (strR ns') E' ∧ ns'.Perm ns ∧ srt ns' n) noPanic := by
 refine en Tryz.func159 rfl 134 rfl <| zr <| as0 rfl rfl <| zq <| zr <| as0 rfl rfl <| zq <| x_block ?_
 refine x_loop (I := fun m' F D M1 L1 => m' = 0 ∧ D = [] ∧ M = M1 ∧ E ++ L = L1 ∧ F = [(0, .slice A n c), (1, .int .i64 0), (2, .int .i64 n), (3, .int .i64 z), (8, .bool true), (9, .bool true)]) (0) (F0 := [(0, _), (1, _), (2, _), (3, _), (8, _), (9, _)]) ?_ (cs6 rfl rfl rfl rfl rfl rfl) ?_
 ·
  exact ⟨rfl, rfl, rfl, rfl, rfl⟩
 rintro m _ _ _ _ ⟨rfl, rfl, rfl, rfl, rfl⟩
 refine x_block <| zr <| mvI rfl rfl <| mvI rfl rfl <| tl_y rfl (y_subI rfl rfl (by omega)) <| asI rfl rfl <| zq <| zr2 <| mvI rfl rfl <| tl_y rfl (y_leq rfl rfl) <| zq <| .s8 0 1 2 3 8 9 10 23 rfl rfl rfl rfl rfl rfl rfl rfl <| x_true rfl (by rw [decide_eq_true]; omega) <| zr <| mvS rfl rfl <| mvI rfl rfl <| mvI rfl rfl <| ec rfl rfl (isort_spec hE hn (by omega)) ?_
 rintro _ _ _ _ ⟨rfl, ns', E', rfl, h1, h2, h3⟩
 refine zq <| .s6 0 1 2 3 8 9 rfl rfl rfl rfl rfl rfl <| x_ret (.then_ret (.block_ret (.loop_ret (.block_ret (ret0 rfl (Le.refl _) ⟨rfl, ns', E', rfl, h1, h2, h3⟩)))))
theorem sort_spec {A : Option Addr} {n c : Nat} {ns : List (List UInt8)} {E : Own} (hE : OwnRow 9 1 A n c (strR ns) E) (hn : 1 ≤ n) (hn2 : n ≤ 12) :
  Con Tryz.prog 109 #[.slice A n c] G M (E ++ L) (fun v M' L' => M = M' ∧ ∃ ns' E', L' = E' ++ L ∧ OwnRow 9 1 A n c (strR ns') E' ∧ ns'.Perm ns ∧ srt ns' n) noPanic := by
 refine en Tryz.func109 rfl 11 rfl <| zr <| mvS rfl rfl <| tLen rfl rfl <| asI rfl rfl <| zq <| x_region <| mvS rfl rfl <| mvI rfl rfl <| mvI rfl rfl <| tl_y rfl (y_convN64 rfl (by omega)) <| ec rfl rfl (len_spec n (by omega)) ?_
 rintro _ _ _ _ ⟨rfl, rfl, rfl⟩
 refine ec rfl rfl (pdq_spec hE hn hn2 (lenT n)) ?_
 rintro _ _ _ _ ⟨rfl, ns', E', rfl, h1, h2, h3⟩
 refine tl_nil (end0 rfl (Le.refl _) ⟨rfl, ns', E', rfl, h1, h2, h3⟩)
end
end Go.Proofs.YtplkoemjffplcaaGreatDoor
