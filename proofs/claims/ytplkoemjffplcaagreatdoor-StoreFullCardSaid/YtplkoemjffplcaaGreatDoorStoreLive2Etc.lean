/-
Contracts of functions, each proved by a walk through its code.
-/
import Derived.Test.YtplkoemjffplcaaGreatDoorStore10Etc
import Derived.Test.YtplkoemjffplcaaGreatDoorHss14Etc
import Derived.Test.YtplkoemjffplcaaGreatDoorHss11Etc
set_option linter.all false
namespace Go.Proofs.YtplkoemjffplcaaGreatDoor
open Go Go.Eng
structure LiveSt (S : DS) (ks : List KeyS) : Prop where
 calm : S.calm
 le : ks.length ≤ areasN S
 live : ∀ i k, ks[i]? = some k → LiveK S k i
 free : ∀ i, ks.length ≤ i → i < areasN S → FreeA S i
 names : (ks.map (·.h.name)).Nodup
theorem hasK_false {ks : List KeyS} {nm : List UInt8} : hasK ks nm = false ↔ nm ∉ ks.map (·.h.name) := by
 rw [hasK, List.any_eq_false]
 constructor
 ·
  intro h hm
  obtain ⟨k, hk, e⟩ := List.mem_map.1 hm
  have := h k hk
  simp [e] at this
 intro h k hk
 simp only [decide_eq_true_eq]
 intro e
 exact h (List.mem_map.2 ⟨k, hk, e⟩)
theorem LiveSt.openGo_eq {S : DS} {ks : List KeyS} (h : LiveSt S ks) : ∀ m, m ≤ areasN S → openGo S m = (0, (ks.take m).map KeyS.anew)
 | 0, _ => rfl
 | m + 1, hm => by
  have ih := h.openGo_eq m (by omega)
  rw [Go.Proofs.YtplkoemjffplcaaGreatDoor.openGo, ih, if_neg (by simp)]
  by_cases hmk : m < ks.length
  ·
   obtain ⟨k, hk⟩ : ∃ k, ks[m]? = some k := ⟨_, List.getElem?_eq_getElem hmk⟩
   have ht : ks.take (m + 1) = ks.take m ++ [k] := by rw [List.take_add_one, hk]; rfl
   rw [(h.live m k hk).loadK, if_neg (by simp)]
   have hno : hasK ((ks.take m).map KeyS.anew) k.anew.h.name = false := by
    rw [hasK_false, List.map_map]
    show k.h.name ∉ (ks.take m).map (·.h.name)
    have hnd := h.names
    rw [← List.take_append_drop (m + 1) ks, ht, List.map_append, List.map_append] at hnd
    have h1 := (List.nodup_append.1 (List.nodup_append.1 hnd).1).2.2
    intro hm
    exact h1 _ hm _ (by simp) rfl
   show (if hasK ((ks.take m).map KeyS.anew) k.anew.h.name then _ else _) = _
   rw [hno, ht, List.map_append]; rfl
  rw [(h.free m (by omega) (by omega)).loadK, if_neg (by simp)]
  show (0, (ks.take m).map KeyS.anew) = _
  rw [List.take_of_length_le (by omega), List.take_of_length_le (by omega)]
theorem LiveSt.openS_eq {S : DS} {ks : List KeyS} (h : LiveSt S ks) (h0 : areasN S ≠ 0) : openS S = (0, ks.map KeyS.anew) := by
 rw [Go.Proofs.YtplkoemjffplcaaGreatDoor.openS, if_neg h0, h.openGo_eq _ (Nat.le_refl _), List.take_of_length_le h.le]
theorem LiveSt.freeGo_eq {S : DS} {ks : List KeyS} (h : LiveSt S ks) {nm : List UInt8} (hn : nm ∉ ks.map (·.h.name)) : ∀ m, m ≤ areasN S → freeGo S nm m = (0, if ks.length < m then (ks.length : Int) else -1)
 | 0, _ => rfl
 | m + 1, hm => by
  have ih := h.freeGo_eq hn m (by omega)
  rw [Go.Proofs.YtplkoemjffplcaaGreatDoor.freeGo, ih, if_neg (by simp)]
  by_cases hmk : m < ks.length
  ·
   obtain ⟨k, hk⟩ : ∃ k, ks[m]? = some k := ⟨_, List.getElem?_eq_getElem hmk⟩
   rw [(h.live m k hk).loadK, if_neg (by simp)]
   show (if k.h.name = nm then _ else _) = _
   rw [if_neg (fun e => hn (List.mem_map.2 ⟨k, List.mem_of_getElem? hk, e⟩)), if_neg (by omega), if_neg (by omega)]
  rw [(h.free m (by omega) (by omega)).loadK, if_neg (by simp)]
  show (if (if ks.length < m then (ks.length : Int) else -1) < 0 then (0, (m : Int)) else (0, if ks.length < m then (ks.length : Int) else -1)) = _
  rw [if_pos (show ks.length < m + 1 by omega)]
  by_cases e : ks.length < m
  ·
   rw [if_pos e, if_neg (by omega)]
  rw [if_neg e, if_pos (by omega), show m = ks.length by omega]
theorem LiveSt.freeS_eq {S : DS} {ks : List KeyS} (h : LiveSt S ks) {nm : List UInt8} (hn : nm ∉ ks.map (·.h.name)) : freeS S nm (areasN S) = if ks.length < areasN S then (0, (ks.length : Int)) else (12, -1) := by
 rw [Go.Proofs.YtplkoemjffplcaaGreatDoor.freeS, h.freeGo_eq hn _ (Nat.le_refl _), if_neg (by simp)]
 by_cases e : ks.length < areasN S
 ·
  rw [if_pos e, if_pos e, if_neg (by show ¬ (ks.length : Int) < 0; omega)]
 rw [if_neg e, if_neg e, if_pos (by show (-1 : Int) < 0; omega)]
theorem LiveSt.freeTwice {S : DS} {ks : List KeyS} (h : LiveSt S ks) {nm : List UInt8} (hn : nm ∈ ks.map (·.h.name)) : (freeS S nm (areasN S)).1 = 10 := by
 obtain ⟨k, hk, e⟩ := List.mem_map.1 hn
 obtain ⟨i, hi, hik⟩ := List.mem_iff_getElem.1 hk
 have hki : ks[i]? = some k := by rw [List.getElem?_eq_getElem hi, hik]
 have hle := h.le
 have hex : ∃ m, m ≤ areasN S ∧ (Go.Proofs.YtplkoemjffplcaaGreatDoor.freeGo S nm m).1 = 10 := by
  by_cases hz : (Go.Proofs.YtplkoemjffplcaaGreatDoor.freeGo S nm i).1 = 0
  ·
   refine ⟨i + 1, by omega, ?_⟩
   rw [Go.Proofs.YtplkoemjffplcaaGreatDoor.freeGo, if_neg (by rw [hz]; simp), (h.live i k hki).loadK, if_neg (by simp)]
   show (if k.h.name = nm then ((10 : Int), (-1 : Int)) else _).1 = 10
   rw [if_pos e]
  refine ⟨i, by omega, ?_⟩
  clear hki hik
  induction i with
  | zero => exact absurd rfl hz
  | succ j ih =>
   by_cases hj : (Go.Proofs.YtplkoemjffplcaaGreatDoor.freeGo S nm j).1 = 0
   ·
    obtain ⟨kj, hkj⟩ : ∃ kj, ks[j]? = some kj := ⟨_, List.getElem?_eq_getElem (by omega)⟩
    rw [Go.Proofs.YtplkoemjffplcaaGreatDoor.freeGo, if_neg (by rw [hj]; simp), (h.live j kj hkj).loadK, if_neg (by simp)] at hz ⊢
    change ¬ (if kj.h.name = nm then ((10 : Int), (-1 : Int)) else Go.Proofs.YtplkoemjffplcaaGreatDoor.freeGo S nm j).1 = 0 at hz
    show (if kj.h.name = nm then ((10 : Int), (-1 : Int)) else Go.Proofs.YtplkoemjffplcaaGreatDoor.freeGo S nm j).1 = 10
    by_cases e2 : kj.h.name = nm
    ·
     rw [if_pos e2]
    rw [if_neg e2] at hz; exact absurd hj hz
   have := ih (by omega) hj
   rw [freeGo_stuck hj (j + 1) (by omega)]; exact this
 obtain ⟨m, hm, h10⟩ := hex
 have hne : (Go.Proofs.YtplkoemjffplcaaGreatDoor.freeGo S nm m).1 ≠ 0 := by rw [h10]; decide
 rw [Go.Proofs.YtplkoemjffplcaaGreatDoor.freeS, freeGo_stuck hne _ hm, if_pos hne]; exact h10
theorem areasN_eq {S S' : DS} (h : S'.sure.length = S.sure.length) : areasN S' = areasN S := by rw [areasN, areasN, h]
theorem savedD_len (S : DS) (s : SS) (b : List UInt8) : (savedD S s b).sure.length = S.sure.length := setSecs_length _ _ _ _
theorem LiveSt.create {S : DS} {ks : List KeyS} (h : LiveSt S ks) {hd : KeyH} (hm : mayK hd.name.length hd.l hd.sn.length hd.ss.length) {batch : UInt64} (hb : 1 ≤ batch.toNat ∧ batch.toNat ≤ 65536) (hn : hd.name ∉ ks.map (·.h.name)) (hl : ks.length < areasN S) :
  ∃ S' k, createS S (areasN S) hd batch = ((S', some k), 0) ∧ k.h = hd ∧ k.x = newX (UInt64.ofNat (totN hd.l)) batch ∧ k.s.num = 1 ∧ LiveSt S' (ks ++ [k]) ∧ S'.sure.length = S.sure.length := by
 obtain ⟨f1, f2, f3, f4, f5⟩ := mayK_facts hm
 have hf := h.free ks.length (Nat.le_refl _) hl
 have htn : (UInt64.ofNat (totN hd.l)).toNat = totN hd.l := by rw [UInt64.toNat_ofNat', Nat.mod_eq_of_lt (totN_lt hd.l)]
 have htp : 1 ≤ totN hd.l := by rw [totN, if_pos f5]; exact pw2_pos _
 have hle : (headB hd.name hd.l hd.sn hd.ss).length ≤ 130 := by
  have h6 := hm.2.1
  have h7 := headB_len hd.name hd.l hd.sn hd.ss
  omega
 obtain ⟨tot, htot⟩ : ∃ tot, UInt64.ofNat (totN hd.l) = tot := ⟨_, rfl⟩
 obtain ⟨head, hhd⟩ : ∃ head, headB hd.name hd.l hd.sn hd.ss = head := ⟨_, rfl⟩
 rw [htot] at htn
 rw [hhd] at hle
 have hmay : mayB (newX tot batch) head.length = true := mayB_iff.2 ⟨by show 1 ≤ tot.toNat; omega, by show tot.toNat ≤ _; rw [htn]; exact totN_le _, hb.1, hb.2, Nat.zero_le _, by omega⟩
 have hbl : (bytesC (newX tot batch) head).length + 28 ≤ 64 * (sA ks.length).n := by rw [bytesC_length]; show _ ≤ 64 * 4; omega
 have hbe := hf.bears
 have hsv := save_calm hbe.calm hbe.ok hbl
 have hnew : newC S (sA ks.length) head tot batch = ((savedD S (sA ks.length) (bytesC (newX tot batch) head), (sA ks.length).saved (bytesC (newX tot batch) head)), 0) := by
  rw [newC, if_neg (by simp [hmay]), hf.load, if_neg (by simp), if_pos rfl, hsv]
 have hfs : freeS S hd.name (areasN S) = (0, (ks.length : Int)) := by rw [h.freeS_eq hn, if_pos hl]
 refine ⟨savedD S (sA ks.length) (bytesC (newX tot batch) head), ⟨hd, newX tot batch, (sA ks.length).saved (bytesC (newX tot batch) head)⟩, ?_, rfl, by rw [htot], rfl, ?_, savedD_len _ _ _⟩
 ·
  rw [createS, if_neg (fun h => h ⟨hm, hb.1, hb.2⟩), hfs, if_neg (by simp)]
  simp only [Int.toNat_natCast]
  rw [htot, hhd, hnew, if_neg (by simp)]
 have hlen := savedD_len S (sA ks.length) (bytesC (newX tot batch) head)
 refine ⟨calm_saved hbe.calm hbe.ok hbl, by rw [areasN_eq hlen, List.length_append]; show ks.length + 1 ≤ _; omega, fun i k hk => ?_, fun i hi hi2 => ?_, ?_⟩
 ·
  by_cases hik : i < ks.length
  ·
   rw [List.getElem?_append_left hik] at hk
   exact (h.live i k hk).other hbe.ok rfl rfl (by omega) hbl
  rw [List.getElem?_append_right (by omega)] at hk
  obtain ⟨rfl, rfl⟩ : i = ks.length ∧ k = ⟨hd, newX tot batch, (sA ks.length).saved (bytesC (newX tot batch) head)⟩ := by
   have h1 := (List.getElem?_eq_some_iff.1 hk).1
   have hi0 : i - ks.length = 0 := by simp at h1; omega
   rw [hi0] at hk
   exact ⟨by omega, by simpa using hk.symm⟩
  refine ⟨hbe.save hbl (by show (0 : UInt64).toNat < _; decide), by show (0 : UInt64) + 1 ≠ 0; decide, rfl, rfl, ?_, ?_, Nat.zero_le _, hm, by show tot.toNat = _; exact htn⟩
  ·
   show bytesC (newX tot batch) head = bytesC (newX tot batch) (headB hd.name hd.l hd.sn hd.ss); rw [hhd]
  show mayB (newX tot batch) (headB hd.name hd.l hd.sn hd.ss).length = true; rw [hhd]; exact hmay
 ·
  rw [List.length_append] at hi
  rw [areasN_eq hlen] at hi2
  exact (h.free i (by simp at hi; omega) hi2).other hbe.ok rfl rfl (by simp at hi; omega) hbl
 rw [List.map_append]
 exact List.nodup_append.2 ⟨h.names, by simp, fun a ha b hb e => by simp at hb; exact hn (by rw [← hb, ← e]; exact ha)⟩
theorem LiveSt.set {S : DS} {ks : List KeyS} (h : LiveSt S ks) {i : Nat} {k k' : KeyS} (hk : ks[i]? = some k) {b : List UInt8} (hb : b.length + 28 ≤ 64 * k.s.n) (hh : k'.h = k.h) (hlv : LiveK (savedD S k.s b) k' i) : LiveSt (savedD S k.s b) (ks.set i k') := by
 have hik := (List.getElem?_eq_some_iff.1 hk).1
 have hK := h.live i k hk
 have hlen := savedD_len S k.s b
 refine ⟨hlv.bears.calm, by rw [areasN_eq hlen, List.length_set]; exact h.le, fun j q hq => ?_, fun j hj hj2 => ?_, ?_⟩
 ·
  rw [List.getElem?_set] at hq
  by_cases e : i = j
  ·
   subst e
   rw [if_pos rfl, if_pos hik] at hq
   obtain rfl : k' = q := by simpa using hq
   exact hlv
  rw [if_neg e] at hq
  exact (h.live j q hq).other hK.bears.ok hK.n hK.first (fun h => e h.symm) hb
 ·
  rw [List.length_set] at hj
  rw [areasN_eq hlen] at hj2
  exact (h.free j hj hj2).other hK.bears.ok hK.n hK.first (by omega) hb
 have : (ks.set i k').map (·.h.name) = ks.map (·.h.name) := by
  rw [List.map_set]
  apply List.ext_getElem?
  intro j
  rw [List.getElem?_set]
  by_cases e : i = j
  ·
   subst e
   rw [if_pos rfl, if_pos (by simp; exact hik), List.getElem?_map, hk, Option.map_some, hh]
  rw [if_neg e]
 rw [this]; exact h.names
theorem LiveSt.keep {S : DS} {ks : List KeyS} (h : LiveSt S ks) {i : Nat} {k k' : KeyS} (hk : ks[i]? = some k) (hh : k'.h = k.h) (hlv : LiveK S k' i) : LiveSt S (ks.set i k') := by
 have hik := (List.getElem?_eq_some_iff.1 hk).1
 refine ⟨h.calm, by rw [List.length_set]; exact h.le, fun j q hq => ?_, fun j hj hj2 => h.free j (by rw [List.length_set] at hj; exact hj) hj2, ?_⟩
 ·
  rw [List.getElem?_set] at hq
  by_cases e : i = j
  ·
   subst e
   rw [if_pos rfl, if_pos hik] at hq
   obtain rfl : k' = q := by simpa using hq
   exact hlv
  rw [if_neg e] at hq
  exact h.live j q hq
 have : (ks.set i k').map (·.h.name) = ks.map (·.h.name) := by
  rw [List.map_set]
  apply List.ext_getElem?
  intro j
  rw [List.getElem?_set]
  by_cases e : i = j
  ·
   subst e
   rw [if_pos rfl, if_pos (by simp; exact hik), List.getElem?_map, hk, Option.map_some, hh]
  rw [if_neg e]
 rw [this]; exact h.names
theorem LiveSt.take {S : DS} {ks : List KeyS} (hl : LiveSt S ks) {i : Nat} {k : KeyS} (hk : ks[i]? = some k) (hr : k.x.retired = false) (hnum : k.s.num.toNat < 9223372036854775808) (ht : k.x.next.toNat < k.x.total.toNat) :
  ∃ S' k', takeC S k.s k.x k.head = (((S', k'.s), k'.x), (k.x.next, 0)) ∧ k'.h = k.h ∧ tookK S k = k' ∧ LiveSt S' (ks.set i k') ∧ k'.x.next.toNat = k.x.next.toNat + 1 ∧ k'.x.total = k.x.total ∧ k'.x.batch = k.x.batch ∧ k'.x.retired = false ∧ S'.sure.length = S.sure.length ∧ k'.s.num.toNat ≤ k.s.num.toNat + 1 := by
 have h := hl.live i k hk
 obtain ⟨m1, m2, m3, m4, m5, m6⟩ := mayB_iff.1 h.may
 have hn := h.next
 have hh130 := head_len h.good
 have hne : k.x.next ≠ k.x.total := fun e => by rw [e] at ht; omega
 have hadd : ∀ u : UInt64, u.toNat < 9223372036854775808 → (u + 1).toNat = u.toNat + 1 := fun u hu => by rw [UInt64.toNat_add]; simp; omega
 by_cases he : k.x.next = k.x.reserved
 ·
  have hsum : (k.x.reserved + k.x.batch).toNat = k.x.reserved.toNat + k.x.batch.toNat := by rw [UInt64.toNat_add]; omega
  have hres : (moreC k.x).reserved.toNat = min k.x.total.toNat (k.x.reserved.toNat + k.x.batch.toNat) := by
   rw [moreC]; show (if _ then _ else _ : UInt64).toNat = _
   rw [hsum]; split <;> omega
  have hxr : k.x.next.toNat = k.x.reserved.toNat := by rw [he]
  have hmore : mayB (moreC k.x) k.head.length = true := mayB_iff.2 ⟨m1, m2, m3, m4, by rw [hres]; exact Nat.min_le_left _ _, m6⟩
  have hbl : (bytesC (moreC k.x) k.head).length + 28 ≤ 64 * k.s.n := by rw [bytesC_length, h.n]; omega
  have hne2 : moreC k.x ≠ k.x := fun e => by have := congrArg Cn.reserved e; rw [← UInt64.toNat_inj, hres] at this; omega
  have hsv := save_calm h.bears.calm h.bears.ok hbl
  have hcs : saveC S k.s k.x (moreC k.x) k.head = (((savedD S k.s (bytesC (moreC k.x) k.head), k.s.saved (bytesC (moreC k.x) k.head)), moreC k.x), 0) := by
   rw [saveC, if_neg hne2, if_neg (by simp [hmore]), hsv, if_neg (by simp)]
  have hnx : (k.x.next + 1).toNat = k.x.next.toNat + 1 := hadd _ (by omega)
  have htk : takeC S k.s k.x k.head = (((savedD S k.s (bytesC (moreC k.x) k.head), k.s.saved (bytesC (moreC k.x) k.head)), nextC' (moreC k.x)), (k.x.next, 0)) := by
   rw [takeC, if_neg (by simp [hr]), if_neg hne, if_pos he, hcs, if_neg (by simp)]
   show (((_, _), nextC' (moreC k.x)), ((k.x.next + 1 - 1), _)) = _
   rw [UInt64.add_sub_cancel]
  refine ⟨_, ⟨k.h, nextC' (moreC k.x), k.s.saved (bytesC (moreC k.x) k.head)⟩, htk, rfl, by rw [tookK, htk], hl.set hk hbl rfl ⟨h.bears.save hbl (by omega), ?_, h.n, h.first, rfl, hmore, ?_, h.good, h.tot⟩, hnx, rfl, rfl, hr, savedD_len _ _ _, ?_⟩
  ·
   show k.s.num + 1 ≠ 0
   intro e
   have := hadd k.s.num hnum
   rw [e] at this
   simp at this
  ·
   show (k.x.next + 1).toNat ≤ (moreC k.x).reserved.toNat
   rw [hnx, hres]; omega
  show (k.s.num + 1).toNat ≤ _
  rw [hadd _ hnum]; exact Nat.le_refl _
 have hlt : k.x.next.toNat < k.x.reserved.toNat := by
  have : k.x.next.toNat ≠ k.x.reserved.toNat := fun e => he (UInt64.toNat_inj.1 e)
  omega
 have hnx : (k.x.next + 1).toNat = k.x.next.toNat + 1 := hadd _ (by omega)
 have htk : takeC S k.s k.x k.head = (((S, k.s), nextC' k.x), (k.x.next, 0)) := by
  rw [takeC, if_neg (by simp [hr]), if_neg hne, if_neg he]
  show (((S, k.s), nextC' k.x), ((k.x.next + 1 - 1), _)) = _
  rw [UInt64.add_sub_cancel]
 refine ⟨S, ⟨k.h, nextC' k.x, k.s⟩, htk, rfl, by rw [tookK, htk], hl.keep hk rfl ⟨h.bears, h.nz, h.n, h.first, h.b, h.may, ?_, h.good, h.tot⟩, hnx, rfl, rfl, hr, rfl, Nat.le_succ _⟩
 show (k.x.next + 1).toNat ≤ k.x.reserved.toNat
 omega
theorem LiveSt.fresh (n : Nat) : LiveSt (fresh n) [] := by
 refine ⟨calm_fresh n, Nat.zero_le _, fun i k hk => by simp at hk, fun i _ hi => ⟨calm_fresh n, ?_, fun j hj => ?_⟩, by simp⟩
 ·
  rw [areasN] at hi
  have : 8 * i + 8 ≤ 8 * ((Go.Proofs.YtplkoemjffplcaaGreatDoor.fresh n).sure.length / 8) := by omega
  omega
 have hl : (Go.Proofs.YtplkoemjffplcaaGreatDoor.fresh n).sure.length = n := by simp [Go.Proofs.YtplkoemjffplcaaGreatDoor.fresh]
 rw [areasN, hl] at hi
 have : 8 * i + 8 ≤ 8 * (n / 8) := by omega
 simp [Go.Proofs.YtplkoemjffplcaaGreatDoor.fresh, List.getD_eq_getElem?_getD, show 8 * i + j < n by omega]
theorem LiveSt.up {S : DS} {ks : List KeyS} (h : LiveSt S ks) {S' : DS} (hs : S'.sure = S.sure) (hc : S'.calm) : LiveSt S' ks := by
 have hl : S'.sure.length = S.sure.length := by rw [hs]
 have hp : S'.pend = S.pend := by rw [hc.pend, h.calm.pend]
 have hd : S'.down = S.down := by rw [hc.down, h.calm.down]
 have ha : ∀ a k, areaB S' a k = areaB S a k := fun a k => by
  induction k with
  | zero => rfl
  | succ k ih =>
   have e : ∀ i, readRes S' i = readRes S i := fun i => by unfold readRes; rw [hs, hp, hd]
   rw [areaB, areaB, ih, e]
 refine ⟨hc, by rw [areasN_eq hl]; exact h.le, fun i k hk => ?_, fun i hi hi2 => ?_, h.names⟩
 ·
  have hK := h.live i k hk
  exact ⟨⟨hc, ⟨hK.bears.ok.n, by rw [hl]; exact hK.bears.ok.in_, hK.bears.ok.at_, hK.bears.ok.b⟩, fun h0 => by rw [ha, ha]; exact hK.bears.zero h0, fun h0 => by rw [ha, ha]; exact hK.bears.own h0⟩, hK.nz, hK.n, hK.first, hK.b, hK.may, hK.next, hK.good, hK.tot⟩
 rw [areasN_eq hl] at hi2
 have hF := h.free i hi hi2
 exact ⟨hc, by rw [hl]; exact hF.in_, fun j hj => by rw [hs]; exact hF.z j hj⟩
theorem LiveSt.anew {S : DS} {ks : List KeyS} (h : LiveSt S ks) : LiveSt S (ks.map KeyS.anew) := by
 refine ⟨h.calm, by rw [List.length_map]; exact h.le, fun i k hk => ?_, fun i hi hi2 => h.free i (by rw [List.length_map] at hi; exact hi) hi2, by rw [List.map_map]; exact h.names⟩
 rw [List.getElem?_map] at hk
 cases hq : ks[i]? with
 | none => rw [hq] at hk; cases hk
 | some q =>
  rw [hq] at hk
  obtain rfl := Option.some.inj hk
  exact (h.live i q hq).anew
theorem LiveSt.ok {S : DS} {ks : List KeyS} (h : LiveSt S ks) : ∀ k ∈ ks, OkS S k.s := fun k hk => by
 obtain ⟨i, hi, e⟩ := List.mem_iff_getElem.1 hk
 exact (h.live i k (by rw [List.getElem?_eq_getElem hi, e])).bears.ok
def sortL : Nat → List PairV
 | 0 => [⟨7, 4026531845⟩]
 | 1 => [⟨7, 4026531846⟩]
 | 2 => [⟨7, 4026531845⟩, ⟨7, 4026531845⟩]
 | _ => [⟨3, 4026531845⟩]
def sortN (s : Nat) : List UInt8 := List.replicate 16 (UInt8.ofNat (200 + s % 4))
def sortS (n : Nat) : List UInt8 := List.replicate 24 (UInt8.ofNat (100 + n % 4))
section
variable {G : World} {M : Mem} {L : Own}
theorem rep_set (n k : Nat) (a : UInt8) (h : k < n) : (List.replicate k a ++ List.replicate (n - k) (0 : UInt8)).set k a = List.replicate (k + 1) a ++ List.replicate (n - (k + 1)) 0 := by
 have e : List.replicate (n - k) (0 : UInt8) = 0 :: List.replicate (n - (k + 1)) 0 := by rw [show n - k = (n - (k + 1)) + 1 by omega, List.replicate_succ]
 rw [e, List.set_append_right _ _ (by simp), List.length_replicate, Nat.sub_self, List.set_cons_zero, List.replicate_succ', List.append_assoc]; rfl
abbrev byL (b : Nat) (bs : List UInt8) : Nat × Obj := (b, .cells (bs.map bv).toArray 5 (0, 0))
theorem Sort22_spec (s x : UInt8) : Con Tryz.prog 10 #[.int .u8 (s.toNat : Int), .int .u8 (x.toNat : Int)] G M L (fun v M' L' => L' = L ∧ ∃ (A : Option Addr) (n c : Nat) (y z : SlV), v = .tuple #[.slice A n c, .agg #[y.v, z.v]] ∧ Row M' 2 A n c (prow (sortL (s.toNat % 4))) ∧ Bytes M' y.a y.n y.c (sortN s.toNat) ∧ Bytes M' z.a z.n z.c (sortS x.toNat)) noPanic := by
 have hs := s.toNat_lt
 have hx := x.toNat_lt
 have hbvs : ∀ (l : List UInt8) (k : Nat) (a : UInt8), (l.map bv).set k (bv a) = (l.set k a).map bv := fun l k a => by rw [List.map_set]
 refine zfn Tryz.func10 rfl 51 rfl <| zr <| as0 rfl <| tl_e rfl <| e_alloc <| fun b1 => zq <| zr <| tl_y rfl (y_build rfl) <| tl_e rfl <| e_buildSlice rfl (by decide) <| fun b2 => .pub b2 iI <| fun M2 hM2 hb2 => tl_y rfl (y_build rfl) <| tl_e rfl <| e_buildSlice rfl (by decide) <| fun b3 => .pub b3 iI <| fun M3 hM3 hb3 => tl_y rfl (y_build rfl) <| tl_y rfl (y_build rfl) <| tl_e rfl <| e_buildSlice rfl (by decide) <| fun b4 => .pub b4 iI <| fun M4 hM4 hb4 => tl_y rfl (y_build rfl) <| tl_e rfl <| e_buildSlice rfl (by decide) <| fun b5 => .pub b5 iI <| fun M5 hM5 hb5 => tl_e rfl <| e_buildSlice rfl (by decide) <| fun b6 => .pub b6 iI <| fun M6 hM6 hb6 => ?_
 have hd : Le M M6 := hM2.trans (hM3.trans (hM4.trans (hM5.trans hM6)))
 have w2 : Row M6 2 (some ⟨b2, 0, none⟩) 1 1 (prow (sortL 0)) := (Row.whole (s := 2) (m := 1) hb2 rfl (by omega)).mono (hM3.trans (hM4.trans (hM5.trans hM6)))
 have w3 : Row M6 2 (some ⟨b3, 0, none⟩) 1 1 (prow (sortL 1)) := (Row.whole (s := 2) (m := 1) hb3 rfl (by omega)).mono (hM4.trans (hM5.trans hM6))
 have w4 : Row M6 2 (some ⟨b4, 0, none⟩) 2 2 (prow (sortL 2)) := (Row.whole (s := 2) (m := 2) hb4 rfl (by omega)).mono (hM5.trans hM6)
 have w5 : Row M6 2 (some ⟨b5, 0, none⟩) 1 1 (prow (sortL 3)) := (Row.whole (s := 2) (m := 1) hb5 rfl (by omega)).mono hM6
 refine mvI rfl <| tl_y rfl (y_remI rfl rfl (by omega)) ?_
 rw [show (s.toNat : Int) % 4 = ((s.toNat % 4 : Nat) : Int) by omega]
 obtain ⟨k, hk, hk4⟩ : ∃ k, s.toNat % 4 = k ∧ k < 4 := ⟨_, rfl, by omega⟩
 rw [hk]
 have hr := Row.whole (s := 1) (m := 4) (vs := [Value.slice (some ⟨b2, 0, none⟩) 1 1, .slice (some ⟨b3, 0, none⟩) 1 1, .slice (some ⟨b4, 0, none⟩) 2 2, .slice (some ⟨b5, 0, none⟩) 1 1]) hb6 rfl (by omega)
 obtain ⟨g, o, hgo, hcell⟩ := hr.addr (by omega)
 obtain ⟨rfl, rfl⟩ : b6 = g ∧ 0 = o := by simpa using hgo
 obtain ⟨A, n, c, hv, hrow⟩ : ∃ A n c, [Value.slice (some ⟨b2, 0, none⟩) 1 1, .slice (some ⟨b3, 0, none⟩) 1 1, .slice (some ⟨b4, 0, none⟩) 2 2, .slice (some ⟨b5, 0, none⟩) 1 1][k]? = some (.slice A n c) ∧ Row M6 2 A n c (prow (sortL k)) := by
  rcases (by omega : k = 0 ∨ k = 1 ∨ k = 2 ∨ k = 3) with rfl | rfl | rfl | rfl
  ·
   exact ⟨_, _, _, rfl, w2⟩
  ·
   exact ⟨_, _, _, rfl, w3⟩
  ·
   exact ⟨_, _, _, rfl, w4⟩
  exact ⟨_, _, _, rfl, w5⟩
 refine tl_y rfl (y_indexAddr rfl rfl (by omega)) <| tl_y rfl (y_load rfl rfl (.at_ (hcell _ k _ hv) (by omega))) <| asS rfl <| zq <| .s4 0 1 5 6 rfl rfl rfl rfl <| x_seq <| x_meet (I := fun F D M7 L7 => ∃ (b bn bs : Nat), F = [(0, .int .u8 (s.toNat : Int)), (1, .int .u8 (x.toNat : Int)), (5, .pointer (some ⟨b1, 0, none⟩)), (6, .slice A n c), (7, .pointer (some ⟨b, 0, none⟩))] ∧ D = [] ∧ M6 = M7 ∧ DropTo L7 ((b, .cells (List.toArray (seedC (some ⟨bn, 0, none⟩) (Int.toNat 16) (Int.toNat 16) (some ⟨bs, 0, none⟩) (Int.toNat 24) (Int.toNat 24))) 33 (0, 0)) :: (bn, .cells (List.replicate (Int.toNat 16) (Value.int .u8 0)).toArray 5 (0, 0)) :: (bs, .cells (List.replicate (Int.toNat 24) (Value.int .u8 0)).toArray 5 (0, 0)) :: (b1, .cells #[.slice none 0 0, .slice none 0 0] 33 (0, 0)) :: L)) ?_ (fun Jd2 => ?_)
 ·
  rintro _ _ _ L7 ⟨b, bn, bs, rfl, rfl, rfl, hdr⟩
  refine .dropTo _ hdr <| .to ((b, .cells (List.toArray (seedC (some ⟨bn, 0, none⟩) 16 16 (some ⟨bs, 0, none⟩) 24 24)) 33 (0, 0)) :: byL bn (List.replicate 16 0) :: byL bs (List.replicate 24 0) :: (b1, .cells #[.slice none 0 0, .slice none 0 0] 33 (0, 0)) :: L) ⟨by
   have h16 : List.replicate (Int.toNat 16) (Value.int .u8 0) = (List.replicate 16 (0 : UInt8)).map bv := by simp [bv]
   have h24 : List.replicate (Int.toNat 24) (Value.int .u8 0) = (List.replicate 24 (0 : UInt8)).map bv := by simp [bv]
   rw [h16, h24]; exact List.Perm.refl _⟩ ?_
  obtain ⟨u, hu, hu2⟩ : ∃ u : UInt8, UInt8.ofNat (100 + x.toNat % 4) = u ∧ (u.toNat : Int) = 100 + (x.toNat : Int) % 4 := ⟨_, rfl, by rw [UInt8.toNat_ofNat', Nat.mod_eq_of_lt (by omega)]; omega⟩
  obtain ⟨w, hw, hw2⟩ : ∃ w : UInt8, UInt8.ofNat (200 + s.toNat % 4) = w ∧ (w.toNat : Int) = 200 + (s.toNat : Int) % 4 := ⟨_, rfl, by rw [UInt8.toNat_ofNat', Nat.mod_eq_of_lt (by omega)]; omega⟩
  refine zr2 <| as0 rfl <| zq <| x_block ?_
  refine x_loop (I := fun m' F D M7 L7 => ∃ (j : Nat), m' = 24 - j ∧ j ≤ 24 ∧ D = [] ∧ M6 = M7 ∧ (b, .cells (List.toArray (seedC (some ⟨bn, 0, none⟩) 16 16 (some ⟨bs, 0, none⟩) 24 24)) 33 (0, 0)) :: byL bn (List.replicate 16 0) :: byL bs (List.replicate j u ++ List.replicate (24 - j) 0) :: (b1, .cells #[.slice none 0 0, .slice none 0 0] 33 (0, 0)) :: L = L7 ∧ F = [(0, .int .u8 (s.toNat : Int)), (1, .int .u8 (x.toNat : Int)), (5, .pointer (some ⟨b1, 0, none⟩)), (6, .slice A n c), (7, .pointer (some ⟨b, 0, none⟩)), (8, .int .i64 j)]) (24) (F0 := [(0, _), (1, _), (5, _), (6, _), (7, _), (8, _)]) ?_ (cs6 rfl rfl rfl rfl rfl rfl) ?_
  ·
   exact ⟨0, rfl, by omega, rfl, rfl, rfl, rfl⟩
  rintro m _ _ _ _ ⟨j, rfl, hj, rfl, rfl, rfl, rfl⟩
  refine zr2 <| mvI rfl <| tl_y rfl (y_lss rfl rfl) <| zq <| x_cond rfl (fun hc1 => ?_) (fun hc1 => ?_)
  ·
   have hj24 : j < 24 := by omega
   have hlen : (List.replicate j u ++ List.replicate (24 - j) (0 : UInt8)).length = 24 := by simp; omega
   refine x_skip <| .then_normal <| x_seq <| x_block <| x_region <| tFa rfl <| tLd rfl rfl <| mvI rfl <| mvI rfl <| tl_y rfl (y_remI rfl rfl (by omega)) <| tl_y rfl (y_addN8 rfl rfl (by omega)) ?_
   rw [← hu2]
   refine tl_y rfl (y_indexAddr rfl rfl (by omega)) <| tl_e rfl <| e_storeAt (c := (List.replicate j u ++ List.replicate (24 - j) (0 : UInt8)).map bv) rfl rfl rfl iI (by rw [List.length_map, hlen]; omega) iI ?_
   rw [show 0 + ((j : Nat) : Int).toNat * 1 = j by omega, show Value.int .u8 (u.toNat : Int) = bv u from rfl, hbvs, rep_set 24 j u hj24]
   refine tl_nil <| .block_normal <| .then_normal <| .s6 0 1 5 6 7 8 rfl rfl rfl rfl rfl rfl <| x_region <| mvI rfl <| tl_y rfl (y_addI rfl rfl (by omega)) <| asI rfl <| tl_nil <| .loop_next (m' := 24 - (j + 1)) (by omega) (F' := [(0, _), (1, _), (5, _), (6, _), (7, _), (8, _)]) (cs6 rfl rfl rfl rfl rfl rfl) ?_
   exact ⟨j + 1, rfl, by omega, rfl, rfl, rfl, rfl⟩
  obtain rfl : j = 24 := by omega
  refine x_exit <| .then_exit <| .loop_exit <| .block_exit <| .then_normal <| .s4 0 5 6 7 rfl rfl rfl rfl <| zr2 <| as0 rfl <| zq <| x_block ?_
  refine x_loop (I := fun m' F D M7 L7 => ∃ (j : Nat), m' = 16 - j ∧ j ≤ 16 ∧ D = [] ∧ M6 = M7 ∧ (b, .cells (List.toArray (seedC (some ⟨bn, 0, none⟩) 16 16 (some ⟨bs, 0, none⟩) 24 24)) 33 (0, 0)) :: byL bn (List.replicate j w ++ List.replicate (16 - j) 0) :: byL bs (List.replicate 24 u ++ List.replicate (24 - 24) 0) :: (b1, .cells #[.slice none 0 0, .slice none 0 0] 33 (0, 0)) :: L = L7 ∧ F = [(0, .int .u8 (s.toNat : Int)), (5, .pointer (some ⟨b1, 0, none⟩)), (6, .slice A n c), (7, .pointer (some ⟨b, 0, none⟩)), (9, .int .i64 j)]) (16) (F0 := [(0, _), (5, _), (6, _), (7, _), (9, _)]) ?_ (cs5 rfl rfl rfl rfl rfl) ?_
  ·
   exact ⟨0, rfl, by omega, rfl, rfl, rfl, rfl⟩
  rintro m _ _ _ _ ⟨j, rfl, hj, rfl, rfl, rfl, rfl⟩
  refine zr2 <| mvI rfl <| tl_y rfl (y_lss rfl rfl) <| zq <| x_cond rfl (fun hc2 => ?_) (fun hc2 => ?_)
  ·
   have hj16 : j < 16 := by omega
   have hlen : (List.replicate j w ++ List.replicate (16 - j) (0 : UInt8)).length = 16 := by simp; omega
   refine x_skip <| .then_normal <| x_seq <| x_block <| x_region <| tFa rfl <| tLd rfl rfl <| mvI rfl <| mvI rfl <| tl_y rfl (y_remI rfl rfl (by omega)) <| tl_y rfl (y_addN8 rfl rfl (by omega)) ?_
   rw [← hw2]
   refine tl_y rfl (y_indexAddr rfl rfl (by omega)) <| tl_e rfl <| e_storeAt (c := (List.replicate j w ++ List.replicate (16 - j) (0 : UInt8)).map bv) rfl rfl rfl iI (by rw [List.length_map, hlen]; omega) iI ?_
   rw [show 0 + ((j : Nat) : Int).toNat * 1 = j by omega, show Value.int .u8 (w.toNat : Int) = bv w from rfl, hbvs, rep_set 16 j w hj16]
   refine tl_nil <| .block_normal <| .then_normal <| .s5 0 5 6 7 9 rfl rfl rfl rfl rfl <| x_region <| mvI rfl <| tl_y rfl (y_addI rfl rfl (by omega)) <| asI rfl <| tl_nil <| .loop_next (m' := 16 - (j + 1)) (by omega) (F' := [(0, _), (5, _), (6, _), (7, _), (9, _)]) (cs5 rfl rfl rfl rfl rfl) ?_
   exact ⟨j + 1, rfl, by omega, rfl, rfl, rfl, rfl⟩
  obtain rfl : j = 16 := by omega
  refine .pub bn iI <| fun M8 hM8 hb8 => .pub bs iI <| fun M9 hM9 hb9 => ?_
  have hd9 := hd.trans (hM8.trans hM9)
  have y1 : Bytes M9 (some ⟨bn, 0, none⟩) 16 16 (sortN s.toNat) := by
   have := (Row.whole (s := 1) (m := 16) hb8 (by simp) (by omega)).mono hM9
   rw [Nat.sub_self, List.replicate_zero, List.append_nil] at this
   rw [sortN, hw]; exact this
  have y2 : Bytes M9 (some ⟨bs, 0, none⟩) 24 24 (sortS x.toNat) := by
   have := (Row.whole (s := 1) (m := 24) hb9 (by simp) (by omega))
   rw [Nat.sub_self, List.replicate_zero, List.append_nil] at this
   rw [sortS, hu]; exact this
  refine x_exit <| .then_exit <| .loop_exit <| .block_exit <| .then_normal <| .s3 5 6 7 rfl rfl rfl <| x_seq <| x_draw0 3 ((b, .cells (List.toArray (seedC (some ⟨bn, 0, none⟩) 16 16 (some ⟨bs, 0, none⟩) 24 24)) 33 (0, 0)) :: []) Keeps.mem hmix rfl <| pmS 0 rfl rfl <| zy 1 rfl rfl (y_lg rfl rfl) <| paS 2 rfl rfl <| zt 3 rfl rfl <| e_sT rfl rfl ?_
  refine zz <| .then_normal <| .s2 4 5 rfl rfl <| x_ret (retRV (L' := L) (rv2 rfl (rc_tmp rfl) (rc_cellAgg (by rfl) rfl (.own iI iI))) iI hd9 ⟨rfl, A, n, c, ⟨some ⟨bn, 0, none⟩, 16, 16⟩, ⟨some ⟨bs, 0, none⟩, 24, 24⟩, rfl, hrow.mono (hM8.trans hM9), y1, y2⟩)
 have he : Le M6 M6 := Le.refl _
 refine x_draw0 4 ([]) Keeps.mem hmix rfl <| to_three 0 1 3 (by kernel_rfl) ?_ ?_ ?_
 ·
  refine two_e 0 rfl rfl <| e_make1 rfl rfl (by omega) (by omega) (by omega) (by omega) <| fun bn => kp ?_
  refine to_two 1 3 (by kernel_rfl) ?_ ?_
  ·
   refine two_e 1 rfl rfl <| e_make1 rfl rfl (by omega) (by omega) (by omega) (by omega) <| fun bs => kp ?_
   refine zp 2 rfl rfl (y_build rfl) <| ze 3 rfl rfl <| e_alloc <| fun b7 => kp ?_
   refine zt 4 rfl rfl <| e_sT rfl rfl <| zz <| .then_normal <| .sub (F' := [(0, _), (1, _), (5, _), (6, _), (7, _)]) (cs5 rfl rfl rfl rfl rfl) <| Jd2 _ _ _ _ ?_
   exact ⟨_, bn, bs, rfl, rfl, rfl, iI⟩
  refine two_e 3 rfl rfl <| e_alloc <| fun b8 => kp ?_
  refine ze 1 rfl rfl <| e_make1 rfl rfl (by omega) (by omega) (by omega) (by omega) <| fun bs => kp ?_
  refine zp 2 rfl rfl (y_build rfl) <| zt 4 rfl rfl <| e_sT rfl rfl <| zz <| .then_normal <| .sub (F' := [(0, _), (1, _), (5, _), (6, _), (7, _)]) (cs5 rfl rfl rfl rfl rfl) <| Jd2 _ _ _ _ ?_
  exact ⟨_, bn, bs, rfl, rfl, rfl, iI⟩
 ·
  refine two_e 1 rfl rfl <| e_make1 rfl rfl (by omega) (by omega) (by omega) (by omega) <| fun bs => kp ?_
  refine to_two 0 3 (by kernel_rfl) ?_ ?_
  ·
   refine two_e 0 rfl rfl <| e_make1 rfl rfl (by omega) (by omega) (by omega) (by omega) <| fun bn => kp ?_
   refine zp 2 rfl rfl (y_build rfl) <| ze 3 rfl rfl <| e_alloc <| fun b9 => kp ?_
   refine zt 4 rfl rfl <| e_sT rfl rfl <| zz <| .then_normal <| .sub (F' := [(0, _), (1, _), (5, _), (6, _), (7, _)]) (cs5 rfl rfl rfl rfl rfl) <| Jd2 _ _ _ _ ?_
   exact ⟨_, bn, bs, rfl, rfl, rfl, iI⟩
  refine two_e 3 rfl rfl <| e_alloc <| fun b10 => kp ?_
  refine ze 0 rfl rfl <| e_make1 rfl rfl (by omega) (by omega) (by omega) (by omega) <| fun bn => kp ?_
  refine zp 2 rfl rfl (y_build rfl) <| zt 4 rfl rfl <| e_sT rfl rfl <| zz <| .then_normal <| .sub (F' := [(0, _), (1, _), (5, _), (6, _), (7, _)]) (cs5 rfl rfl rfl rfl rfl) <| Jd2 _ _ _ _ ?_
  exact ⟨_, bn, bs, rfl, rfl, rfl, iI⟩
 refine two_e 3 rfl rfl <| e_alloc <| fun b11 => kp ?_
 refine to_two 0 1 (by kernel_rfl) ?_ ?_
 ·
  refine two_e 0 rfl rfl <| e_make1 rfl rfl (by omega) (by omega) (by omega) (by omega) <| fun bn => kp ?_
  refine ze 1 rfl rfl <| e_make1 rfl rfl (by omega) (by omega) (by omega) (by omega) <| fun bs => kp ?_
  refine zp 2 rfl rfl (y_build rfl) <| zt 4 rfl rfl <| e_sT rfl rfl <| zz <| .then_normal <| .sub (F' := [(0, _), (1, _), (5, _), (6, _), (7, _)]) (cs5 rfl rfl rfl rfl rfl) <| Jd2 _ _ _ _ ?_
  exact ⟨_, bn, bs, rfl, rfl, rfl, iI⟩
 refine two_e 1 rfl rfl <| e_make1 rfl rfl (by omega) (by omega) (by omega) (by omega) <| fun bs => kp ?_
 refine ze 0 rfl rfl <| e_make1 rfl rfl (by omega) (by omega) (by omega) (by omega) <| fun bn => kp ?_
 refine zp 2 rfl rfl (y_build rfl) <| zt 4 rfl rfl <| e_sT rfl rfl <| zz <| .then_normal <| .sub (F' := [(0, _), (1, _), (5, _), (6, _), (7, _)]) (cs5 rfl rfl rfl rfl rfl) <| Jd2 _ _ _ _ ?_
 exact ⟨_, bn, bs, rfl, rfl, rfl, iI⟩
end
theorem can0 : canE (sortL 0) 16 24 = 0 := by kernel_rfl
theorem can1 : canE (sortL 1) 16 24 = 0 := by kernel_rfl
theorem can2 : canE (sortL 2) 16 24 = 0 := by kernel_rfl
theorem tot0 : totN (sortL 0) = 2 := by kernel_rfl
theorem tot1 : totN (sortL 1) = 4 := by kernel_rfl
theorem tot2 : totN (sortL 2) = 4 := by kernel_rfl
def tlR (f : Nat → List UInt8) : Nat → Nat → List UInt8
 | 0, _ => []
 | m + 1, i => f i ++ tlR f m (i + 1)
theorem catR_tl (f : Nat → List UInt8) : ∀ m i, catR f (i + m) = catR f i ++ tlR f m i
 | 0, i => by rw [tlR, List.append_nil, Nat.add_zero]
 | m + 1, i => by rw [tlR, ← List.append_assoc, ← catR_succ, ← catR_tl f m (i + 1)]; congr 1; omega
def pfR (l : List PairV) (at_ : List Nat) (name sec text : List UInt8) : Nat → Nat → List PartB
 | 0, _ => []
 | m + 1, i => ⟨pubR l at_ name sec i, sgR l at_ name sec text i, if i + 1 < l.length then pubR l at_ name sec (i + 1) else []⟩ :: pfR l at_ name sec text m (i + 1)
theorem pairC_app {a b : List UInt8} (h : 8 ≤ a.length) : pairC (a ++ b) = pairC a := by
 rw [pairC, pairC, List.drop_append_of_le_length (by omega), List.take_append_of_le_length (by rw [List.length_drop]; omega), List.take_append_of_le_length (by omega)]
section
variable {l : List PairV} {nl sl : Nat} {at_ : List Nat} {name sec text : List UInt8} {x : Nat}
theorem pubR_facts (hok : okL l) (hc : canB l nl sl) (hn : name.length = nl) (hs : sec.length = sl) {i : Nat} (hi : i < l.length) :
  ∃ n w p H, PF (l.getD i p0) n w p H ∧ (seedR l at_ name sec i).1.length = 16 ∧ (pubR l at_ name sec i).length = 24 + n ∧ pairC (pubR l at_ name sec i) = l.getD i p0 ∧ pubN (l.getD i p0) = 24 + n ∧ 24 ≤ n ∧ n ≤ 32 := by
 obtain ⟨h1, h2, h3, h4⟩ := okL_get hok hi
 obtain ⟨n, w, p, H, hx⟩ := okP_facts h1
 have h16 := (seedR_ok hok hc at_ hn hs i (by omega)).1
 obtain ⟨k1, k2, _, _, _⟩ := pub_parts hx h16 (seedR l at_ name sec i).2
 obtain ⟨z1, _, _, _, _⟩ := hx.sizes
 have hn32 := hx.o.n32
 exact ⟨n, w, p, H, hx, h16, k1, k2, z1, by omega, by omega⟩
theorem key_app (hok : okL l) (hc : canB l nl sl) (hn : name.length = nl) (hs : sec.length = sl) {i : Nat} (hi : i < l.length) (b : List UInt8) :
  keyE (pubR l at_ name sec i ++ b) = 0 ∧ keyT (pubR l at_ name sec i ++ b) = pubR l at_ name sec i ∧ keyD (pubR l at_ name sec i ++ b) = b := by
 obtain ⟨n, w, p, H, hx, h16, k1, k2, k3, k4, k5⟩ := pubR_facts (at_ := at_) hok hc hn hs hi
 have e : pairC (pubR l at_ name sec i ++ b) = l.getD i p0 := by rw [pairC_app (by omega), k2]
 refine ⟨?_, ?_, ?_⟩
 ·
  rw [keyE, if_neg (by rw [List.length_append]; omega), e, if_neg (fun h => h hx.ok), if_neg (by rw [List.length_append]; omega)]
 ·
  rw [keyT, e, k3]; exact take_at k1
 rw [keyD, e, k3]; exact drop_at k1
theorem parse_hss (hok : okL l) (hc : canB l nl sl) (hn : name.length = nl) (hs : sec.length = sl) (hat : at_ = atsN (l.map tv) x) : ∀ m i, i + m + 1 = l.length →
  parse m (pubR l at_ name sec i) (tlR (levR l at_ name sec text) (m + 1) i) = (0, pfR l at_ name sec text (m + 1) i)
 | 0, i, hi => by
  obtain ⟨n, w, p, H, hx, h16, k1, k2, k3, k4, k5⟩ := pubR_facts (at_ := at_) (name := name) (sec := sec) hok hc hn hs (i := i) (by omega)
  obtain ⟨z1, _, _, _⟩ := lv_len hok hc at_ text hn hs (i := i) (by omega) hat
  have e : tlR (levR l at_ name sec text) 1 i = sgR l at_ name sec text i := by rw [tlR, tlR, List.append_nil, levR, if_neg (by omega), List.append_nil]
  rw [e, parse, k2, if_neg (by omega), if_neg (by omega), pfR, pfR, if_neg (by omega), sgT, k2, List.take_of_length_le (by omega)]
 | m + 1, i, hi => by
  obtain ⟨n, w, p, H, hx, h16, k1, k2, k3, k4, k5⟩ := pubR_facts (at_ := at_) (name := name) (sec := sec) hok hc hn hs (i := i) (by omega)
  obtain ⟨z1, _, _, _⟩ := lv_len hok hc at_ text hn hs (i := i) (by omega) hat
  have e : tlR (levR l at_ name sec text) (m + 1 + 1) i = sgR l at_ name sec text i ++ (pubR l at_ name sec (i + 1) ++ tlR (levR l at_ name sec text) (m + 1) (i + 1)) := by
   rw [tlR, levR, if_pos (by omega), List.append_assoc]
  obtain ⟨q1, q2, q3⟩ := key_app (at_ := at_) (name := name) (sec := sec) hok hc hn hs (i := i + 1) (by omega) (tlR (levR l at_ name sec text) (m + 1) (i + 1))
  have ih := parse_hss hok hc hn hs hat m (i + 1) (by omega)
  have eT : sgT (pubR l at_ name sec i) (tlR (levR l at_ name sec text) (m + 1 + 1) i) = sgR l at_ name sec text i := by rw [sgT, k2, e]; exact take_at z1
  have eD : sgD (pubR l at_ name sec i) (tlR (levR l at_ name sec text) (m + 1 + 1) i) = pubR l at_ name sec (i + 1) ++ tlR (levR l at_ name sec text) (m + 1) (i + 1) := by rw [sgD, k2, e]; exact drop_at z1
  have e3 : pfR l at_ name sec text (m + 1 + 1) i = ⟨pubR l at_ name sec i, sgR l at_ name sec text i, pubR l at_ name sec (i + 1)⟩ :: pfR l at_ name sec text (m + 1) (i + 1) := by rw [pfR, if_pos (by omega)]
  rw [e3, parse, eT, eD, k2, if_neg (by rw [e, List.length_append]; omega), if_neg (fun h => h q1), q2, q3, ih, if_neg (fun h => h rfl)]
theorem pfR_fits (hok : okL l) (hc : canB l nl sl) (hn : name.length = nl) (hs : sec.length = sl) (hat : at_ = atsN (l.map tv) x) (htl : text.length ≤ 65536) : ∀ m i, i + m = l.length → ∀ p ∈ pfR l at_ name sec text m i, partF text p
 | 0, i, _, p, hp => by cases hp
 | m + 1, i, hi, p, hp => by
  rcases List.mem_cons.1 hp with rfl | hp
  ·
   obtain ⟨n, w, p', H, hx, h16, k1, k2, k3, k4, k5⟩ := pubR_facts (at_ := at_) (name := name) (sec := sec) hok hc hn hs (i := i) (by omega)
   obtain ⟨z1, _, z3, _⟩ := lv_len hok hc at_ text hn hs (i := i) (by omega) hat
   rw [hx.lv] at z3
   have hf : ∀ t : List UInt8, t.length ≤ 65536 → fitK (pubR l at_ name sec i) t.length t (lsigB (l.getD i p0) (seedR l at_ name sec i).1 (seedR l at_ name sec i).2 (at_.getD i 0) t) := fun t ht => lms_fits hx h16 _ t z3 ht
   rw [partF]
   by_cases h1 : i + 1 < l.length
   ·
    obtain ⟨n2, _, _, _, _, _, r1, _, _, r4, r5⟩ := pubR_facts (at_ := at_) (name := name) (sec := sec) hok hc hn hs (i := i + 1) h1
    have hne : pubR l at_ name sec (i + 1) ≠ [] := fun h => by have := congrArg List.length h; rw [r1] at this; simp at this
    have := hf (pubR l at_ name sec (i + 1)) (by omega)
    simp only [if_pos h1, if_neg hne]
    rw [sgR, nextR, if_pos h1]
    exact this
   simp only [if_neg h1, if_pos]
   rw [sgR, nextR, if_neg h1]
   exact hf text htl
  exact pfR_fits hok hc hn hs hat htl m (i + 1) (by omega) p hp
theorem hss_read (h0 : canE l nl sl = 0) (hn : name.length = nl) (hs : sec.length = sl) (hat : at_ = atsN (l.map tv) x) :
  readP (hpubB l name sec) (hsigB l at_ name sec text) = (0, pfR l at_ name sec text l.length 0) := by
 obtain ⟨hok, hc⟩ := canE_zero h0
 have h1 := hok.1
 obtain ⟨n, w, p', H, hx, h16, k1, k2, k3, k4, k5⟩ := pubR_facts (at_ := at_) (name := name) (sec := sec) hok hc hn hs (i := 0) (by omega)
 have e0 : pubB (l.getD 0 p0) name sec = pubR l at_ name sec 0 := rfl
 have p1 : (putB l.length 4).length = 4 := putB_length 4 _
 have p2 : (putB (l.length - 1) 4).length = 4 := putB_length 4 _
 have d1 : (hpubB l name sec).drop 4 = pubR l at_ name sec 0 := drop_at p1
 have d2 : (hpubB l name sec).take 4 = putB l.length 4 := take_at p1
 have d3 : (hsigB l at_ name sec text).drop 4 = tlR (levR l at_ name sec text) l.length 0 := by
  have := catR_tl (levR l at_ name sec text) l.length 0
  rw [Nat.zero_add, catR_zero, List.nil_append] at this
  rw [← this]; exact drop_at p2
 have d4 : (hsigB l at_ name sec text).take 4 = putB (l.length - 1) 4 := take_at p2
 obtain ⟨q1, q2, q3⟩ := key_app (at_ := at_) (name := name) (sec := sec) hok hc hn hs (i := 0) (by omega) []
 rw [List.append_nil] at q1
 have g1 : getB (putB l.length 4) = l.length := by rw [getB_put, Nat.mod_eq_of_lt (by omega)]
 have g2 : getB (putB (l.length - 1) 4) = l.length - 1 := by rw [getB_put, Nat.mod_eq_of_lt (by omega)]
 obtain ⟨m, hm⟩ : ∃ m, l.length = m + 1 := ⟨l.length - 1, by omega⟩
 rw [readP_eq (by rw [hpubB, List.length_append]; omega) (by rw [d1]; exact q1) (by rw [d1, k2, k1, k3]) (by rw [d2, g1]; exact h1) (by rw [hsigB, List.length_append]; omega) (by rw [d2, d4, g1, g2]), d2, g1, d1, d3, hm]
 exact parse_hss hok hc hn hs hat m 0 (by omega)
theorem hss_fits (h0 : canE l nl sl = 0) (hn : name.length = nl) (hs : sec.length = sl) (hat : at_ = atsN (l.map tv) x) (htl : text.length ≤ 65536) : hfit (hpubB l name sec) text (hsigB l at_ name sec text) := by
 obtain ⟨hok, hc⟩ := canE_zero h0
 rw [hfit, hss_read h0 hn hs hat]
 exact ⟨rfl, pfR_fits hok hc hn hs hat htl _ 0 (by omega)⟩
end
theorem createS_within {S S' : DS} {B : Nat} (h : S.within B) {n : Nat} {hd : KeyH} {batch : UInt64} {o : Option KeyS} {e : Int} (hc : createS S n hd batch = ((S', o), e)) : S'.within (B + 9) := by
 have hn := fun a tot => newC_within h (s := sA a) (show (4 : Nat) ≤ 8 by decide) (headB hd.name hd.l hd.sn hd.ss) tot batch
 unfold createS at hc
 split at hc
 ·
  cases hc; exact h.mono (by omega)
 split at hc
 ·
  cases hc; exact h.mono (by omega)
 split at hc
 ·
  cases hc; exact hn _ _
 cases hc; exact hn _ _
theorem signK_within {S : DS} {B : Nat} (h : S.within B) {ks : List (KeyS × Nat)} (hn : ∀ q ∈ ks, q.1.s.n ≤ 8) (nm text : List UInt8) : (signK S ks nm text).S.within (B + 9) := by
 rw [signK]
 split
 ·
  exact h.mono (by omega)
 rename_i q hq
 have ht := takeC_within h (hn q (findP_mem hq).1) q.1.x q.1.head
 split
 ·
  exact h.mono (by omega)
 split
 ·
  exact ht
 exact ht
theorem hsigB_le {pl : List PairV} {name sec text : List UInt8} {x : Nat} (h0 : canE pl name.length sec.length = 0) : (hsigB pl (atsN (pl.map tv) x) name sec text).length ≤ 80804 := by
 obtain ⟨hok, hc⟩ := canE_zero h0
 have hcl : ∀ k, k ≤ pl.length → (catR (levR pl (atsN (pl.map tv) x) name sec text) k).length ≤ k * 10100 := by
  intro k
  induction k with
  | zero => intro _; rw [catR_zero]; exact Nat.zero_le _
  | succ k ih =>
   intro hk
   have h1 := ih (by omega)
   obtain ⟨z1, z2, _, _⟩ := lv_len hok hc _ text rfl rfl (i := k) (by omega) rfl
   have h2 : (levR pl (atsN (pl.map tv) x) name sec text k).length ≤ 10100 := by
    rw [levR, List.length_append, z1]
    split
    ·
     obtain ⟨n2, _, _, _, _, _, r1, _, _, r4, r5⟩ := pubR_facts (at_ := atsN (pl.map tv) x) (name := name) (sec := sec) hok hc rfl rfl (i := k + 1) (by omega)
     omega
    rw [List.length_nil]; omega
   rw [catR_succ, List.length_append]
   omega
 have := hcl _ (Nat.le_refl _)
 have h8 := hok.1.2
 rw [hsigB, List.length_append, putB_length]
 omega
theorem hpubB_le {pl : List PairV} {name sec : List UInt8} (h0 : canE pl name.length sec.length = 0) : (hpubB pl name sec).length ≤ 100 := by
 obtain ⟨hok, hc⟩ := canE_zero h0
 obtain ⟨n2, _, _, _, _, _, r1, _, _, r4, r5⟩ := pubR_facts (at_ := []) (name := name) (sec := sec) hok hc rfl rfl (i := 0) (by have := hok.1.1; omega)
 have e : (pubR pl [] name sec 0) = pubB (pl.getD 0 p0) name sec := rfl
 rw [e] at r1
 rw [hpubB, List.length_append, putB_length]
 omega
structure GoodK (h : KeyH) : Prop where
 can : canE h.l h.sn.length h.ss.length = 0
 name : 1 ≤ h.name.length ∧ h.name.length ≤ 16
theorem GoodK.may {h : KeyH} (g : GoodK h) : mayK h.name.length h.l h.sn.length h.ss.length := ⟨g.name.1, g.name.2, g.can⟩
theorem sort_good {k s x : Nat} (hk : k < 3) (nm : List UInt8) (hn : 1 ≤ nm.length ∧ nm.length ≤ 16) : GoodK ⟨nm, sortL k, sortN s, sortS x⟩ := by
 refine ⟨?_, hn⟩
 show canE (sortL k) (sortN s).length (sortS x).length = 0
 rw [show (sortN s).length = 16 by simp [sortN], show (sortS x).length = 24 by simp [sortS]]
 rcases (by omega : k = 0 ∨ k = 1 ∨ k = 2) with rfl | rfl | rfl
 ·
  exact can0
 ·
  exact can1
 exact can2
theorem sort_tot {k : Nat} (hk : k < 3) : 2 ≤ totN (sortL k) ∧ totN (sortL k) ≤ 4 := by
 rcases (by omega : k = 0 ∨ k = 1 ∨ k = 2) with rfl | rfl | rfl
 ·
  rw [tot0]; omega
 ·
  rw [tot1]; omega
 rw [tot2]; omega
theorem LiveSt.sign {S : DS} {ks : List (KeyS × Nat)} (hl : LiveSt S (ks.map (·.1))) {nm : List UInt8} {q : KeyS × Nat} (hf : findP ks nm = some q) {i : Nat} (hi : (ks.map (·.1))[i]? = some q.1) (hr : q.1.x.retired = false) (hnum : q.1.s.num.toNat < 9223372036854775808) (ht : q.1.x.next.toNat < q.1.x.total.toNat) {text : List UInt8} (htl : text.length ≤ 65536) :
  ∃ S' k', signK S ks nm text = ⟨S', setP ks (k', q.2), hsigB q.1.h.l (atsN (q.1.h.l.map tv) q.1.x.next.toNat) q.1.h.sn q.1.h.ss text, 0⟩ ∧ k'.h = q.1.h ∧ LiveSt S' ((ks.map (·.1)).set i k') ∧ k'.x.next.toNat = q.1.x.next.toNat + 1 ∧ k'.x.total = q.1.x.total ∧ k'.x.retired = false ∧ S'.sure.length = S.sure.length ∧ k'.s.num.toNat ≤ q.1.s.num.toNat + 1 := by
 obtain ⟨S', k', h1, h2, h3, h4, h5, h6, h7, h8, h9, h10⟩ := hl.take hi hr hnum ht
 have hK := hl.live i q.1 hi
 have hcan := hK.good.2.2
 have he : hsigE q.1.h.l q.1.h.sn.length q.1.h.ss.length q.1.x.next.toNat text.length = 0 := by
  rw [hsigE, if_neg (fun h => h hcan), if_neg (by omega), plE, if_pos (canE_zero hcan).1, if_pos (by rw [← hK.tot]; exact ht)]
 refine ⟨S', k', ?_, h2, h4, h5, h6, h8, h9, h10⟩
 rw [signK, hf]
 show (if 65536 < text.length then _ else _) = _
 rw [if_neg (by omega), h1, if_neg (by simp), h3]
 show SignR.mk S' (setP ks (k', q.2)) (hsigV _ _ _ q.1.x.next.toNat _ _ _ _) (hsigE _ _ _ q.1.x.next.toNat _) = _
 rw [hsigV, he, if_pos rfl]
section
variable {G : World} {M : Mem} {L : Own}
theorem awake22_spec (hg : LmG M) (hsh : ShaG M) : Con Tryz.prog 7 #[] G M L (fun v M' L' => L' = L ∧ v = .bool true) noPanic := by
 have hl0 := LiveSt.fresh 16
 have ha : areasN (fresh 16) = 2 := by kernel_rfl
 have hlen : (fresh 16).sure.length = 16 := fresh_len 16
 have hop : openS (fresh 16) = (0, []) := hl0.openS_eq (by rw [ha]; decide)
 have hgk : GoodK ⟨[97], sortL 1, sortN 1, sortS 0⟩ := sort_good (by omega) _ (by decide)
 refine zfn Tryz.func7 rfl 92 rfl <| zr <| as0 rfl <| zq <| zr <| zca rfl (New_spec 16) ?_
 intro _ M2 L1 hM2 hv
 rw [if_neg (by omega)] at hv
 obtain ⟨d, ⟨r2, hd2, rfl⟩, rfl⟩ := hv
 have hd := hM2
 change IsDisk M2 r2 (fresh 16) at hd2
 refine mvU rfl <| zx rfl <| zx rfl <| asP rfl <| asI rfl <| zq <| .s1 1 rfl <| zr2 <| mvP rfl <| tl_y rfl (y_eqNilPtr rfl rfl) <| zq <| x_false rfl (rfl) <| x_skip <| .then_normal <| zr <| mvP rfl <| zca rfl (sOpen_spec (hg.mono hd) (hsh.mono hd) (S := fresh 16) hd2) ?_
 rintro v M3 L3 hM3 hv
 replace hd := hd.trans hM3
 obtain ⟨sp, mp, r3, E, rfl, h3, hE, rfl⟩ : ∃ sp mp r3 E, v = .tuple #[.pointer (some ⟨sp, 0, none⟩), .int .i64 0] ∧ IsDisk M3 r3 (fresh 16) ∧ KeysAt M3 d [] E ∧ L3 = dL d r3 (fresh 16) (stL sp d 2 mp :: mpL mp [] :: (E ++ L)) := by
  rcases hv with ⟨sp, mp, r3, ks, E, ho, rfl, h3, hE, rfl⟩ | ⟨_, hno, _⟩
  ·
   rw [hop] at ho
   obtain rfl : ks = [] := by simpa using ho
   rw [ha]
   exact ⟨sp, mp, r3, E, rfl, h3, hE, rfl⟩
  rw [hop] at hno; exact absurd rfl hno
 refine mvU rfl <| zx rfl <| zx rfl <| asP rfl <| asI rfl <| zq <| .s2 3 4 rfl rfl <| zr2 <| mvP rfl <| tl_y rfl (y_eqNilPtr rfl rfl) <| mvB rfl <| tl_set (s := 28) (u := .bool false) rfl (rfl) <| mvI rfl <| tl_y rfl (y_neq rfl rfl) <| tPf rfl rfl <| zq <| .s2 3 31 rfl rfl <| x_false rfl (rfl) <| x_skip <| .then_normal <| zr <| zca rfl (Sort22_spec 1 0) ?_
 rintro _ M4 _ hM4 ⟨rfl, A4, n4, c4, y, z, rfl, hr4, hy4, hz4⟩
 replace hd := hd.trans hM4
 change Row M4 2 A4 n4 c4 (prow (sortL 1)) at hr4
 change Bytes M4 y.a y.n y.c (sortN 1) at hy4
 change Bytes M4 z.a z.n z.c (sortS 0) at hz4
 refine mvU rfl <| zx rfl <| zx rfl <| tl_e rfl <| e_alloc <| fun b1 => asS rfl <| tl_e rfl <| e_sT rfl rfl <| zq <| .s3 3 5 6 rfl rfl rfl <| zr <| mvP rfl <| mvS rfl <| tLg rfl rfl <| zca rfl (Con.to (dL d r3 (fresh 16) (stL sp d 2 mp :: mpL mp [] :: (E ++ ((b1, .cells #[y.v, z.v] 33 (0, 0)) :: L)))) iI (sCreate_spec (nm := [97]) (hg.mono hd) (hsh.mono hd) (h3.mono hM4) (by rw [hlen]; omega) (within_fresh 16) (by omega) (hE.mono hM4) hr4 hy4 hz4 2)) ?_
 rintro v M5 L5 hM5 hv
 replace hd := hd.trans hM5
 obtain ⟨S1, k1, e1, k1h, k1x, k1n, hl1, hlen1⟩ := hl0.create hgk.may (batch := 2) (by decide) (by simp) (by rw [ha]; decide)
 rw [ha] at e1
 rw [List.nil_append] at hl1
 obtain ⟨kp, r5, E5, rfl, h5, hE5, rfl⟩ : ∃ kp r5 E5, v = .int .i64 0 ∧ IsDisk M5 r5 S1 ∧ KeysAt M5 d [(k1, kp)] E5 ∧ L5 = dL d r5 S1 (stL sp d 2 mp :: mpL mp [(k1, kp)] :: (E5 ++ ((b1, .cells #[y.v, z.v] 33 (0, 0)) :: L))) := by
  rcases hv with ⟨S', k, kp, r', E', hc, rfl, h1, h2, rfl⟩ | ⟨S', e, r', hc, _, _⟩
  ·
   rw [e1] at hc
   obtain ⟨⟨rfl, hk⟩, _⟩ := Prod.mk.inj hc |>.imp Prod.mk.inj id
   obtain rfl := Option.some.inj hk
   exact ⟨kp, r', E', rfl, h1, h2, rfl⟩
  rw [e1] at hc
  cases hc
 have hw1 := createS_within (within_fresh 16) e1
 have ha1 : areasN S1 = 2 := by rw [areasN_eq hlen1]; exact ha
 have hr5 := hr4.mono hM5
 have hy5 := hy4.mono hM5
 have hz5 := hz4.mono hM5
 refine asI rfl <| zq <| .s4 3 5 6 7 rfl rfl rfl rfl <| zr <| mvP rfl <| mvS rfl <| tLg rfl rfl <| zca rfl (sCreate_spec (nm := [97]) (hg.mono hd) (hsh.mono hd) h5 (by rw [hlen1, hlen]; omega) hw1 (by omega) hE5 hr5 hy5 hz5 2) ?_
 rintro v M6 L6 hM6 hv
 replace hd := hd.trans hM6
 have h10 := hl1.freeTwice (nm := [97]) (by simp [k1h])
 rw [ha1] at h10
 have e2 : createS S1 2 ⟨[97], sortL 1, sortN 1, sortS 0⟩ 2 = ((S1, none), 10) := by
  rw [createS, if_neg (fun h => h ⟨hgk.may, by decide, by decide⟩)]
  show (if (freeS S1 [97] 2).1 ≠ 0 then ((S1, none), (freeS S1 [97] 2).1) else _) = _
  rw [h10, if_pos (by decide)]
 obtain ⟨r6, rfl, h6, rfl⟩ : ∃ r6, v = .int .i64 10 ∧ IsDisk M6 r6 S1 ∧ L6 = dL d r6 S1 (stL sp d 2 mp :: mpL mp [(k1, kp)] :: (E5 ++ ((b1, .cells #[y.v, z.v] 33 (0, 0)) :: L))) := by
  rcases hv with ⟨S', k, kp, r', E', hc, _, _⟩ | ⟨S', e, r', hc, _, rfl, h1, rfl⟩
  ·
   rw [e2] at hc; cases hc
  rw [e2] at hc
  obtain ⟨⟨rfl, _⟩, rfl⟩ := Prod.mk.inj hc |>.imp Prod.mk.inj id
  exact ⟨r', rfl, h1, rfl⟩
 have hE6 := hE5.mono hM6
 have hfd : findP [(k1, kp)] [97] = some (k1, kp) := by rw [findP, if_pos (by rw [k1h])]
 refine asI rfl <| zq <| .s3 3 7 8 rfl rfl rfl <| zr <| mvP rfl <| zca rfl (sPublic_spec (nm := [97]) (hg.mono hd) hE6) ?_
 rintro _ M7 _ hM7 ⟨rfl, A7, m7, c7, rfl, hp7⟩
 replace hd := hd.trans hM7
 have hpk : publicK [(k1, kp)] [97] = (hpubB (sortL 1) (sortN 1) (sortS 0), 0) := by
  rw [publicK, hfd]
  show (hpubV k1.h.l _ _ _ _, canE k1.h.l _ _) = _
  rw [k1h]
  show (hpubV (sortL 1) (sortN 1).length (sortS 0).length (sortN 1) (sortS 0), canE (sortL 1) (sortN 1).length (sortS 0).length) = _
  rw [hpubV, hgk.can, if_pos rfl]
 rw [hpk] at hp7
 rw [hpk]
 have hE7 := hE6.mono hM7
 have h7 := h6.mono hM7
 refine mvU rfl <| zx rfl <| zx rfl <| asS rfl <| asI rfl <| zq <| .s5 3 7 8 9 10 rfl rfl rfl rfl rfl <| zr <| mvP rfl <| tl_e rfl <| e_buildSlice rfl (by decide) <| fun b7 => tl_e rfl <| e_convMark rfl iI <| fun M8 fr8 hM8 hb8 => ?_
 replace hd := hd.trans hM8
 have ht8 : Bytes M8 (some ⟨b7, 0, none⟩) 1 1 [120] := Row.whole hb8 rfl (by omega)
 have hl1' : LiveSt S1 ([(k1, kp)].map (·.1)) := hl1
 have htt := sort_tot (k := 1) (by omega)
 have htot : k1.x.total.toNat = totN (sortL 1) := by rw [k1x]; show (UInt64.ofNat (totN (sortL 1))).toNat = _; rw [UInt64.toNat_ofNat', Nat.mod_eq_of_lt (totN_lt _)]
 have hnx : k1.x.next = 0 := by rw [k1x]; rfl
 obtain ⟨S2, k2, e3, k2h, hl2, _, _, _, hlen2, _⟩ := hl1'.sign hfd (i := 0) rfl (by rw [k1x]; rfl) (by rw [k1n]; decide) (by rw [htot, hnx]; show 0 < _; omega) (text := [120]) (by decide)
 have hok1 : ∀ q ∈ [(k1, kp)], OkS S1 q.1.s := fun q hq => by
  obtain rfl : q = (k1, kp) := by simpa using hq
  exact hl1.ok k1 (by simp)
 refine zca rfl (Con.to (dL d r6 S1 (stL sp d 2 mp :: mpL mp [(k1, kp)] :: (E5 ++ ((b1, .cells #[y.v, z.v] 33 (0, 0)) :: L)))) iI (sSign_spec (nm := [97]) (hg.mono hd) (hsh.mono hd) (h7.mono hM8) hw1 (by omega) (hE7.mono hM8) hok1 ht8)) ?_
 rintro _ M9 _ hM9 ⟨A9, m9, c9, r9, E9, rfl, hs9, h9, hE9, rfl⟩
 replace hd := hd.trans hM9
 rw [e3] at hs9 h9 hE9
 rw [e3]
 have hset : setP [(k1, kp)] (k2, kp) = [(k2, kp)] := by rw [setP, if_pos (by rw [k2h])]
 change KeysAt M9 d (setP [(k1, kp)] (k2, kp)) E9 at hE9
 rw [hset] at hE9
 rw [hset]
 have hw2 := signK_within hw1 (ks := [(k1, kp)]) (fun q hq => by
  obtain rfl : q = (k1, kp) := by simpa using hq
  have := (hl1.live 0 k1 rfl).n
  show k1.s.n ≤ 8
  omega) [97] [120]
 rw [e3] at hw2
 have hl2' : LiveSt S2 [k2] := hl2
 have hok2 : ∀ q ∈ [(k2, kp)], OkS S2 q.1.s := fun q hq => by
  obtain rfl : q = (k2, kp) := by simpa using hq
  exact hl2'.ok k2 (by simp)
 have hfn : findP [(k2, kp)] [98] = none := by rw [findP, if_neg (by rw [k2h]; show ¬ k1.h.name = [98]; rw [k1h]; decide)]; rfl
 have e4 : signK S2 [(k2, kp)] [98] [] = ⟨S2, [(k2, kp)], [], 11⟩ := by rw [signK, hfn]
 refine mvU rfl <| zx rfl <| zx rfl <| asS rfl <| asI rfl <| zq <| .s7 3 7 8 9 10 11 12 rfl rfl rfl rfl rfl rfl rfl <| zr <| mvP rfl <| zca rfl (sSign_spec (nm := [98]) (hg.mono hd) (hsh.mono hd) h9 hw2 (by omega) hE9 hok2 (show Bytes M9 none 0 0 [] from Row.nil _ _)) ?_
 rintro _ M10 _ hM10 ⟨A10, m10, c10, r10, E10, rfl, hs10, h10', hE10, rfl⟩
 replace hd := hd.trans hM10
 rw [e4] at hs10 h10' hE10
 rw [e4]
 refine mvU rfl <| zx rfl <| zx rfl <| asS rfl <| asI rfl <| zq <| .s8 3 7 8 9 10 11 12 14 rfl rfl rfl rfl rfl rfl rfl rfl <| zr <| mvI rfl <| tl_y rfl (y_eql rfl rfl) <| mvB rfl <| tl_set (s := 63) (u := .bool true) rfl (rfl) <| mvI rfl <| tl_y rfl (y_eql rfl rfl) <| tPt rfl rfl <| mvB rfl <| tl_set (s := 67) (u := .bool true) rfl (rfl) <| mvI rfl <| tl_y rfl (y_eql rfl rfl) <| tPt rfl rfl <| mvB rfl <| tl_set (s := 71) (u := .bool true) rfl (rfl) <| mvI rfl <| tl_y rfl (y_eql rfl rfl) <| tPt rfl rfl <| mvB rfl <| tl_set (s := 75) (u := .bool true) rfl (rfl) <| mvS rfl <| tl_e rfl <| e_buildSlice rfl (by decide) <| fun b8 => tl_e rfl <| e_convMark rfl iI <| fun M11 fr11 hM11 hb11 => ?_
 replace hd := hd.trans hM11
 have ht11 : Bytes M11 (some ⟨b8, 0, none⟩) 1 1 [120] := Row.whole hb11 rfl (by omega)
 have hfit : hfit (hpubB (sortL 1) (sortN 1) (sortS 0)) [120] (hsigB k1.h.l (atsN (k1.h.l.map tv) k1.x.next.toNat) k1.h.sn k1.h.ss [120]) := by
  rw [k1h]
  exact hss_fits hgk.can rfl rfl rfl (by decide)
 have hpl := hp7.size
 have hsl := hs9.size
 refine mvS rfl <| zca rfl (Fits_hspec (hg.mono hd) (hp7.mono (hM8.trans (hM9.trans (hM10.trans hM11)))) ht11 (hs9.mono (hM10.trans hM11)) (by rw [← hp7.size]; exact Nat.le_trans (hpubB_le hgk.can) (by omega)) (by rw [← hs9.size]; exact Nat.le_trans (hsigB_le (show canE k1.h.l k1.h.sn.length k1.h.ss.length = 0 by rw [k1h]; exact hgk.can)) (by omega))) ?_
 rintro _ M12 _ hM12 ⟨rfl, rfl⟩
 replace hd := hd.trans hM12
 rw [decide_eq_true hfit]
 refine tPt rfl rfl <| mvB rfl <| tl_set (s := 82) (u := .bool true) rfl (rfl) <| mvI rfl <| tl_y rfl (y_eql rfl rfl) <| tPt rfl rfl <| mvB rfl <| tl_set (s := 86) (u := .bool true) rfl (rfl) <| mvP rfl <| zca rfl (sNames_spec (ks := [(k2, kp)]) (by simp) (by simp)) ?_
 rintro _ M13 _ hM13 ⟨rfl, ns, A13, c13, rfl, _, _, hr13⟩
 replace hd := hd.trans hM13
 refine tLen rfl <| tl_y rfl (y_eql rfl rfl) <| tPt rfl rfl <| asB rfl <| zq <| .s1 0 rfl <| x_ret (.dropTo L iI (ret1 rfl rfl hd ⟨rfl, rfl⟩))
end
theorem areas_le (S : DS) : 8 * areasN S ≤ S.sure.length := by rw [areasN]; omega
theorem findP_none : ∀ {ks : List (KeyS × Nat)} {nm : List UInt8}, nm ∉ ks.map (·.1.h.name) → findP ks nm = none
 | [], _, _ => rfl
 | q0 :: r, nm, h => by
  rw [List.map_cons, List.mem_cons] at h
  rw [findP, if_neg (fun e => h (.inl e.symm)), findP_none (fun e => h (.inr e))]
theorem names_map (ks : List (KeyS × Nat)) : (ks.map (·.1)).map (·.h.name) = ks.map (·.1.h.name) := by rw [List.map_map]; rfl
section
variable {G : World} {M : Mem} {L R : Own} {sp d mp : Nat} {S : DS} {r : DRep} {NA SA : Option Addr} {nl nc sl_ sc : Nat} {sn ss nm : List UInt8}
theorem open_live (hg : LmG M) (hsh : ShaG M) (h : IsDisk M r S) {ks : List KeyS} (hl : LiveSt S ks) {n : Nat} (hn : areasN S = n) (h0 : n ≠ 0) :
  Con Tryz.prog 9 #[.pointer (some ⟨d, 0, none⟩)] G M (dL d r S R)
   (fun v M' L' => ∃ sp mp r' ks' E, v = .tuple #[.pointer (some ⟨sp, 0, none⟩), .int .i64 0] ∧ ks'.map (·.1) = ks.map KeyS.anew ∧ IsDisk M' r' S ∧ KeysAt M' d ks' E ∧ L' = dL d r' S (stL sp d n mp :: mpL mp ks' :: (E ++ R))) noPanic := by
 subst hn
 have hop := hl.openS_eq h0
 refine (sOpen_spec hg hsh h).post ?_
 rintro v M' L' _ hv
 rcases hv with ⟨sp, mp, r', ks', E, ho, rfl, h1, h2, rfl⟩ | ⟨r', hno, _⟩
 ·
  rw [hop] at ho
  exact ⟨sp, mp, r', ks', E, rfl, (Prod.mk.inj ho).2.symm, h1, h2, rfl⟩
 rw [hop] at hno; exact absurd rfl hno
theorem create_live (hg : LmG M) (hsh : ShaG M) (h : IsDisk M r S) {B : Nat} (hw : S.within B) (hB : B ≤ 1000000) {ks : List (KeyS × Nat)} {E : Own} (hE : KeysAt M d ks E) (hl : LiveSt S (ks.map (·.1))) {n : Nat} (han : areasN S = n) {A : Option Addr} {ln lc : Nat} {l : List PairV} (hll : Row M 2 A ln lc (prow l)) (hname : Bytes M NA nl nc sn) (hsec : Bytes M SA sl_ sc ss) (x : UInt64) (hx : 1 ≤ x.toNat ∧ x.toNat ≤ 65536) (hm : mayK nm.length l sn.length ss.length) (hno : nm ∉ ks.map (·.1.h.name)) (hlt : ks.length < n) :
  Con Tryz.prog 11 #[.pointer (some ⟨sp, 0, none⟩), .string (sB nm), .slice A ln lc, .agg (List.toArray (seedC NA nl nc SA sl_ sc)), .int .u64 (x.toNat : Int)] G M (dL d r S (stL sp d n mp :: mpL mp ks :: (E ++ R)))
   (fun v M' L' => ∃ S' k kp r' E', v = .int .i64 0 ∧ k.h = ⟨nm, l, sn, ss⟩ ∧ k.x = newX (UInt64.ofNat (totN l)) x ∧ k.s.num = 1 ∧ LiveSt S' ((ks ++ [(k, kp)]).map (·.1)) ∧ S'.sure.length = S.sure.length ∧ S'.within (B + 9) ∧ IsDisk M' r' S' ∧ KeysAt M' d (ks ++ [(k, kp)]) E' ∧ L' = dL d r' S' (stL sp d n mp :: mpL mp (ks ++ [(k, kp)]) :: (E' ++ R))) noPanic := by
 subst han
 obtain ⟨S1, k1, e1, k1h, k1x, k1n, hl1, hlen1⟩ := hl.create (hd := ⟨nm, l, sn, ss⟩) hm (batch := x) hx (by rw [names_map]; exact hno) (by rw [List.length_map]; exact hlt)
 refine (sCreate_spec hg hsh h (areas_le S) hw hB hE hll hname hsec x).post ?_
 rintro v M' L' _ hv
 rcases hv with ⟨S', k, kp, r', E', hc, rfl, h1, h2, rfl⟩ | ⟨S', e, r', hc, _, _⟩
 ·
  rw [e1] at hc
  obtain ⟨⟨rfl, hk⟩, _⟩ := Prod.mk.inj hc |>.imp Prod.mk.inj id
  obtain rfl := Option.some.inj hk
  have hs : setP ks (k1, kp) = ks ++ [(k1, kp)] := setP_map _ _ (findP_none (by rw [show ((k1, kp) : KeyS × Nat).1.h.name = nm by show k1.h.name = nm; rw [k1h]]; exact hno))
  rw [hs] at h2
  rw [hs]
  exact ⟨S1, k1, kp, r', E', rfl, k1h, k1x, k1n, by rw [List.map_append]; exact hl1, hlen1, createS_within hw e1, h1, h2, rfl⟩
 rw [e1] at hc
 cases hc
theorem create_not (hg : LmG M) (hsh : ShaG M) (h : IsDisk M r S) {B : Nat} (hw : S.within B) (hB : B ≤ 1000000) {ks : List (KeyS × Nat)} {E : Own} (hE : KeysAt M d ks E) (hl : LiveSt S (ks.map (·.1))) {n : Nat} (han : areasN S = n) {A : Option Addr} {ln lc : Nat} {l : List PairV} (hll : Row M 2 A ln lc (prow l)) (hname : Bytes M NA nl nc sn) (hsec : Bytes M SA sl_ sc ss) (x : UInt64) (hx : 1 ≤ x.toNat ∧ x.toNat ≤ 65536) (hm : mayK nm.length l sn.length ss.length) {e : Int} (he : nm ∈ ks.map (·.1.h.name) ∧ e = 10 ∨ nm ∉ ks.map (·.1.h.name) ∧ n ≤ ks.length ∧ e = 12) :
  Con Tryz.prog 11 #[.pointer (some ⟨sp, 0, none⟩), .string (sB nm), .slice A ln lc, .agg (List.toArray (seedC NA nl nc SA sl_ sc)), .int .u64 (x.toNat : Int)] G M (dL d r S (stL sp d n mp :: mpL mp ks :: (E ++ R)))
   (fun v M' L' => ∃ r', v = .int .i64 e ∧ IsDisk M' r' S ∧ L' = dL d r' S (stL sp d n mp :: mpL mp ks :: (E ++ R))) noPanic := by
 subst han
 have hf : (freeS S nm (areasN S)).1 = e ∧ e ≠ 0 := by
  rcases he with ⟨h1, rfl⟩ | ⟨h1, h2, rfl⟩
  ·
   exact ⟨hl.freeTwice (by rw [names_map]; exact h1), by decide⟩
  exact ⟨by rw [hl.freeS_eq (by rw [names_map]; exact h1), if_neg (by rw [List.length_map]; omega)], by decide⟩
 have e1 : createS S (areasN S) ⟨nm, l, sn, ss⟩ x = ((S, none), e) := by
  rw [createS, if_neg (fun h => h ⟨hm, hx.1, hx.2⟩)]
  show (if (freeS S nm (areasN S)).1 ≠ 0 then ((S, none), (freeS S nm (areasN S)).1) else _) = _
  rw [hf.1, if_pos hf.2]
 refine (sCreate_spec hg hsh h (areas_le S) hw hB hE hll hname hsec x).post ?_
 rintro v M' L' _ hv
 rcases hv with ⟨S', k, kp, r', E', hc, _, _⟩ | ⟨S', e', r', hc, _, rfl, h1, rfl⟩
 ·
  rw [e1] at hc
  cases hc
 rw [e1] at hc
 obtain ⟨⟨rfl, _⟩, rfl⟩ := Prod.mk.inj hc |>.imp Prod.mk.inj id
 exact ⟨r', rfl, h1, rfl⟩
end
theorem nth_get {ns : List (List UInt8)} {i : Nat} (h : i < ns.length) : nth ns i = ns[i] := by rw [nth, List.getD_eq_getElem?_getD, List.getElem?_eq_getElem h]; rfl
theorem srt_pair {ns : List (List UInt8)} {n : Nat} (h : srt ns n) (hn : ns.length = n) : ns.Pairwise fun a b => blt b a = false := by
 rw [List.pairwise_iff_getElem]
 intro i j hi hj hij
 have := h i j hij (by omega)
 rwa [nth_get hj, nth_get hi] at this
theorem srt_eq {ns ms : List (List UInt8)} {n : Nat} (hp : ns.Perm ms) (h1 : srt ns n) (h2 : srt ms n) (hn : ns.length = n) : ns = ms :=
 List.Perm.eq_of_pairwise (le := fun a b => blt b a = false) (fun a b _ _ h h' => blt_eq h' h) (srt_pair h1 hn) (srt_pair h2 (by rw [← hp.length_eq]; exact hn)) hp
def nmF (i : Nat) : List UInt8 := [UInt8.ofNat (104 - i)]
def nmsF (n : Nat) : List (List UInt8) := (List.range n).map nmF
theorem nmsF_len (n : Nat) : (nmsF n).length = n := by simp [nmsF]
theorem nmsF_succ (n : Nat) : nmsF (n + 1) = nmsF n ++ [nmF n] := by rw [nmsF, List.range_succ, List.map_append]; rfl
theorem nmsF_srt : ∀ n : Fin 9, ∀ y : Fin 8, ∀ x : Fin 8, x.val < y.val → y.val < n.val → blt (nth (nmsF n.val).reverse y.val) (nth (nmsF n.val).reverse x.val) = false := by decide +kernel
theorem nmsF_sorted {n : Nat} (h : n ≤ 8) : srt (nmsF n).reverse n := fun x y h1 h2 => nmsF_srt ⟨n, by omega⟩ ⟨y, by omega⟩ ⟨x, by omega⟩ h1 h2
theorem nmF_inj {i j : Nat} (hi : i < 8) (hj : j < 8) (h : nmF i = nmF j) : i = j := by
 have : (UInt8.ofNat (104 - i)) = (UInt8.ofNat (104 - j)) := by simpa [nmF] using h
 have := congrArg UInt8.toNat this
 rw [UInt8.toNat_ofNat', UInt8.toNat_ofNat', Nat.mod_eq_of_lt (by omega), Nat.mod_eq_of_lt (by omega)] at this
 omega
theorem nmF_new {i : Nat} (h : i < 8) : nmF i ∉ nmsF i := fun hm => by
 obtain ⟨j, hj, e⟩ := List.mem_map.1 hm
 rw [List.mem_range] at hj
 have := nmF_inj (by omega) h e
 omega
theorem nmsF_rev {n i : Nat} (h : i < n) : nth (nmsF n).reverse i = nmF (n - 1 - i) := by
 rw [nth_get (by rw [List.length_reverse, nmsF_len]; exact h), List.getElem_reverse]
 simp [nmsF]
theorem map_nil' {ks : List (KeyS × Nat)} (h : ks.map (·.1) = ([] : List KeyS).map KeyS.anew) : ks = [] := by simpa using h
section
variable {G : World} {M : Mem} {L : Own}
end
end Go.Proofs.YtplkoemjffplcaaGreatDoor
