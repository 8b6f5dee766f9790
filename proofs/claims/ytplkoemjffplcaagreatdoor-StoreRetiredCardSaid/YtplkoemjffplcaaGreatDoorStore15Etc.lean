/-
Contracts of functions, each proved by a walk through its code.
-/
import Derived.Test.YtplkoemjffplcaaGreatDoorStore9Etc
import Derived.Test.YtplkoemjffplcaaGreatDoorHss4Etc
import Derived.Test.YtplkoemjffplcaaGreatDoorStore4Etc
import Derived.Test.YtplkoemjffplcaaGreatDoorDisk3Etc
import Derived.Test.YtplkoemjffplcaaGreatDoorHss15Etc
import Derived.Test.YtplkoemjffplcaaGreatDoorLms5Etc
set_option linter.all false
namespace Go.Proofs.YtplkoemjffplcaaGreatDoor
open Go Go.Eng
def unseen (seen : List Nat) (l : List Nat) : Nat := l.countP fun i => decide (i ∉ seen)
theorem unseen_lt {seen : List Nat} {i : Nat} (hi : i ∉ seen) : ∀ l : List Nat, unseen (seen ++ [i]) l ≤ unseen seen l ∧ (i ∈ l → unseen (seen ++ [i]) l < unseen seen l)
  | [] => ⟨Nat.le_refl _, fun h => by cases h⟩
  | a :: l => by
    obtain ⟨h1, h2⟩ := unseen_lt hi l
    simp only [unseen, List.countP_cons] at h1 h2 ⊢
    by_cases e : a = i
    ·
      subst e
      rw [if_neg (by simp), if_pos (by simpa using hi)]
      exact ⟨by omega, fun _ => by omega⟩
    have e2 : decide (a ∉ seen ++ [i]) = decide (a ∉ seen) := by simp [e]
    rw [e2]
    refine ⟨by omega, fun h => ?_⟩
    have : i ∈ l := by rcases List.mem_cons.1 h with h | h; · exact absurd h.symm e
                       ·
                         exact h
    have := h2 this
    omega
theorem nodup_le : ∀ (n : Nat) (seen : List Nat), seen.Nodup → (∀ i ∈ seen, i < n) → seen.length ≤ n
 | 0, [], _, _ => Nat.le_refl _
 | 0, a :: s, _, h => by have := h a List.mem_cons_self; omega
 | n + 1, seen, hnd, h => by
  by_cases hm : n ∈ seen
  ·
   have h1 := nodup_le n (seen.erase n) (hnd.erase n) (fun i hi => by
    have h2 := (hnd.mem_erase_iff).1 hi
    have := h i h2.2
    have := h2.1
    omega)
   rw [List.length_erase_of_mem hm] at h1
   omega
  have := nodup_le n seen hnd (fun i hi => by
   have h1 := h i hi
   have : i ≠ n := fun e => hm (e ▸ hi)
   omega)
  omega
theorem seen_perm {n : Nat} {seen : List Nat} (hnd : seen.Nodup) (hlt : ∀ i ∈ seen, i < n) (hall : ∀ i, i < n → i ∈ seen) : seen.Perm (List.range n) := by
 rw [List.perm_iff_count]
 intro a
 by_cases h : a < n
 ·
  rw [hnd.count, List.nodup_range.count, if_pos (hall a h), if_pos (List.mem_range.2 h)]
 rw [hnd.count, List.nodup_range.count, if_neg (fun h' => h (hlt a h')), if_neg (fun h' => h (List.mem_range.1 h'))]
section
variable {G : World} {M : Mem} {L : Own}
abbrev mkL (x0 m : Nat) : Nat × Obj := (x0, .cells #[.map (some m)] 77 (0, 0))
theorem keys1_spec {l x0 m : Nat} {kvs : List (ByteArray × Value)} {X0 : Own} {Inv : List Nat → Mem → Own → Prop} {Dn : Mem → Own → Prop}
  (hy : ∀ seen i kv M1 X1, seen.Nodup → (∀ j ∈ seen, j < kvs.length) → i ∉ seen → kvs[i]? = some kv → Le M M1 → Inv seen M1 X1 → YCon Tryz.prog l [.string kv.1] G M1 X1 (Inv (seen ++ [i])) Dn) (h0 : Inv [] M X0) :
  Con Tryz.prog 110 #[.func (.yield l) #[] #[], .pointer (some ⟨x0, 0, none⟩)] G M (mkL x0 m :: (m, mapO kvs) :: X0)
   (fun v M' L' => ∃ X', L' = mkL x0 m :: (m, mapO kvs) :: X' ∧ ((∃ seen, (∀ i, i < kvs.length → i ∈ seen) ∧ seen.Nodup ∧ (∀ i ∈ seen, i < kvs.length) ∧ Inv seen M' X') ∨ Dn M' X')) noPanic := by
 refine en Tryz.func110 rfl 14 rfl <| zr <| tLd rfl rfl rfl <| tl_e rfl <| e_range rfl ii <| fun b1 => zq <| x_block ?_
 refine x_loop (I := fun m' F D M1 L1 => ∃ (seen : List Nat) (X1 : Own), m' = unseen seen (List.range kvs.length) ∧ seen.Nodup ∧ (∀ i ∈ seen, i < kvs.length) ∧ Le M M1 ∧ Inv seen M1 X1 ∧ D = [] ∧ L1 = (b1, itO m kvs.length seen) :: mkL x0 m :: (m, mapO kvs) :: X1 ∧ F = [(0, .func (.yield l) #[] #[]), (5, .pointer (some ⟨b1, 0, none⟩))]) (unseen [] (List.range kvs.length)) (F0 := [(0, _), (5, _)]) ?_ (cs2 rfl rfl) ?_
 ·
  exact ⟨[], X0, rfl, List.nodup_nil, (fun i hi => by cases hi), Le.refl _, h0, rfl, rfl, rfl⟩
 rintro m _ _ M1 L1 ⟨seen, X1, rfl, hnd, hlt, hM1, hI, rfl, rfl, rfl⟩
 refine zr <| tl_e rfl (e_next rfl ii ii (fun hall => ?_) (fun i kv hi hkv => ⟨_, ii, ?_⟩))
 ·
  refine zx rfl rfl <| zq <| x_seq <| x_false rfl rfl <| x_exit (.then_exit (.loop_exit (.block_exit (.dropTo (mkL x0 m :: (m, mapO kvs) :: X1) ii (end0 rfl hM1 ⟨X1, rfl, .inl ⟨seen, hall, hnd, hlt, hI⟩⟩)))))
 have hil : i < kvs.length := (List.getElem?_eq_some_iff.1 hkv).1
 have hmeas := (unseen_lt hi (List.range kvs.length)).2 (List.mem_range.2 hil)
 refine zx rfl rfl <| zq <| x_seq <| x_true rfl (rfl) <| x_skip <| .then_normal <| x_block <| zr <| tl_y rfl (y_entry rfl ii ii hkv) <| zx rfl rfl <| asT rfl rfl <| zq <| .s3 0 3 5 rfl rfl rfl <| zr <| mvF rfl rfl <| mvT rfl rfl <| tl_e rfl <| e_yieldB (R := [(b1, itO m kvs.length (seen ++ [i])), mkL x0 m, (m, mapO kvs)]) (X := X1) rfl rfl (hy seen i kv M1 X1 hnd hlt hi hkv hM1 hI) <| fun b M2 X2 hM2 hb => ?_
 simp only [List.cons_append, List.nil_append]
 refine tl_y rfl (y_not rfl) <| zq <| .s3 0 5 13 rfl rfl rfl <| x_condb rfl (fun hc2 => ?_) (fun hc2 => ?_)
 ·
  refine x_ret (.block_ret (.loop_ret (.block_ret (.dropTo (mkL x0 m :: (m, mapO kvs) :: X2) ii (ret0 rfl (hM1.trans hM2) ⟨X2, rfl, by
   rcases hb with ⟨rfl, _⟩ | ⟨_, hb⟩
   ·
    simp at hc2
   exact .inr hb⟩)))))
 refine x_skip <| .block_normal <| .loop_next (m' := unseen (seen ++ [i]) (List.range kvs.length)) (by omega) (F' := [(0, _), (5, _)]) (cs2 rfl rfl) ?_
 exact ⟨seen ++ [i], X2, rfl, List.nodup_append.2 ⟨hnd, by simp, (fun a ha b hb => by rintro rfl; simp at hb; exact hi (hb ▸ ha))⟩, (fun j hj => by
  rcases List.mem_append.1 hj with h | h
  ·
   exact hlt j h
  ·
   simp at h; omega), hM1.trans hM2, (by
  rcases hb with ⟨_, hb⟩ | ⟨rfl, _⟩
  ·
   exact hb
  simp at hc2), rfl, rfl, rfl⟩
theorem keys_spec {m : Nat} : Con Tryz.prog 57 #[.map (some m)] G M L (fun v M' L' => M = M' ∧ ∃ x0, L' = mkL x0 m :: L ∧ v = .func (.func 110) #[] #[.pointer (some ⟨x0, 0, none⟩)]) noPanic := by
 refine en Tryz.func57 rfl 4 rfl <| zr <| tl_e rfl <| e_box rfl <| fun b1 => as0 rfl rfl <| zq <| zr <| tl_y rfl (y_makeFunc rfl rfl) <| asF rfl rfl <| zq <| x_ret (ret1 rfl rfl (Le.refl _) ⟨rfl, b1, rfl, rfl⟩)
end
section
variable {G : World} {M : Mem} {L : Own}
theorem appendSeq_spec {x0 m : Nat} {kvs : List (ByteArray × Value)} {names : List (List UInt8)} (hk : ∀ i kv, kvs[i]? = some kv → kv.1 = sB (nth names i)) (hkl : kvs.length = names.length) (hn : names.length ≤ 100) :
  Con Tryz.prog 158 #[.slice none 0 0, .func (.func 110) #[] #[.pointer (some ⟨x0, 0, none⟩)]] G M (mkL x0 m :: (m, mapO kvs) :: L)
   (fun v M' L' => Le M M' ∧ ∃ ns A c E, v = .slice A names.length c ∧ ns.Perm names ∧ OwnRow 9 1 A names.length c (strR ns) E ∧ L' = E ++ ((m, mapO kvs) :: L)) noPanic := by
 refine enterM (args := [_, _]) (fn := Tryz.f158) ⟨Tryz.func158, rfl, by kernel_rfl, by kernel_rfl⟩ 13 rfl <| zr <| tl_e rfl <| e_box rfl <| fun b1 => as0 rfl rfl <| zq <| zr2 <| mvF rfl rfl <| zq <| x_block <| x_rangeN rfl rfl <| fun l r0 fn tm lps las lbd hps has hbd htm => ?_
 obtain ⟨xs, hxs⟩ : ∃ xs : LoopState → Option Code → Option Addr → Nat → Nat → Own → Own, ∀ st pd A k c E, xs st pd A k c E = lrec l st pd fn tm lps las lbd r0 :: (r0, .deferred (some [])) :: (b1, .cells #[.slice A k c] 48 (0, 0)) :: (E ++ L) := ⟨_, fun _ _ _ _ _ _ => rfl⟩
 refine Con.postD (Con.to (mkL x0 m :: (m, mapO kvs) :: xs .ready none none 0 0 []) (by rw [hxs, List.nil_append]; infer_instance) (keys1_spec (Inv := fun seen M2 X2 => ∃ (A6 : Option Addr) (c6 : Nat) (E6 : Own), Le M M2 ∧ OwnRow 9 1 A6 seen.length c6 (strR (seen.map (nth names))) E6 ∧ X2 = xs .ready none A6 seen.length c6 E6) (Dn := fun _ _ => False) ?_ ⟨none, 0, [], Le.refl _, .nil, rfl⟩)) ?_
 ·
  rintro seen i kv M2 X2 hnd hlt hi hkv hM2 ⟨A6, c6, E6, hM12, hE6, rfl⟩
  rw [hxs, hk i kv hkv]
  have hsl := nodup_le _ _ hnd hlt
  subst hps
  subst has
  subst hbd
  refine ycon_body htm rfl (by kernel_rfl) <| fun R1 => ?_
  simp only [List.cons_append, List.append_assoc]
  refine x_region <| asT rfl rfl <| .bring l ii <| tl_nil <| .asg (by kernel_rfl) <| x_block <| x_region <| tLd rfl rfl rfl <| mvT rfl rfl <| tl_e rfl <| e_buildSlice rfl (by decide) <| fun b8 => .pub b8 ii <| fun M5 hM5 hb8 => .bringE E6 ii <| tl_e rfl <| e_append (by decide) rfl rfl hE6 (.row (Row.whole (s := 1) hb8 rfl (by omega))) rfl (by omega) (by omega) <| fun A9 c9 E9 hE9 => ?_
  have hrr : strR (seen.map (nth names)) ++ [Value.string (sB (nth names i))] = strR ((seen ++ [i]).map (nth names)) := by simp [strR]
  have hll : seen.length + 1 = (seen ++ [i]).length := by simp
  rw [hrr, hll] at hE9
  rw [hll]
  refine tl_e rfl <| e_st rfl rfl (by rfl) (by rfl) <| tl_nil (.block_normal (.on ((r0, .deferred (some [])) :: (b1, .cells #[.slice A9 (seen ++ [i]).length c9] 48 (0, 0)) :: (E9 ++ (L ++ R1))) ii ii
   (X := (r0, .deferred (some [])) :: (b1, .cells #[.slice A9 (seen ++ [i]).length c9] 48 (0, 0)) :: (E9 ++ L)) (by simp) hM5 ⟨A9, c9, E9, hM12.trans hM5, hE9, (hxs _ _ _ _ _ _).symm⟩))
 rintro v M4 L4 hM4 ⟨X', rfl, hX⟩
 rcases hX with ⟨seen, hall, hnd, hlt, A6, c6, E6, hM34, hE6, rfl⟩ | hX
 ·
  have hp := seen_perm hnd hlt hall
  have hsl : seen.length = names.length := by rw [hp.length_eq, List.length_range, hkl]
  rw [hsl] at hE6
  have hpn : (seen.map (nth names)).Perm names := by
   refine (hp.map _).trans ?_
   rw [hkl]
   have : (List.range names.length).map (nth names) = names := by
    apply List.ext_getElem?
    intro j
    rw [List.getElem?_map]
    by_cases hj : j < names.length
    ·
     rw [List.getElem?_range hj, List.getElem?_eq_getElem hj, Option.map_some]; show some (names.getD j []) = _; rw [List.getD_eq_getElem?_getD, List.getElem?_eq_getElem hj]; rfl
    rw [List.getElem?_eq_none (by simp; omega), List.getElem?_eq_none (by omega)]; rfl
   rw [this]
  refine ⟨lrec l .ready none fn tm lps las lbd r0 :: (r0, .deferred (some [])) :: (b1, .cells #[.slice A6 names.length c6] 48 (0, 0)) :: (E6 ++ ((m, mapO kvs) :: L)), by rw [hxs, hsl]; infer_instance, .ready, none, _, by simp, rfl, ?_⟩
  refine .block_normal <| .then_normal <| zr <| tLd rfl rfl rfl <| asS rfl rfl <| zq <| x_ret (.retM1 (r := r0) (L1 := E6 ++ ((m, mapO kvs) :: L)) ii (rv1 rfl (rc_tmp (by rfl))) ii hM34 ⟨hM34, _, A6, c6, E6, rfl, hpn, hE6, rfl⟩)
 exact hX.elim
theorem collect_spec {x0 m : Nat} {kvs : List (ByteArray × Value)} {names : List (List UInt8)} (hk : ∀ i kv, kvs[i]? = some kv → kv.1 = sB (nth names i)) (hkl : kvs.length = names.length) (hn : names.length ≤ 100) :
  Con Tryz.prog 108 #[.func (.func 110) #[] #[.pointer (some ⟨x0, 0, none⟩)]] G M (mkL x0 m :: (m, mapO kvs) :: L)
   (fun v M' L' => Le M M' ∧ ∃ ns A c E, v = .slice A names.length c ∧ ns.Perm names ∧ OwnRow 9 1 A names.length c (strR ns) E ∧ L' = E ++ ((m, mapO kvs) :: L)) noPanic := by
 refine en Tryz.func108 rfl 5 rfl <| zr <| as0 rfl rfl <| zq <| zr <| mvF rfl rfl <| ec rfl rfl (appendSeq_spec hk hkl hn) ?_
 rintro _ M1 _ hM1 ⟨_, ns, A, c, E, rfl, h1, h2, rfl⟩
 refine asS rfl rfl <| zq <| x_ret (ret1 rfl rfl hM1 ⟨hM1, ns, A, c, E, rfl, h1, h2, rfl⟩)
theorem sorted_spec {x0 m : Nat} {kvs : List (ByteArray × Value)} {names : List (List UInt8)} (hk : ∀ i kv, kvs[i]? = some kv → kv.1 = sB (nth names i)) (hkl : kvs.length = names.length) (h1 : 1 ≤ names.length) (hn : names.length ≤ 12) :
  Con Tryz.prog 56 #[.func (.func 110) #[] #[.pointer (some ⟨x0, 0, none⟩)]] G M (mkL x0 m :: (m, mapO kvs) :: L)
   (fun v M' L' => L' = (m, mapO kvs) :: L ∧ ∃ ns A c, v = .slice A names.length c ∧ ns.Perm names ∧ srt ns names.length ∧ Row M' 1 A names.length c (strR ns)) noPanic := by
 refine en Tryz.func56 rfl 9 rfl <| zr <| as0 rfl rfl <| zq <| zr <| mvF rfl rfl <| ec rfl rfl (collect_spec hk hkl (by omega)) ?_
 rintro _ M1 _ hM1 ⟨_, ns, A, c, E, rfl, hp, hE, rfl⟩
 refine asS rfl rfl <| zq <| .s1 3 rfl <| zr <| mvS rfl rfl <| ec rfl rfl (sort_spec hE h1 hn) ?_
 rintro _ _ _ _ ⟨rfl, ns', E', rfl, hE', hp', hs'⟩
 refine zq <| zr <| mvS rfl rfl <| asS rfl rfl <| zq <| .s1 2 rfl <| x_ret (.pubRow hE' fun M9 hM9 hr9 => ret1 rfl rfl (hM1.trans hM9) ⟨rfl, ns', A, c, rfl, hp'.trans hp, hs', hr9⟩)
theorem sNames_spec {sp d n mp : Nat} {S : DS} {r : DRep} {R : Own} {ks : List (KeyS × Nat)} (h1 : 1 ≤ ks.length) (hn : ks.length ≤ 12) :
  Con Tryz.prog 19 #[.pointer (some ⟨sp, 0, none⟩)] G M (dL d r S (stL sp d n mp :: mpL mp ks :: R))
   (fun v M' L' => L' = dL d r S (stL sp d n mp :: mpL mp ks :: R) ∧ ∃ ns A c, v = .slice A ks.length c ∧ ns.Perm (ks.map (·.1.h.name)) ∧ srt ns ks.length ∧ Row M' 1 A ks.length c (strR ns)) noPanic := by
 have hk : ∀ i kv, (kvsK ks)[i]? = some kv → kv.1 = sB (nth (ks.map (·.1.h.name)) i) := fun i kv hkv => by
  rw [kvsK, List.getElem?_map] at hkv
  cases hq : ks[i]? with
  | none => rw [hq] at hkv; cases hkv
  | some q =>
   rw [hq] at hkv
   obtain rfl := Option.some.inj hkv
   show sB q.1.h.name = sB ((ks.map (·.1.h.name)).getD i [])
   rw [List.getD_eq_getElem?_getD, List.getElem?_map, hq]; rfl
 have hl : (ks.map (·.1.h.name)).length = ks.length := by simp
 refine en Tryz.func19 rfl 9 rfl <| zr <| as0 rfl rfl <| zq <| zr <| mvP rfl rfl <| zc rfl rfl <| tFa rfl rfl <| tLd rfl rfl rfl <| ec rfl rfl keys_spec ?_
 rintro _ _ _ _ ⟨rfl, x0, rfl, rfl⟩
 refine ec rfl rfl (Con.to (mkL x0 mp :: (mp, mapO (kvsK ks)) :: dL d r S (stL sp d n mp :: R)) ii (sorted_spec hk (by simp [kvsK]) (by rw [hl]; exact h1) (by rw [hl]; exact hn))) ?_
 rintro _ M1 _ hM1 ⟨rfl, ns, A, c, rfl, hp, hs, hr⟩
 rw [hl] at hs hr
 rw [hl]
 refine asS rfl rfl <| zq <| .s1 2 rfl <| x_ret (.to (dL d r S (stL sp d n mp :: mpL mp ks :: R)) ii (ret1 rfl rfl hM1 ⟨rfl, ns, A, c, rfl, hp, hs, hr⟩))
end
structure Live (S : DS) (s : SS) (x : Cn) (head : List UInt8) : Prop where
 bears : Bears S s
 nz : s.num ≠ 0
 n : s.n = 8
 b : s.b = bytesC x head
 may : mayB x head.length = true
 next : x.next.toNat ≤ x.reserved.toNat
theorem mayB_iff {x : Cn} {l : Nat} : mayB x l = true ↔ (1 ≤ x.total.toNat ∧ x.total.toNat ≤ 1152921504606846976 ∧ 1 ≤ x.batch.toNat ∧ x.batch.toNat ≤ 65536 ∧ x.reserved.toNat ≤ x.total.toNat ∧ l ≤ 200) := by rw [mayB, decide_eq_true_eq]
theorem Live.take {S : DS} {s : SS} {x : Cn} {head : List UInt8} (h : Live S s x head) (hr : x.retired = false) (hnum : s.num.toNat < 9223372036854775808) (ht : x.next.toNat < x.total.toNat) :
  ∃ S' s' x', takeC S s x head = (((S', s'), x'), (x.next, 0)) ∧ Live S' s' x' head ∧ x'.next.toNat = x.next.toNat + 1 ∧ x'.total = x.total ∧ x'.batch = x.batch ∧ x'.retired = x.retired ∧ s'.first = s.first ∧ S'.sure.length = S.sure.length ∧
   ((x.next.toNat < x.reserved.toNat ∧ S' = S ∧ s' = s ∧ x'.reserved = x.reserved) ∨ (x.next.toNat = x.reserved.toNat ∧ s'.num.toNat = s.num.toNat + 1 ∧ x'.reserved.toNat = min x.total.toNat (x.reserved.toNat + x.batch.toNat))) := by
 obtain ⟨m1, m2, m3, m4, m5, m6⟩ := mayB_iff.1 h.may
 have hn := h.next
 have hne : x.next ≠ x.total := fun e => by rw [e] at ht; omega
 have hadd : ∀ u : UInt64, u.toNat < 9223372036854775808 → (u + 1).toNat = u.toNat + 1 := fun u hu => by rw [UInt64.toNat_add]; simp; omega
 by_cases he : x.next = x.reserved
 ·
  have hsum : (x.reserved + x.batch).toNat = x.reserved.toNat + x.batch.toNat := by rw [UInt64.toNat_add]; omega
  have hres : (moreC x).reserved.toNat = min x.total.toNat (x.reserved.toNat + x.batch.toNat) := by
   rw [moreC]; show (if _ then _ else _ : UInt64).toNat = _
   rw [hsum]; split <;> omega
  have hxr : x.next.toNat = x.reserved.toNat := by rw [he]
  have hmore : mayB (moreC x) head.length = true := mayB_iff.2 ⟨m1, m2, m3, m4, by rw [hres]; exact Nat.min_le_left _ _, m6⟩
  have hbl : (bytesC (moreC x) head).length + 28 ≤ 64 * s.n := by rw [bytesC_length, h.n]; omega
  have hne2 : moreC x ≠ x := fun e => by have := congrArg Cn.reserved e; rw [← UInt64.toNat_inj, hres] at this; omega
  have hsv := save_calm h.bears.calm h.bears.ok hbl
  have hcs : saveC S s x (moreC x) head = (((savedD S s (bytesC (moreC x) head), s.saved (bytesC (moreC x) head)), moreC x), 0) := by
   rw [saveC, if_neg hne2, if_neg (by simp [hmore]), hsv, if_neg (by simp)]
  have hnx : (x.next + 1).toNat = x.next.toNat + 1 := hadd _ (by omega)
  refine ⟨_, _, nextC' (moreC x), ?_, ⟨h.bears.save hbl (by omega), ?_, h.n, rfl, hmore, ?_⟩, hnx, rfl, rfl, rfl, rfl, setSecs_length _ _ _ _, .inr ⟨hxr, hadd _ hnum, hres⟩⟩
  ·
   rw [takeC, if_neg (by simp [hr]), if_neg hne, if_pos he, hcs, if_neg (by simp)]
   show (((_, _), nextC' (moreC x)), ((x.next + 1 - 1), _)) = _
   rw [UInt64.add_sub_cancel]
  ·
   show s.num + 1 ≠ 0
   intro e
   have := hadd s.num hnum
   rw [e] at this
   simp at this
  show (x.next + 1).toNat ≤ (moreC x).reserved.toNat
  rw [hnx, hres]; omega
 have hlt : x.next.toNat < x.reserved.toNat := by
  have : x.next.toNat ≠ x.reserved.toNat := fun e => he (UInt64.toNat_inj.1 e)
  omega
 have hnx : (x.next + 1).toNat = x.next.toNat + 1 := hadd _ (by omega)
 refine ⟨S, s, nextC' x, ?_, ⟨h.bears, h.nz, h.n, h.b, h.may, ?_⟩, hnx, rfl, rfl, rfl, rfl, rfl, .inl ⟨hlt, rfl, rfl, rfl⟩⟩
 ·
  rw [takeC, if_neg (by simp [hr]), if_neg hne, if_neg he]
  show (((S, s), nextC' x), ((x.next + 1 - 1), _)) = _
  rw [UInt64.add_sub_cancel]
 show (x.next + 1).toNat ≤ x.reserved.toNat
 omega
theorem Live.load {S : DS} {s t : SS} {x : Cn} {head : List UInt8} (h : Live S s x head) (hf : t.first = s.first) (hn : t.n = s.n) : loadRes S t = (s, 0) := by
 rw [h.bears.load h.nz hf hn]
 cases s; cases t; simp_all
structure LiveK (S : DS) (k : KeyS) (i : Nat) : Prop where
 bears : Bears S k.s
 nz : k.s.num ≠ 0
 n : k.s.n = 4
 first : k.s.first = 8 * i
 b : k.s.b = bytesC k.x k.head
 may : mayB k.x k.head.length = true
 next : k.x.next.toNat ≤ k.x.reserved.toNat
 good : mayK k.h.name.length k.h.l k.h.sn.length k.h.ss.length
 tot : k.x.total.toNat = totN k.h.l
structure FreeA (S : DS) (i : Nat) : Prop where
 calm : S.calm
 in_ : 8 * i + 8 ≤ S.sure.length
 z : ∀ j, j < 8 → S.sure.getD (8 * i + j) [] = zeros
theorem head_len {k : KeyS} (h : mayK k.h.name.length k.h.l k.h.sn.length k.h.ss.length) : k.head.length ≤ 130 := by
 obtain ⟨h1, h2, h3, h4, h5⟩ := mayK_facts h
 have h6 := h.2.1
 have h7 := headB_len k.h.name k.h.l k.h.sn k.h.ss
 show (headB k.h.name k.h.l k.h.sn k.h.ss).length ≤ 130
 omega
theorem Bears.other {S : DS} {s t : SS} (h : Bears S t) (ok : OkS S s) (hsn : s.n = 4) (htn : t.n = 4) {b : List UInt8} (hb : b.length + 28 ≤ 64 * s.n) (hd : t.first + 8 ≤ s.first ∨ s.first + 8 ≤ t.first) : Bears (savedD S s b) t := by
 have hc := calm_saved h.calm ok hb
 have hl : (savedD S s b).sure.length = S.sure.length := setSecs_length _ _ _ _
 have hin := h.ok.in_
 have hat := h.ok.at_
 have hto := to_le s
 have hsat := ok.at_
 have hq := Nat.mul_le_mul_right s.n (show s.to ≤ 1 by omega)
 have ho : ∀ a, t.first ≤ a → a ≤ t.first + 4 → areaB (savedD S s b) a t.n = areaB S a t.n := fun a h1 h2 => by
  have := area_other h.calm ok hb (a := a) (by omega) (by omega)
  rw [hsn] at this; rw [htn]; exact this
 refine ⟨hc, ⟨h.ok.n, by rw [hl]; exact h.ok.in_, h.ok.at_, h.ok.b⟩, fun h0 => ?_, fun h0 => ?_⟩
 ·
  rw [ho _ (by omega) (by omega), ho _ (by omega) (by omega)]; exact h.zero h0
 have e : t.at_ = 0 ∨ t.at_ = 1 := by omega
 have := h.own h0
 rcases e with e | e <;> rw [e] at this ⊢ <;> rw [ho _ (by omega) (by omega), ho _ (by omega) (by omega)] <;> exact this
theorem LiveK.other {S : DS} {s : SS} {k : KeyS} {i j : Nat} (h : LiveK S k i) (ok : OkS S s) (hsn : s.n = 4) (hsf : s.first = 8 * j) (hij : i ≠ j) {b : List UInt8} (hb : b.length + 28 ≤ 64 * s.n) : LiveK (savedD S s b) k i :=
 ⟨h.bears.other ok hsn h.n hb (by rw [h.first, hsf]; omega), h.nz, h.n, h.first, h.b, h.may, h.next, h.good, h.tot⟩
theorem FreeA.other {S : DS} {s : SS} {i j : Nat} (h : FreeA S i) (ok : OkS S s) (hsn : s.n = 4) (hsf : s.first = 8 * j) (hij : i ≠ j) {b : List UInt8} (hb : b.length + 28 ≤ 64 * s.n) : FreeA (savedD S s b) i := by
 have hin := ok.in_
 have hto := to_le s
 have hsat := ok.at_
 have hq := Nat.mul_le_mul_right s.n (show s.to ≤ 1 by omega)
 refine ⟨calm_saved h.calm ok hb, by rw [show (savedD S s b).sure.length = S.sure.length from setSecs_length _ _ _ _]; exact h.in_, fun x hx => ?_⟩
 show (setSecs S.sure _ _ s.n).getD _ [] = _
 rw [setSecs_get _ _ _ _ _ (by omega), if_neg (by omega)]
 exact h.z x hx
theorem FreeA.load {S : DS} {i : Nat} (h : FreeA S i) : loadRes S (sA i) = (sA i, 11) := by
 have hin := h.in_
 have z1 : areaB S (sA i).first (sA i).n = List.replicate 256 0 := area_zeros h.calm 4 (by show 8 * i + 4 ≤ _; omega) (fun j hj => h.z j (by omega))
 have z2 : areaB S ((sA i).first + (sA i).n) (sA i).n = List.replicate 256 0 := area_zeros h.calm 4 (by show 8 * i + 4 + 4 ≤ _; omega) (fun j hj => by
  have := h.z (4 + j) (by omega)
  rwa [← Nat.add_assoc] at this)
 rw [loadRes, if_neg (by simp [h.calm.down]), z1, z2, loaded, readRec_zeros, if_neg (by decide), if_neg (by decide), if_pos (.inl (by rw [isBlank, List.all_replicate]; rfl))]
 rfl
theorem FreeA.loadK {S : DS} {i : Nat} (h : FreeA S i) : loadK S i = (0, none) := by
 have e : (openC S (sA i)).2 = 11 := by rw [openC, h.load, if_pos (by simp)]
 rw [Go.Proofs.YtplkoemjffplcaaGreatDoor.loadK, if_pos e]
theorem FreeA.bears {S : DS} {i : Nat} (h : FreeA S i) : Bears S (sA i) := by
 have hin := h.in_
 have z1 : areaB S (sA i).first (sA i).n = List.replicate 256 0 := area_zeros h.calm 4 (by show 8 * i + 4 ≤ _; omega) (fun j hj => h.z j (by omega))
 have z2 : areaB S ((sA i).first + (sA i).n) (sA i).n = List.replicate 256 0 := area_zeros h.calm 4 (by show 8 * i + 4 + 4 ≤ _; omega) (fun j hj => by
  have := h.z (4 + j) (by omega)
  rwa [← Nat.add_assoc] at this)
 exact ⟨h.calm, okS0 (by omega) (by omega), fun _ => ⟨rfl, rfl, by rw [z1, readRec_zeros], by rw [z2, readRec_zeros]⟩, fun h0 => absurd rfl h0⟩
def KeyS.anew (k : KeyS) : KeyS := { k with x := { k.x with next := k.x.reserved } }
theorem LiveK.loadK {S : DS} {k : KeyS} {i : Nat} (h : LiveK S k i) : loadK S i = (0, some k.anew) := by
 have hl : loadRes S (sA i) = (k.s, 0) := by
  rw [h.bears.load h.nz (by rw [h.first]; rfl) (by rw [h.n]; rfl)]
  have h1 := h.n
  have h2 := h.first
  obtain ⟨kh, kx, ks⟩ := k
  obtain ⟨a, b, c, d, e⟩ := ks
  simp only at h1 h2
  subst h1 h2
  rfl
 have ho : openC S (sA i) = (({ k.x with next := k.x.reserved }, k.head), 0) := by
  rw [openC, hl, if_neg (by simp)]
  show readC k.s.b = _
  rw [h.b, readC_bytesC h.may]
 obtain ⟨p1, p2, p3, p4, p5⟩ := parse_headB h.good
 have hg : goodH k.head ∧ k.x.total.toNat = totN (lH k.head) := ⟨p1, by rw [show lH k.head = k.h.l from p3]; exact h.tot⟩
 rw [Go.Proofs.YtplkoemjffplcaaGreatDoor.loadK, ho, if_neg (by simp), if_neg (by simp), if_neg (by simp)]
 show (if goodH k.head ∧ k.x.total.toNat = totN (lH k.head) then _ else _) = _
 rw [if_pos hg, hl]
 show (0, some (⟨⟨nameH k.head, lH k.head, snH k.head, ssH k.head⟩, _, k.s⟩ : KeyS)) = _
 rw [show nameH k.head = k.h.name from p2, show lH k.head = k.h.l from p3, show snH k.head = k.h.sn from p4, show ssH k.head = k.h.ss from p5]
 rfl
theorem LiveK.anew {S : DS} {k : KeyS} {i : Nat} (h : LiveK S k i) : LiveK S k.anew i := ⟨h.bears, h.nz, h.n, h.first, h.b, h.may, Nat.le_refl _, h.good, h.tot⟩
structure LiveSt (S : DS) (ks : List KeyS) : Prop where
 calm : S.calm
 le : ks.length ≤ areasN S
 live : ∀ i k, ks[i]? = some k → LiveK S k i
 free : ∀ i, ks.length ≤ i → i < areasN S → FreeA S i
 names : (ks.map (·.h.name)).Nodup
theorem hasK_false {ks : List KeyS} {nm : List UInt8} : hasK ks nm = false ↔ nm ∉ ks.map (·.h.name) := by
 rw [hasK, List.any_eq_false]
 constructor
 ·
  intro h hm
  obtain ⟨k, hk, e⟩ := List.mem_map.1 hm
  have := h k hk
  simp [e] at this
 intro h k hk
 simp only [decide_eq_true_eq]
 intro e
 exact h (List.mem_map.2 ⟨k, hk, e⟩)
theorem LiveSt.openGo_eq {S : DS} {ks : List KeyS} (h : LiveSt S ks) : ∀ m, m ≤ areasN S → openGo S m = (0, (ks.take m).map KeyS.anew)
 | 0, _ => rfl
 | m + 1, hm => by
  have ih := h.openGo_eq m (by omega)
  rw [Go.Proofs.YtplkoemjffplcaaGreatDoor.openGo, ih, if_neg (by simp)]
  by_cases hmk : m < ks.length
  ·
   obtain ⟨k, hk⟩ : ∃ k, ks[m]? = some k := ⟨_, List.getElem?_eq_getElem hmk⟩
   have ht : ks.take (m + 1) = ks.take m ++ [k] := by rw [List.take_add_one, hk]; rfl
   rw [(h.live m k hk).loadK, if_neg (by simp)]
   have hno : hasK ((ks.take m).map KeyS.anew) k.anew.h.name = false := by
    rw [hasK_false, List.map_map]
    show k.h.name ∉ (ks.take m).map (·.h.name)
    have hnd := h.names
    rw [← List.take_append_drop (m + 1) ks, ht, List.map_append, List.map_append] at hnd
    have h1 := (List.nodup_append.1 (List.nodup_append.1 hnd).1).2.2
    intro hm
    exact h1 _ hm _ (by simp) rfl
   show (if hasK ((ks.take m).map KeyS.anew) k.anew.h.name then _ else _) = _
   rw [hno, ht, List.map_append]; rfl
  rw [(h.free m (by omega) (by omega)).loadK, if_neg (by simp)]
  show (0, (ks.take m).map KeyS.anew) = _
  rw [List.take_of_length_le (by omega), List.take_of_length_le (by omega)]
theorem LiveSt.openS_eq {S : DS} {ks : List KeyS} (h : LiveSt S ks) (h0 : areasN S ≠ 0) : openS S = (0, ks.map KeyS.anew) := by
 rw [Go.Proofs.YtplkoemjffplcaaGreatDoor.openS, if_neg h0, h.openGo_eq _ (Nat.le_refl _), List.take_of_length_le h.le]
theorem LiveSt.freeGo_eq {S : DS} {ks : List KeyS} (h : LiveSt S ks) {nm : List UInt8} (hn : nm ∉ ks.map (·.h.name)) : ∀ m, m ≤ areasN S → freeGo S nm m = (0, if ks.length < m then (ks.length : Int) else -1)
 | 0, _ => rfl
 | m + 1, hm => by
  have ih := h.freeGo_eq hn m (by omega)
  rw [Go.Proofs.YtplkoemjffplcaaGreatDoor.freeGo, ih, if_neg (by simp)]
  by_cases hmk : m < ks.length
  ·
   obtain ⟨k, hk⟩ : ∃ k, ks[m]? = some k := ⟨_, List.getElem?_eq_getElem hmk⟩
   rw [(h.live m k hk).loadK, if_neg (by simp)]
   show (if k.h.name = nm then _ else _) = _
   rw [if_neg (fun e => hn (List.mem_map.2 ⟨k, List.mem_of_getElem? hk, e⟩)), if_neg (by omega), if_neg (by omega)]
  rw [(h.free m (by omega) (by omega)).loadK, if_neg (by simp)]
  show (if (if ks.length < m then (ks.length : Int) else -1) < 0 then (0, (m : Int)) else (0, if ks.length < m then (ks.length : Int) else -1)) = _
  rw [if_pos (show ks.length < m + 1 by omega)]
  by_cases e : ks.length < m
  ·
   rw [if_pos e, if_neg (by omega)]
  rw [if_neg e, if_pos (by omega), show m = ks.length by omega]
theorem LiveSt.freeS_eq {S : DS} {ks : List KeyS} (h : LiveSt S ks) {nm : List UInt8} (hn : nm ∉ ks.map (·.h.name)) : freeS S nm (areasN S) = if ks.length < areasN S then (0, (ks.length : Int)) else (12, -1) := by
 rw [Go.Proofs.YtplkoemjffplcaaGreatDoor.freeS, h.freeGo_eq hn _ (Nat.le_refl _), if_neg (by simp)]
 by_cases e : ks.length < areasN S
 ·
  rw [if_pos e, if_pos e, if_neg (by show ¬ (ks.length : Int) < 0; omega)]
 rw [if_neg e, if_neg e, if_pos (by show (-1 : Int) < 0; omega)]
theorem LiveSt.freeTwice {S : DS} {ks : List KeyS} (h : LiveSt S ks) {nm : List UInt8} (hn : nm ∈ ks.map (·.h.name)) : (freeS S nm (areasN S)).1 = 10 := by
 obtain ⟨k, hk, e⟩ := List.mem_map.1 hn
 obtain ⟨i, hi, hik⟩ := List.mem_iff_getElem.1 hk
 have hki : ks[i]? = some k := by rw [List.getElem?_eq_getElem hi, hik]
 have hle := h.le
 have hex : ∃ m, m ≤ areasN S ∧ (Go.Proofs.YtplkoemjffplcaaGreatDoor.freeGo S nm m).1 = 10 := by
  by_cases hz : (Go.Proofs.YtplkoemjffplcaaGreatDoor.freeGo S nm i).1 = 0
  ·
   refine ⟨i + 1, by omega, ?_⟩
   rw [Go.Proofs.YtplkoemjffplcaaGreatDoor.freeGo, if_neg (by rw [hz]; simp), (h.live i k hki).loadK, if_neg (by simp)]
   show (if k.h.name = nm then ((10 : Int), (-1 : Int)) else _).1 = 10
   rw [if_pos e]
  refine ⟨i, by omega, ?_⟩
  clear hki hik
  induction i with
  | zero => exact absurd rfl hz
  | succ j ih =>
   by_cases hj : (Go.Proofs.YtplkoemjffplcaaGreatDoor.freeGo S nm j).1 = 0
   ·
    obtain ⟨kj, hkj⟩ : ∃ kj, ks[j]? = some kj := ⟨_, List.getElem?_eq_getElem (by omega)⟩
    rw [Go.Proofs.YtplkoemjffplcaaGreatDoor.freeGo, if_neg (by rw [hj]; simp), (h.live j kj hkj).loadK, if_neg (by simp)] at hz ⊢
    change ¬ (if kj.h.name = nm then ((10 : Int), (-1 : Int)) else Go.Proofs.YtplkoemjffplcaaGreatDoor.freeGo S nm j).1 = 0 at hz
    show (if kj.h.name = nm then ((10 : Int), (-1 : Int)) else Go.Proofs.YtplkoemjffplcaaGreatDoor.freeGo S nm j).1 = 10
    by_cases e2 : kj.h.name = nm
    ·
     rw [if_pos e2]
    rw [if_neg e2] at hz; exact absurd hj hz
   have := ih (by omega) hj
   rw [freeGo_stuck hj (j + 1) (by omega)]; exact this
 obtain ⟨m, hm, h10⟩ := hex
 have hne : (Go.Proofs.YtplkoemjffplcaaGreatDoor.freeGo S nm m).1 ≠ 0 := by rw [h10]; decide
 rw [Go.Proofs.YtplkoemjffplcaaGreatDoor.freeS, freeGo_stuck hne _ hm, if_pos hne]; exact h10
theorem areasN_eq {S S' : DS} (h : S'.sure.length = S.sure.length) : areasN S' = areasN S := by rw [areasN, areasN, h]
theorem savedD_len (S : DS) (s : SS) (b : List UInt8) : (savedD S s b).sure.length = S.sure.length := setSecs_length _ _ _ _
theorem LiveSt.create {S : DS} {ks : List KeyS} (h : LiveSt S ks) {hd : KeyH} (hm : mayK hd.name.length hd.l hd.sn.length hd.ss.length) {batch : UInt64} (hb : 1 ≤ batch.toNat ∧ batch.toNat ≤ 65536) (hn : hd.name ∉ ks.map (·.h.name)) (hl : ks.length < areasN S) :
  ∃ S' k, createS S (areasN S) hd batch = ((S', some k), 0) ∧ k.h = hd ∧ k.x = newX (UInt64.ofNat (totN hd.l)) batch ∧ k.s.num = 1 ∧ LiveSt S' (ks ++ [k]) ∧ S'.sure.length = S.sure.length := by
 obtain ⟨f1, f2, f3, f4, f5⟩ := mayK_facts hm
 have hf := h.free ks.length (Nat.le_refl _) hl
 have htn : (UInt64.ofNat (totN hd.l)).toNat = totN hd.l := by rw [UInt64.toNat_ofNat', Nat.mod_eq_of_lt (totN_lt hd.l)]
 have htp : 1 ≤ totN hd.l := by rw [totN, if_pos f5]; exact pw2_pos _
 have hle : (headB hd.name hd.l hd.sn hd.ss).length ≤ 130 := by
  have h6 := hm.2.1
  have h7 := headB_len hd.name hd.l hd.sn hd.ss
  omega
 obtain ⟨tot, htot⟩ : ∃ tot, UInt64.ofNat (totN hd.l) = tot := ⟨_, rfl⟩
 obtain ⟨head, hhd⟩ : ∃ head, headB hd.name hd.l hd.sn hd.ss = head := ⟨_, rfl⟩
 rw [htot] at htn
 rw [hhd] at hle
 have hmay : mayB (newX tot batch) head.length = true := mayB_iff.2 ⟨by show 1 ≤ tot.toNat; omega, by show tot.toNat ≤ _; rw [htn]; exact totN_le _, hb.1, hb.2, Nat.zero_le _, by omega⟩
 have hbl : (bytesC (newX tot batch) head).length + 28 ≤ 64 * (sA ks.length).n := by rw [bytesC_length]; show _ ≤ 64 * 4; omega
 have hbe := hf.bears
 have hsv := save_calm hbe.calm hbe.ok hbl
 have hnew : newC S (sA ks.length) head tot batch = ((savedD S (sA ks.length) (bytesC (newX tot batch) head), (sA ks.length).saved (bytesC (newX tot batch) head)), 0) := by
  rw [newC, if_neg (by simp [hmay]), hf.load, if_neg (by simp), if_pos rfl, hsv]
 have hfs : freeS S hd.name (areasN S) = (0, (ks.length : Int)) := by rw [h.freeS_eq hn, if_pos hl]
 refine ⟨savedD S (sA ks.length) (bytesC (newX tot batch) head), ⟨hd, newX tot batch, (sA ks.length).saved (bytesC (newX tot batch) head)⟩, ?_, rfl, by rw [htot], rfl, ?_, savedD_len _ _ _⟩
 ·
  rw [createS, if_neg (fun h => h ⟨hm, hb.1, hb.2⟩), hfs, if_neg (by simp)]
  simp only [Int.toNat_natCast]
  rw [htot, hhd, hnew, if_neg (by simp)]
 have hlen := savedD_len S (sA ks.length) (bytesC (newX tot batch) head)
 refine ⟨calm_saved hbe.calm hbe.ok hbl, by rw [areasN_eq hlen, List.length_append]; show ks.length + 1 ≤ _; omega, fun i k hk => ?_, fun i hi hi2 => ?_, ?_⟩
 ·
  by_cases hik : i < ks.length
  ·
   rw [List.getElem?_append_left hik] at hk
   exact (h.live i k hk).other hbe.ok rfl rfl (by omega) hbl
  rw [List.getElem?_append_right (by omega)] at hk
  obtain ⟨rfl, rfl⟩ : i = ks.length ∧ k = ⟨hd, newX tot batch, (sA ks.length).saved (bytesC (newX tot batch) head)⟩ := by
   have h1 := (List.getElem?_eq_some_iff.1 hk).1
   have hi0 : i - ks.length = 0 := by simp at h1; omega
   rw [hi0] at hk
   exact ⟨by omega, by simpa using hk.symm⟩
  refine ⟨hbe.save hbl (by show (0 : UInt64).toNat < _; decide), by show (0 : UInt64) + 1 ≠ 0; decide, rfl, rfl, ?_, ?_, Nat.zero_le _, hm, by show tot.toNat = _; exact htn⟩
  ·
   show bytesC (newX tot batch) head = bytesC (newX tot batch) (headB hd.name hd.l hd.sn hd.ss); rw [hhd]
  show mayB (newX tot batch) (headB hd.name hd.l hd.sn hd.ss).length = true; rw [hhd]; exact hmay
 ·
  rw [List.length_append] at hi
  rw [areasN_eq hlen] at hi2
  exact (h.free i (by simp at hi; omega) hi2).other hbe.ok rfl rfl (by simp at hi; omega) hbl
 rw [List.map_append]
 exact List.nodup_append.2 ⟨h.names, by simp, fun a ha b hb e => by simp at hb; exact hn (by rw [← hb, ← e]; exact ha)⟩
theorem LiveSt.set {S : DS} {ks : List KeyS} (h : LiveSt S ks) {i : Nat} {k k' : KeyS} (hk : ks[i]? = some k) {b : List UInt8} (hb : b.length + 28 ≤ 64 * k.s.n) (hh : k'.h = k.h) (hlv : LiveK (savedD S k.s b) k' i) : LiveSt (savedD S k.s b) (ks.set i k') := by
 have hik := (List.getElem?_eq_some_iff.1 hk).1
 have hK := h.live i k hk
 have hlen := savedD_len S k.s b
 refine ⟨hlv.bears.calm, by rw [areasN_eq hlen, List.length_set]; exact h.le, fun j q hq => ?_, fun j hj hj2 => ?_, ?_⟩
 ·
  rw [List.getElem?_set] at hq
  by_cases e : i = j
  ·
   subst e
   rw [if_pos rfl, if_pos hik] at hq
   obtain rfl : k' = q := by simpa using hq
   exact hlv
  rw [if_neg e] at hq
  exact (h.live j q hq).other hK.bears.ok hK.n hK.first (fun h => e h.symm) hb
 ·
  rw [List.length_set] at hj
  rw [areasN_eq hlen] at hj2
  exact (h.free j hj hj2).other hK.bears.ok hK.n hK.first (by omega) hb
 have : (ks.set i k').map (·.h.name) = ks.map (·.h.name) := by
  rw [List.map_set]
  apply List.ext_getElem?
  intro j
  rw [List.getElem?_set]
  by_cases e : i = j
  ·
   subst e
   rw [if_pos rfl, if_pos (by simp; exact hik), List.getElem?_map, hk, Option.map_some, hh]
  rw [if_neg e]
 rw [this]; exact h.names
theorem LiveSt.keep {S : DS} {ks : List KeyS} (h : LiveSt S ks) {i : Nat} {k k' : KeyS} (hk : ks[i]? = some k) (hh : k'.h = k.h) (hlv : LiveK S k' i) : LiveSt S (ks.set i k') := by
 have hik := (List.getElem?_eq_some_iff.1 hk).1
 refine ⟨h.calm, by rw [List.length_set]; exact h.le, fun j q hq => ?_, fun j hj hj2 => h.free j (by rw [List.length_set] at hj; exact hj) hj2, ?_⟩
 ·
  rw [List.getElem?_set] at hq
  by_cases e : i = j
  ·
   subst e
   rw [if_pos rfl, if_pos hik] at hq
   obtain rfl : k' = q := by simpa using hq
   exact hlv
  rw [if_neg e] at hq
  exact h.live j q hq
 have : (ks.set i k').map (·.h.name) = ks.map (·.h.name) := by
  rw [List.map_set]
  apply List.ext_getElem?
  intro j
  rw [List.getElem?_set]
  by_cases e : i = j
  ·
   subst e
   rw [if_pos rfl, if_pos (by simp; exact hik), List.getElem?_map, hk, Option.map_some, hh]
  rw [if_neg e]
 rw [this]; exact h.names
theorem LiveSt.take {S : DS} {ks : List KeyS} (hl : LiveSt S ks) {i : Nat} {k : KeyS} (hk : ks[i]? = some k) (hr : k.x.retired = false) (hnum : k.s.num.toNat < 9223372036854775808) (ht : k.x.next.toNat < k.x.total.toNat) :
  ∃ S' k', takeC S k.s k.x k.head = (((S', k'.s), k'.x), (k.x.next, 0)) ∧ k'.h = k.h ∧ tookK S k = k' ∧ LiveSt S' (ks.set i k') ∧ k'.x.next.toNat = k.x.next.toNat + 1 ∧ k'.x.total = k.x.total ∧ k'.x.batch = k.x.batch ∧ k'.x.retired = false ∧ S'.sure.length = S.sure.length ∧ k'.s.num.toNat ≤ k.s.num.toNat + 1 := by
 have h := hl.live i k hk
 obtain ⟨m1, m2, m3, m4, m5, m6⟩ := mayB_iff.1 h.may
 have hn := h.next
 have hh130 := head_len h.good
 have hne : k.x.next ≠ k.x.total := fun e => by rw [e] at ht; omega
 have hadd : ∀ u : UInt64, u.toNat < 9223372036854775808 → (u + 1).toNat = u.toNat + 1 := fun u hu => by rw [UInt64.toNat_add]; simp; omega
 by_cases he : k.x.next = k.x.reserved
 ·
  have hsum : (k.x.reserved + k.x.batch).toNat = k.x.reserved.toNat + k.x.batch.toNat := by rw [UInt64.toNat_add]; omega
  have hres : (moreC k.x).reserved.toNat = min k.x.total.toNat (k.x.reserved.toNat + k.x.batch.toNat) := by
   rw [moreC]; show (if _ then _ else _ : UInt64).toNat = _
   rw [hsum]; split <;> omega
  have hxr : k.x.next.toNat = k.x.reserved.toNat := by rw [he]
  have hmore : mayB (moreC k.x) k.head.length = true := mayB_iff.2 ⟨m1, m2, m3, m4, by rw [hres]; exact Nat.min_le_left _ _, m6⟩
  have hbl : (bytesC (moreC k.x) k.head).length + 28 ≤ 64 * k.s.n := by rw [bytesC_length, h.n]; omega
  have hne2 : moreC k.x ≠ k.x := fun e => by have := congrArg Cn.reserved e; rw [← UInt64.toNat_inj, hres] at this; omega
  have hsv := save_calm h.bears.calm h.bears.ok hbl
  have hcs : saveC S k.s k.x (moreC k.x) k.head = (((savedD S k.s (bytesC (moreC k.x) k.head), k.s.saved (bytesC (moreC k.x) k.head)), moreC k.x), 0) := by
   rw [saveC, if_neg hne2, if_neg (by simp [hmore]), hsv, if_neg (by simp)]
  have hnx : (k.x.next + 1).toNat = k.x.next.toNat + 1 := hadd _ (by omega)
  have htk : takeC S k.s k.x k.head = (((savedD S k.s (bytesC (moreC k.x) k.head), k.s.saved (bytesC (moreC k.x) k.head)), nextC' (moreC k.x)), (k.x.next, 0)) := by
   rw [takeC, if_neg (by simp [hr]), if_neg hne, if_pos he, hcs, if_neg (by simp)]
   show (((_, _), nextC' (moreC k.x)), ((k.x.next + 1 - 1), _)) = _
   rw [UInt64.add_sub_cancel]
  refine ⟨_, ⟨k.h, nextC' (moreC k.x), k.s.saved (bytesC (moreC k.x) k.head)⟩, htk, rfl, by rw [tookK, htk], hl.set hk hbl rfl ⟨h.bears.save hbl (by omega), ?_, h.n, h.first, rfl, hmore, ?_, h.good, h.tot⟩, hnx, rfl, rfl, hr, savedD_len _ _ _, ?_⟩
  ·
   show k.s.num + 1 ≠ 0
   intro e
   have := hadd k.s.num hnum
   rw [e] at this
   simp at this
  ·
   show (k.x.next + 1).toNat ≤ (moreC k.x).reserved.toNat
   rw [hnx, hres]; omega
  show (k.s.num + 1).toNat ≤ _
  rw [hadd _ hnum]; exact Nat.le_refl _
 have hlt : k.x.next.toNat < k.x.reserved.toNat := by
  have : k.x.next.toNat ≠ k.x.reserved.toNat := fun e => he (UInt64.toNat_inj.1 e)
  omega
 have hnx : (k.x.next + 1).toNat = k.x.next.toNat + 1 := hadd _ (by omega)
 have htk : takeC S k.s k.x k.head = (((S, k.s), nextC' k.x), (k.x.next, 0)) := by
  rw [takeC, if_neg (by simp [hr]), if_neg hne, if_neg he]
  show (((S, k.s), nextC' k.x), ((k.x.next + 1 - 1), _)) = _
  rw [UInt64.add_sub_cancel]
 refine ⟨S, ⟨k.h, nextC' k.x, k.s⟩, htk, rfl, by rw [tookK, htk], hl.keep hk rfl ⟨h.bears, h.nz, h.n, h.first, h.b, h.may, ?_, h.good, h.tot⟩, hnx, rfl, rfl, hr, rfl, Nat.le_succ _⟩
 show (k.x.next + 1).toNat ≤ k.x.reserved.toNat
 omega
theorem LiveSt.retire {S : DS} {ks : List KeyS} (hl : LiveSt S ks) {i : Nat} {k : KeyS} (hk : ks[i]? = some k) (hr : k.x.retired = false) (hnum : k.s.num.toNat < 9223372036854775808) :
  ∃ S' k', retireC S k.s k.x k.head = (((S', k'.s), k'.x), 0) ∧ k'.h = k.h ∧ retiredK S k = k' ∧ LiveSt S' (ks.set i k') ∧ k'.x = { k.x with retired := true } ∧ S'.sure.length = S.sure.length ∧ k'.s.num.toNat ≤ k.s.num.toNat + 1 := by
 have h := hl.live i k hk
 have hh130 := head_len h.good
 have hadd : (k.s.num + 1).toNat = k.s.num.toNat + 1 := by rw [UInt64.toNat_add]; simp; omega
 obtain ⟨x', hx'⟩ : ∃ x', ({ k.x with retired := true } : Cn) = x' := ⟨_, rfl⟩
 have hne2 : x' ≠ k.x := fun e => by
  have := congrArg Cn.retired e
  rw [hr, ← hx'] at this; cases this
 have hmore : mayB x' k.head.length = true := by rw [← hx']; exact h.may
 have hbl : (bytesC x' k.head).length + 28 ≤ 64 * k.s.n := by rw [bytesC_length, h.n]; omega
 have hsv := save_calm h.bears.calm h.bears.ok hbl
 have hcs : retireC S k.s k.x k.head = (((savedD S k.s (bytesC x' k.head), k.s.saved (bytesC x' k.head)), x'), 0) := by
  rw [retireC, hx', saveC, if_neg hne2, if_neg (by simp [hmore]), hsv, if_neg (by simp)]
 refine ⟨_, ⟨k.h, x', k.s.saved (bytesC x' k.head)⟩, hcs, rfl, by rw [retiredK, hcs], hl.set hk hbl rfl ⟨h.bears.save hbl (by omega), ?_, h.n, h.first, rfl, hmore, by rw [← hx']; exact h.next, h.good, by rw [← hx']; exact h.tot⟩, hx'.symm, savedD_len _ _ _, by show (k.s.num + 1).toNat ≤ _; omega⟩
 show k.s.num + 1 ≠ 0
 intro e
 rw [e] at hadd
 simp at hadd
theorem LiveSt.fresh (n : Nat) : LiveSt (fresh n) [] := by
 refine ⟨calm_fresh n, Nat.zero_le _, fun i k hk => by simp at hk, fun i _ hi => ⟨calm_fresh n, ?_, fun j hj => ?_⟩, by simp⟩
 ·
  rw [areasN] at hi
  have : 8 * i + 8 ≤ 8 * ((Go.Proofs.YtplkoemjffplcaaGreatDoor.fresh n).sure.length / 8) := by omega
  omega
 have hl : (Go.Proofs.YtplkoemjffplcaaGreatDoor.fresh n).sure.length = n := by simp [Go.Proofs.YtplkoemjffplcaaGreatDoor.fresh]
 rw [areasN, hl] at hi
 have : 8 * i + 8 ≤ 8 * (n / 8) := by omega
 simp [Go.Proofs.YtplkoemjffplcaaGreatDoor.fresh, List.getD_eq_getElem?_getD, show 8 * i + j < n by omega]
theorem LiveSt.up {S : DS} {ks : List KeyS} (h : LiveSt S ks) {S' : DS} (hs : S'.sure = S.sure) (hc : S'.calm) : LiveSt S' ks := by
 have hl : S'.sure.length = S.sure.length := by rw [hs]
 have hp : S'.pend = S.pend := by rw [hc.pend, h.calm.pend]
 have hd : S'.down = S.down := by rw [hc.down, h.calm.down]
 have ha : ∀ a k, areaB S' a k = areaB S a k := fun a k => by
  induction k with
  | zero => rfl
  | succ k ih =>
   have e : ∀ i, readRes S' i = readRes S i := fun i => by unfold readRes; rw [hs, hp, hd]
   rw [areaB, areaB, ih, e]
 refine ⟨hc, by rw [areasN_eq hl]; exact h.le, fun i k hk => ?_, fun i hi hi2 => ?_, h.names⟩
 ·
  have hK := h.live i k hk
  exact ⟨⟨hc, ⟨hK.bears.ok.n, by rw [hl]; exact hK.bears.ok.in_, hK.bears.ok.at_, hK.bears.ok.b⟩, fun h0 => by rw [ha, ha]; exact hK.bears.zero h0, fun h0 => by rw [ha, ha]; exact hK.bears.own h0⟩, hK.nz, hK.n, hK.first, hK.b, hK.may, hK.next, hK.good, hK.tot⟩
 rw [areasN_eq hl] at hi2
 have hF := h.free i hi hi2
 exact ⟨hc, by rw [hl]; exact hF.in_, fun j hj => by rw [hs]; exact hF.z j hj⟩
theorem LiveSt.anew {S : DS} {ks : List KeyS} (h : LiveSt S ks) : LiveSt S (ks.map KeyS.anew) := by
 refine ⟨h.calm, by rw [List.length_map]; exact h.le, fun i k hk => ?_, fun i hi hi2 => h.free i (by rw [List.length_map] at hi; exact hi) hi2, by rw [List.map_map]; exact h.names⟩
 rw [List.getElem?_map] at hk
 cases hq : ks[i]? with
 | none => rw [hq] at hk; cases hk
 | some q =>
  rw [hq] at hk
  obtain rfl := Option.some.inj hk
  exact (h.live i q hq).anew
theorem LiveSt.ok {S : DS} {ks : List KeyS} (h : LiveSt S ks) : ∀ k ∈ ks, OkS S k.s := fun k hk => by
 obtain ⟨i, hi, e⟩ := List.mem_iff_getElem.1 hk
 exact (h.live i k (by rw [List.getElem?_eq_getElem hi, e])).bears.ok
def sortL : Nat → List PairV
 | 0 => [⟨7, 4026531845⟩]
 | 1 => [⟨7, 4026531846⟩]
 | 2 => [⟨7, 4026531845⟩, ⟨7, 4026531845⟩]
 | _ => [⟨3, 4026531845⟩]
def sortN (s : Nat) : List UInt8 := List.replicate 16 (UInt8.ofNat (200 + s % 4))
def sortS (n : Nat) : List UInt8 := List.replicate 24 (UInt8.ofNat (100 + n % 4))
section
variable {G : World} {M : Mem} {L : Own}
theorem rep_set (n k : Nat) (a : UInt8) (h : k < n) : (List.replicate k a ++ List.replicate (n - k) (0 : UInt8)).set k a = List.replicate (k + 1) a ++ List.replicate (n - (k + 1)) 0 := by
 have e : List.replicate (n - k) (0 : UInt8) = 0 :: List.replicate (n - (k + 1)) 0 := by rw [show n - k = (n - (k + 1)) + 1 by omega, List.replicate_succ]
 rw [e, List.set_append_right _ _ (by simp), List.length_replicate, Nat.sub_self, List.set_cons_zero, List.replicate_succ', List.append_assoc]; rfl
abbrev byL (b : Nat) (bs : List UInt8) : Nat × Obj := (b, .cells (bs.map bv).toArray 5 (0, 0))
theorem Sort22_spec (s x : UInt8) : Con Tryz.prog 10 #[.int .u8 (s.toNat : Int), .int .u8 (x.toNat : Int)] G M L (fun v M' L' => L' = L ∧ ∃ (A : Option Addr) (n c : Nat) (y z : SlV), v = .tuple #[.slice A n c, .agg #[y.v, z.v]] ∧ Row M' 2 A n c (prow (sortL (s.toNat % 4))) ∧ Bytes M' y.a y.n y.c (sortN s.toNat) ∧ Bytes M' z.a z.n z.c (sortS x.toNat)) noPanic := by
 have hs := s.toNat_lt
 have hx := x.toNat_lt
 have hbvs : ∀ (l : List UInt8) (k : Nat) (a : UInt8), (l.map bv).set k (bv a) = (l.set k a).map bv := fun l k a => by rw [List.map_set]
 refine en Tryz.func10 rfl 51 rfl <| zr <| as0 rfl rfl <| tl_e rfl <| e_alloc <| fun b1 => zq <| zr <| tl_y rfl (y_build rfl) <| tl_e rfl <| e_buildSlice rfl (by decide) <| fun b2 => .pub b2 ii <| fun M2 hM2 hb2 => tl_y rfl (y_build rfl) <| tl_e rfl <| e_buildSlice rfl (by decide) <| fun b3 => .pub b3 ii <| fun M3 hM3 hb3 => tl_y rfl (y_build rfl) <| tl_y rfl (y_build rfl) <| tl_e rfl <| e_buildSlice rfl (by decide) <| fun b4 => .pub b4 ii <| fun M4 hM4 hb4 => tl_y rfl (y_build rfl) <| tl_e rfl <| e_buildSlice rfl (by decide) <| fun b5 => .pub b5 ii <| fun M5 hM5 hb5 => tl_e rfl <| e_buildSlice rfl (by decide) <| fun b6 => .pub b6 ii <| fun M6 hM6 hb6 => ?_
 have hd : Le M M6 := hM2.trans (hM3.trans (hM4.trans (hM5.trans hM6)))
 have w2 : Row M6 2 (some ⟨b2, 0, none⟩) 1 1 (prow (sortL 0)) := (Row.whole (s := 2) (m := 1) hb2 rfl (by omega)).mono (hM3.trans (hM4.trans (hM5.trans hM6)))
 have w3 : Row M6 2 (some ⟨b3, 0, none⟩) 1 1 (prow (sortL 1)) := (Row.whole (s := 2) (m := 1) hb3 rfl (by omega)).mono (hM4.trans (hM5.trans hM6))
 have w4 : Row M6 2 (some ⟨b4, 0, none⟩) 2 2 (prow (sortL 2)) := (Row.whole (s := 2) (m := 2) hb4 rfl (by omega)).mono (hM5.trans hM6)
 have w5 : Row M6 2 (some ⟨b5, 0, none⟩) 1 1 (prow (sortL 3)) := (Row.whole (s := 2) (m := 1) hb5 rfl (by omega)).mono hM6
 refine mvI rfl rfl <| tl_y rfl (y_remI rfl rfl (by omega)) ?_
 rw [show (s.toNat : Int) % 4 = ((s.toNat % 4 : Nat) : Int) by omega]
 obtain ⟨k, hk, hk4⟩ : ∃ k, s.toNat % 4 = k ∧ k < 4 := ⟨_, rfl, by omega⟩
 rw [hk]
 have hr := Row.whole (s := 1) (m := 4) (vs := [Value.slice (some ⟨b2, 0, none⟩) 1 1, .slice (some ⟨b3, 0, none⟩) 1 1, .slice (some ⟨b4, 0, none⟩) 2 2, .slice (some ⟨b5, 0, none⟩) 1 1]) hb6 rfl (by omega)
 obtain ⟨g, o, hgo, hcell⟩ := hr.addr (by omega)
 obtain ⟨rfl, rfl⟩ : b6 = g ∧ 0 = o := by simpa using hgo
 obtain ⟨A, n, c, hv, hrow⟩ : ∃ A n c, [Value.slice (some ⟨b2, 0, none⟩) 1 1, .slice (some ⟨b3, 0, none⟩) 1 1, .slice (some ⟨b4, 0, none⟩) 2 2, .slice (some ⟨b5, 0, none⟩) 1 1][k]? = some (.slice A n c) ∧ Row M6 2 A n c (prow (sortL k)) := by
  rcases (by omega : k = 0 ∨ k = 1 ∨ k = 2 ∨ k = 3) with rfl | rfl | rfl | rfl
  ·
   exact ⟨_, _, _, rfl, w2⟩
  ·
   exact ⟨_, _, _, rfl, w3⟩
  ·
   exact ⟨_, _, _, rfl, w4⟩
  exact ⟨_, _, _, rfl, w5⟩
 refine tl_y rfl (y_indexAddr rfl rfl (by omega)) <| tl_y rfl (y_load rfl rfl (.at_ (hcell _ k _ hv) (by omega))) <| asS rfl rfl <| zq <| .s4 0 1 5 6 rfl rfl rfl rfl <| x_seq <| x_meet (I := fun F D M7 L7 => ∃ (b bn bs : Nat), F = [(0, .int .u8 (s.toNat : Int)), (1, .int .u8 (x.toNat : Int)), (5, .pointer (some ⟨b1, 0, none⟩)), (6, .slice A n c), (7, .pointer (some ⟨b, 0, none⟩))] ∧ D = [] ∧ M6 = M7 ∧ DropTo L7 ((b, .cells (List.toArray (seedC (some ⟨bn, 0, none⟩) (Int.toNat 16) (Int.toNat 16) (some ⟨bs, 0, none⟩) (Int.toNat 24) (Int.toNat 24))) 33 (0, 0)) :: (bn, .cells (List.replicate (Int.toNat 16) (Value.int .u8 0)).toArray 5 (0, 0)) :: (bs, .cells (List.replicate (Int.toNat 24) (Value.int .u8 0)).toArray 5 (0, 0)) :: (b1, .cells #[.slice none 0 0, .slice none 0 0] 33 (0, 0)) :: L)) ?_ (fun Jd2 => ?_)
 ·
  rintro _ _ _ L7 ⟨b, bn, bs, rfl, rfl, rfl, hdr⟩
  refine .dropTo _ hdr <| .to ((b, .cells (List.toArray (seedC (some ⟨bn, 0, none⟩) 16 16 (some ⟨bs, 0, none⟩) 24 24)) 33 (0, 0)) :: byL bn (List.replicate 16 0) :: byL bs (List.replicate 24 0) :: (b1, .cells #[.slice none 0 0, .slice none 0 0] 33 (0, 0)) :: L) ⟨by
   have h16 : List.replicate (Int.toNat 16) (Value.int .u8 0) = (List.replicate 16 (0 : UInt8)).map bv := by simp [bv]
   have h24 : List.replicate (Int.toNat 24) (Value.int .u8 0) = (List.replicate 24 (0 : UInt8)).map bv := by simp [bv]
   rw [h16, h24]; exact List.Perm.refl _⟩ ?_
  obtain ⟨u, hu, hu2⟩ : ∃ u : UInt8, UInt8.ofNat (100 + x.toNat % 4) = u ∧ (u.toNat : Int) = 100 + (x.toNat : Int) % 4 := ⟨_, rfl, by rw [UInt8.toNat_ofNat', Nat.mod_eq_of_lt (by omega)]; omega⟩
  obtain ⟨w, hw, hw2⟩ : ∃ w : UInt8, UInt8.ofNat (200 + s.toNat % 4) = w ∧ (w.toNat : Int) = 200 + (s.toNat : Int) % 4 := ⟨_, rfl, by rw [UInt8.toNat_ofNat', Nat.mod_eq_of_lt (by omega)]; omega⟩
  refine zr2 <| as0 rfl rfl <| zq <| x_block ?_
  refine x_loop (I := fun m' F D M7 L7 => ∃ (j : Nat), m' = 24 - j ∧ j ≤ 24 ∧ D = [] ∧ M6 = M7 ∧ (b, .cells (List.toArray (seedC (some ⟨bn, 0, none⟩) 16 16 (some ⟨bs, 0, none⟩) 24 24)) 33 (0, 0)) :: byL bn (List.replicate 16 0) :: byL bs (List.replicate j u ++ List.replicate (24 - j) 0) :: (b1, .cells #[.slice none 0 0, .slice none 0 0] 33 (0, 0)) :: L = L7 ∧ F = [(0, .int .u8 (s.toNat : Int)), (1, .int .u8 (x.toNat : Int)), (5, .pointer (some ⟨b1, 0, none⟩)), (6, .slice A n c), (7, .pointer (some ⟨b, 0, none⟩)), (8, .int .i64 j)]) (24) (F0 := [(0, _), (1, _), (5, _), (6, _), (7, _), (8, _)]) ?_ (cs6 rfl rfl rfl rfl rfl rfl) ?_
  ·
   exact ⟨0, rfl, by omega, rfl, rfl, rfl, rfl⟩
  rintro m _ _ _ _ ⟨j, rfl, hj, rfl, rfl, rfl, rfl⟩
  refine zr2 <| mvI rfl rfl <| tl_y rfl (y_lss rfl rfl) <| zq <| x_cond rfl (fun hc1 => ?_) (fun hc1 => ?_)
  ·
   have hj24 : j < 24 := by omega
   have hlen : (List.replicate j u ++ List.replicate (24 - j) (0 : UInt8)).length = 24 := by simp; omega
   refine x_skip <| .then_normal <| x_seq <| x_block <| x_region <| tFa rfl rfl <| tLd rfl rfl rfl <| mvI rfl rfl <| mvI rfl rfl <| tl_y rfl (y_remI rfl rfl (by omega)) <| tl_y rfl (y_addN8 rfl rfl (by omega)) ?_
   rw [← hu2]
   refine tl_y rfl (y_indexAddr rfl rfl (by omega)) <| tl_e rfl <| e_storeAt (c := (List.replicate j u ++ List.replicate (24 - j) (0 : UInt8)).map bv) rfl rfl rfl ii (by rw [List.length_map, hlen]; omega) ii ?_
   rw [show 0 + ((j : Nat) : Int).toNat * 1 = j by omega, show Value.int .u8 (u.toNat : Int) = bv u from rfl, hbvs, rep_set 24 j u hj24]
   refine tl_nil <| .block_normal <| .then_normal <| .s6 0 1 5 6 7 8 rfl rfl rfl rfl rfl rfl <| x_region <| mvI rfl rfl <| tl_y rfl (y_addI rfl rfl (by omega)) <| asI rfl rfl <| tl_nil <| .loop_next (m' := 24 - (j + 1)) (by omega) (F' := [(0, _), (1, _), (5, _), (6, _), (7, _), (8, _)]) (cs6 rfl rfl rfl rfl rfl rfl) ?_
   exact ⟨j + 1, rfl, by omega, rfl, rfl, rfl, rfl⟩
  obtain rfl : j = 24 := by omega
  refine x_exit <| .then_exit <| .loop_exit <| .block_exit <| .then_normal <| .s4 0 5 6 7 rfl rfl rfl rfl <| zr2 <| as0 rfl rfl <| zq <| x_block ?_
  refine x_loop (I := fun m' F D M7 L7 => ∃ (j : Nat), m' = 16 - j ∧ j ≤ 16 ∧ D = [] ∧ M6 = M7 ∧ (b, .cells (List.toArray (seedC (some ⟨bn, 0, none⟩) 16 16 (some ⟨bs, 0, none⟩) 24 24)) 33 (0, 0)) :: byL bn (List.replicate j w ++ List.replicate (16 - j) 0) :: byL bs (List.replicate 24 u ++ List.replicate (24 - 24) 0) :: (b1, .cells #[.slice none 0 0, .slice none 0 0] 33 (0, 0)) :: L = L7 ∧ F = [(0, .int .u8 (s.toNat : Int)), (5, .pointer (some ⟨b1, 0, none⟩)), (6, .slice A n c), (7, .pointer (some ⟨b, 0, none⟩)), (9, .int .i64 j)]) (16) (F0 := [(0, _), (5, _), (6, _), (7, _), (9, _)]) ?_ (cs5 rfl rfl rfl rfl rfl) ?_
  ·
   exact ⟨0, rfl, by omega, rfl, rfl, rfl, rfl⟩
  rintro m _ _ _ _ ⟨j, rfl, hj, rfl, rfl, rfl, rfl⟩
  refine zr2 <| mvI rfl rfl <| tl_y rfl (y_lss rfl rfl) <| zq <| x_cond rfl (fun hc2 => ?_) (fun hc2 => ?_)
  ·
   have hj16 : j < 16 := by omega
   have hlen : (List.replicate j w ++ List.replicate (16 - j) (0 : UInt8)).length = 16 := by simp; omega
   refine x_skip <| .then_normal <| x_seq <| x_block <| x_region <| tFa rfl rfl <| tLd rfl rfl rfl <| mvI rfl rfl <| mvI rfl rfl <| tl_y rfl (y_remI rfl rfl (by omega)) <| tl_y rfl (y_addN8 rfl rfl (by omega)) ?_
   rw [← hw2]
   refine tl_y rfl (y_indexAddr rfl rfl (by omega)) <| tl_e rfl <| e_storeAt (c := (List.replicate j w ++ List.replicate (16 - j) (0 : UInt8)).map bv) rfl rfl rfl ii (by rw [List.length_map, hlen]; omega) ii ?_
   rw [show 0 + ((j : Nat) : Int).toNat * 1 = j by omega, show Value.int .u8 (w.toNat : Int) = bv w from rfl, hbvs, rep_set 16 j w hj16]
   refine tl_nil <| .block_normal <| .then_normal <| .s5 0 5 6 7 9 rfl rfl rfl rfl rfl <| x_region <| mvI rfl rfl <| tl_y rfl (y_addI rfl rfl (by omega)) <| asI rfl rfl <| tl_nil <| .loop_next (m' := 16 - (j + 1)) (by omega) (F' := [(0, _), (5, _), (6, _), (7, _), (9, _)]) (cs5 rfl rfl rfl rfl rfl) ?_
   exact ⟨j + 1, rfl, by omega, rfl, rfl, rfl, rfl⟩
  obtain rfl : j = 16 := by omega
  refine .pub bn ii <| fun M8 hM8 hb8 => .pub bs ii <| fun M9 hM9 hb9 => ?_
  have hd9 := hd.trans (hM8.trans hM9)
  have y1 : Bytes M9 (some ⟨bn, 0, none⟩) 16 16 (sortN s.toNat) := by
   have := (Row.whole (s := 1) (m := 16) hb8 (by simp) (by omega)).mono hM9
   rw [Nat.sub_self, List.replicate_zero, List.append_nil] at this
   rw [sortN, hw]; exact this
  have y2 : Bytes M9 (some ⟨bs, 0, none⟩) 24 24 (sortS x.toNat) := by
   have := (Row.whole (s := 1) (m := 24) hb9 (by simp) (by omega))
   rw [Nat.sub_self, List.replicate_zero, List.append_nil] at this
   rw [sortS, hu]; exact this
  refine x_exit <| .then_exit <| .loop_exit <| .block_exit <| .then_normal <| .s3 5 6 7 rfl rfl rfl <| x_seq <| x_draw0 3 ((b, .cells (List.toArray (seedC (some ⟨bn, 0, none⟩) 16 16 (some ⟨bs, 0, none⟩) 24 24)) 33 (0, 0)) :: []) Keeps.mem hmix rfl <| zp 0 rfl rfl (y_move (v := .slice _ _ _) rfl) <| zy 1 rfl rfl (y_lg rfl rfl) <| zp 2 rfl rfl (y_assign (v := .slice _ _ _) rfl) <| zt 3 rfl rfl <| e_st rfl rfl (by rfl) (by rfl) ?_
  refine zz <| .then_normal <| .s2 4 5 rfl rfl <| x_ret (retRV (L' := L) (rv2 rfl (rc_tmp rfl) (rc_cellAgg (by rfl) rfl (.own ii ii))) ii hd9 ⟨rfl, A, n, c, ⟨some ⟨bn, 0, none⟩, 16, 16⟩, ⟨some ⟨bs, 0, none⟩, 24, 24⟩, rfl, hrow.mono (hM8.trans hM9), y1, y2⟩)
 have he : Le M6 M6 := Le.refl _
 refine x_draw0 4 ([]) Keeps.mem hmix rfl <| to_three 0 1 3 (by kernel_rfl) ?_ ?_ ?_
 ·
  refine two_e 0 rfl rfl <| e_make1 rfl rfl (by omega) (by omega) (by omega) (by omega) <| fun bn => ⟨⟨(by first | exact Le.refl _ | assumption), Keeps.mem⟩, ?_⟩
  refine to_two 1 3 (by kernel_rfl) ?_ ?_
  ·
   refine two_e 1 rfl rfl <| e_make1 rfl rfl (by omega) (by omega) (by omega) (by omega) <| fun bs => ⟨⟨(by first | exact Le.refl _ | assumption), Keeps.mem⟩, ?_⟩
   refine zp 2 rfl rfl (y_build rfl) <| ze 3 rfl rfl <| e_alloc <| fun b7 => ⟨⟨(by first | exact Le.refl _ | assumption), Keeps.mem⟩, ?_⟩
   refine zt 4 rfl rfl <| e_st rfl rfl (by rfl) (by rfl) <| zz <| .then_normal <| .sub (F' := [(0, _), (1, _), (5, _), (6, _), (7, _)]) (cs5 rfl rfl rfl rfl rfl) <| Jd2 _ _ _ _ ?_
   exact ⟨_, bn, bs, rfl, rfl, rfl, ii⟩
  refine two_e 3 rfl rfl <| e_alloc <| fun b8 => ⟨⟨(by first | exact Le.refl _ | assumption), Keeps.mem⟩, ?_⟩
  refine ze 1 rfl rfl <| e_make1 rfl rfl (by omega) (by omega) (by omega) (by omega) <| fun bs => ⟨⟨(by first | exact Le.refl _ | assumption), Keeps.mem⟩, ?_⟩
  refine zp 2 rfl rfl (y_build rfl) <| zt 4 rfl rfl <| e_st rfl rfl (by rfl) (by rfl) <| zz <| .then_normal <| .sub (F' := [(0, _), (1, _), (5, _), (6, _), (7, _)]) (cs5 rfl rfl rfl rfl rfl) <| Jd2 _ _ _ _ ?_
  exact ⟨_, bn, bs, rfl, rfl, rfl, ii⟩
 ·
  refine two_e 1 rfl rfl <| e_make1 rfl rfl (by omega) (by omega) (by omega) (by omega) <| fun bs => ⟨⟨(by first | exact Le.refl _ | assumption), Keeps.mem⟩, ?_⟩
  refine to_two 0 3 (by kernel_rfl) ?_ ?_
  ·
   refine two_e 0 rfl rfl <| e_make1 rfl rfl (by omega) (by omega) (by omega) (by omega) <| fun bn => ⟨⟨(by first | exact Le.refl _ | assumption), Keeps.mem⟩, ?_⟩
   refine zp 2 rfl rfl (y_build rfl) <| ze 3 rfl rfl <| e_alloc <| fun b9 => ⟨⟨(by first | exact Le.refl _ | assumption), Keeps.mem⟩, ?_⟩
   refine zt 4 rfl rfl <| e_st rfl rfl (by rfl) (by rfl) <| zz <| .then_normal <| .sub (F' := [(0, _), (1, _), (5, _), (6, _), (7, _)]) (cs5 rfl rfl rfl rfl rfl) <| Jd2 _ _ _ _ ?_
   exact ⟨_, bn, bs, rfl, rfl, rfl, ii⟩
  refine two_e 3 rfl rfl <| e_alloc <| fun b10 => ⟨⟨(by first | exact Le.refl _ | assumption), Keeps.mem⟩, ?_⟩
  refine ze 0 rfl rfl <| e_make1 rfl rfl (by omega) (by omega) (by omega) (by omega) <| fun bn => ⟨⟨(by first | exact Le.refl _ | assumption), Keeps.mem⟩, ?_⟩
  refine zp 2 rfl rfl (y_build rfl) <| zt 4 rfl rfl <| e_st rfl rfl (by rfl) (by rfl) <| zz <| .then_normal <| .sub (F' := [(0, _), (1, _), (5, _), (6, _), (7, _)]) (cs5 rfl rfl rfl rfl rfl) <| Jd2 _ _ _ _ ?_
  exact ⟨_, bn, bs, rfl, rfl, rfl, ii⟩
 refine two_e 3 rfl rfl <| e_alloc <| fun b11 => ⟨⟨(by first | exact Le.refl _ | assumption), Keeps.mem⟩, ?_⟩
 refine to_two 0 1 (by kernel_rfl) ?_ ?_
 ·
  refine two_e 0 rfl rfl <| e_make1 rfl rfl (by omega) (by omega) (by omega) (by omega) <| fun bn => ⟨⟨(by first | exact Le.refl _ | assumption), Keeps.mem⟩, ?_⟩
  refine ze 1 rfl rfl <| e_make1 rfl rfl (by omega) (by omega) (by omega) (by omega) <| fun bs => ⟨⟨(by first | exact Le.refl _ | assumption), Keeps.mem⟩, ?_⟩
  refine zp 2 rfl rfl (y_build rfl) <| zt 4 rfl rfl <| e_st rfl rfl (by rfl) (by rfl) <| zz <| .then_normal <| .sub (F' := [(0, _), (1, _), (5, _), (6, _), (7, _)]) (cs5 rfl rfl rfl rfl rfl) <| Jd2 _ _ _ _ ?_
  exact ⟨_, bn, bs, rfl, rfl, rfl, ii⟩
 refine two_e 1 rfl rfl <| e_make1 rfl rfl (by omega) (by omega) (by omega) (by omega) <| fun bs => ⟨⟨(by first | exact Le.refl _ | assumption), Keeps.mem⟩, ?_⟩
 refine ze 0 rfl rfl <| e_make1 rfl rfl (by omega) (by omega) (by omega) (by omega) <| fun bn => ⟨⟨(by first | exact Le.refl _ | assumption), Keeps.mem⟩, ?_⟩
 refine zp 2 rfl rfl (y_build rfl) <| zt 4 rfl rfl <| e_st rfl rfl (by rfl) (by rfl) <| zz <| .then_normal <| .sub (F' := [(0, _), (1, _), (5, _), (6, _), (7, _)]) (cs5 rfl rfl rfl rfl rfl) <| Jd2 _ _ _ _ ?_
 exact ⟨_, bn, bs, rfl, rfl, rfl, ii⟩
end
theorem can0 : canE (sortL 0) 16 24 = 0 := by kernel_rfl
theorem can1 : canE (sortL 1) 16 24 = 0 := by kernel_rfl
theorem can2 : canE (sortL 2) 16 24 = 0 := by kernel_rfl
theorem tot0 : totN (sortL 0) = 2 := by kernel_rfl
theorem tot1 : totN (sortL 1) = 4 := by kernel_rfl
theorem tot2 : totN (sortL 2) = 4 := by kernel_rfl
def tlR (f : Nat → List UInt8) : Nat → Nat → List UInt8
 | 0, _ => []
 | m + 1, i => f i ++ tlR f m (i + 1)
theorem catR_tl (f : Nat → List UInt8) : ∀ m i, catR f (i + m) = catR f i ++ tlR f m i
 | 0, i => by rw [tlR, List.append_nil, Nat.add_zero]
 | m + 1, i => by rw [tlR, ← List.append_assoc, ← catR_succ, ← catR_tl f m (i + 1)]; congr 1; omega
def pfR (l : List PairV) (at_ : List Nat) (name sec text : List UInt8) : Nat → Nat → List PartB
 | 0, _ => []
 | m + 1, i => ⟨pubR l at_ name sec i, sgR l at_ name sec text i, if i + 1 < l.length then pubR l at_ name sec (i + 1) else []⟩ :: pfR l at_ name sec text m (i + 1)
theorem pairC_app {a b : List UInt8} (h : 8 ≤ a.length) : pairC (a ++ b) = pairC a := by
 rw [pairC, pairC, List.drop_append_of_le_length (by omega), List.take_append_of_le_length (by rw [List.length_drop]; omega), List.take_append_of_le_length (by omega)]
section
variable {l : List PairV} {nl sl : Nat} {at_ : List Nat} {name sec text : List UInt8} {x : Nat}
theorem pubR_facts (hok : okL l) (hc : canB l nl sl) (hn : name.length = nl) (hs : sec.length = sl) {i : Nat} (hi : i < l.length) :
  ∃ n w p H, PF (l.getD i p0) n w p H ∧ (seedR l at_ name sec i).1.length = 16 ∧ (pubR l at_ name sec i).length = 24 + n ∧ pairC (pubR l at_ name sec i) = l.getD i p0 ∧ pubN (l.getD i p0) = 24 + n ∧ 24 ≤ n ∧ n ≤ 32 := by
 obtain ⟨h1, h2, h3, h4⟩ := okL_get hok hi
 obtain ⟨n, w, p, H, hx⟩ := okP_facts h1
 have h16 := (seedR_ok hok hc at_ hn hs i (by omega)).1
 obtain ⟨k1, k2, _, _, _⟩ := pub_parts hx h16 (seedR l at_ name sec i).2
 obtain ⟨z1, _, _, _, _⟩ := hx.sizes
 have hn32 := hx.o.n32
 exact ⟨n, w, p, H, hx, h16, k1, k2, z1, by omega, by omega⟩
theorem key_app (hok : okL l) (hc : canB l nl sl) (hn : name.length = nl) (hs : sec.length = sl) {i : Nat} (hi : i < l.length) (b : List UInt8) :
  keyE (pubR l at_ name sec i ++ b) = 0 ∧ keyT (pubR l at_ name sec i ++ b) = pubR l at_ name sec i ∧ keyD (pubR l at_ name sec i ++ b) = b := by
 obtain ⟨n, w, p, H, hx, h16, k1, k2, k3, k4, k5⟩ := pubR_facts (at_ := at_) hok hc hn hs hi
 have e : pairC (pubR l at_ name sec i ++ b) = l.getD i p0 := by rw [pairC_app (by omega), k2]
 refine ⟨?_, ?_, ?_⟩
 ·
  rw [keyE, if_neg (by rw [List.length_append]; omega), e, if_neg (fun h => h hx.ok), if_neg (by rw [List.length_append]; omega)]
 ·
  rw [keyT, e, k3]; exact take_at k1
 rw [keyD, e, k3]; exact drop_at k1
theorem parse_hss (hok : okL l) (hc : canB l nl sl) (hn : name.length = nl) (hs : sec.length = sl) (hat : at_ = atsN (l.map tv) x) : ∀ m i, i + m + 1 = l.length →
  parse m (pubR l at_ name sec i) (tlR (levR l at_ name sec text) (m + 1) i) = (0, pfR l at_ name sec text (m + 1) i)
 | 0, i, hi => by
  obtain ⟨n, w, p, H, hx, h16, k1, k2, k3, k4, k5⟩ := pubR_facts (at_ := at_) (name := name) (sec := sec) hok hc hn hs (i := i) (by omega)
  obtain ⟨z1, _, _, _⟩ := lv_len hok hc at_ text hn hs (i := i) (by omega) hat
  have e : tlR (levR l at_ name sec text) 1 i = sgR l at_ name sec text i := by rw [tlR, tlR, List.append_nil, levR, if_neg (by omega), List.append_nil]
  rw [e, parse, k2, if_neg (by omega), if_neg (by omega), pfR, pfR, if_neg (by omega), sgT, k2, List.take_of_length_le (by omega)]
 | m + 1, i, hi => by
  obtain ⟨n, w, p, H, hx, h16, k1, k2, k3, k4, k5⟩ := pubR_facts (at_ := at_) (name := name) (sec := sec) hok hc hn hs (i := i) (by omega)
  obtain ⟨z1, _, _, _⟩ := lv_len hok hc at_ text hn hs (i := i) (by omega) hat
  have e : tlR (levR l at_ name sec text) (m + 1 + 1) i = sgR l at_ name sec text i ++ (pubR l at_ name sec (i + 1) ++ tlR (levR l at_ name sec text) (m + 1) (i + 1)) := by
   rw [tlR, levR, if_pos (by omega), List.append_assoc]
  obtain ⟨q1, q2, q3⟩ := key_app (at_ := at_) (name := name) (sec := sec) hok hc hn hs (i := i + 1) (by omega) (tlR (levR l at_ name sec text) (m + 1) (i + 1))
  have ih := parse_hss hok hc hn hs hat m (i + 1) (by omega)
  have eT : sgT (pubR l at_ name sec i) (tlR (levR l at_ name sec text) (m + 1 + 1) i) = sgR l at_ name sec text i := by rw [sgT, k2, e]; exact take_at z1
  have eD : sgD (pubR l at_ name sec i) (tlR (levR l at_ name sec text) (m + 1 + 1) i) = pubR l at_ name sec (i + 1) ++ tlR (levR l at_ name sec text) (m + 1) (i + 1) := by rw [sgD, k2, e]; exact drop_at z1
  have e3 : pfR l at_ name sec text (m + 1 + 1) i = ⟨pubR l at_ name sec i, sgR l at_ name sec text i, pubR l at_ name sec (i + 1)⟩ :: pfR l at_ name sec text (m + 1) (i + 1) := by rw [pfR, if_pos (by omega)]
  rw [e3, parse, eT, eD, k2, if_neg (by rw [e, List.length_append]; omega), if_neg (fun h => h q1), q2, q3, ih, if_neg (fun h => h rfl)]
theorem pfR_fits (hok : okL l) (hc : canB l nl sl) (hn : name.length = nl) (hs : sec.length = sl) (hat : at_ = atsN (l.map tv) x) (htl : text.length ≤ 65536) : ∀ m i, i + m = l.length → ∀ p ∈ pfR l at_ name sec text m i, partF text p
 | 0, i, _, p, hp => by cases hp
 | m + 1, i, hi, p, hp => by
  rcases List.mem_cons.1 hp with rfl | hp
  ·
   obtain ⟨n, w, p', H, hx, h16, k1, k2, k3, k4, k5⟩ := pubR_facts (at_ := at_) (name := name) (sec := sec) hok hc hn hs (i := i) (by omega)
   obtain ⟨z1, _, z3, _⟩ := lv_len hok hc at_ text hn hs (i := i) (by omega) hat
   rw [hx.lv] at z3
   have hf : ∀ t : List UInt8, t.length ≤ 65536 → fitK (pubR l at_ name sec i) t.length t (lsigB (l.getD i p0) (seedR l at_ name sec i).1 (seedR l at_ name sec i).2 (at_.getD i 0) t) := fun t ht => lms_fits hx h16 _ t z3 ht
   rw [partF]
   by_cases h1 : i + 1 < l.length
   ·
    obtain ⟨n2, _, _, _, _, _, r1, _, _, r4, r5⟩ := pubR_facts (at_ := at_) (name := name) (sec := sec) hok hc hn hs (i := i + 1) h1
    have hne : pubR l at_ name sec (i + 1) ≠ [] := fun h => by have := congrArg List.length h; rw [r1] at this; simp at this
    have := hf (pubR l at_ name sec (i + 1)) (by omega)
    simp only [if_pos h1, if_neg hne]
    rw [sgR, nextR, if_pos h1]
    exact this
   simp only [if_neg h1, if_pos]
   rw [sgR, nextR, if_neg h1]
   exact hf text htl
  exact pfR_fits hok hc hn hs hat htl m (i + 1) (by omega) p hp
theorem hss_read (h0 : canE l nl sl = 0) (hn : name.length = nl) (hs : sec.length = sl) (hat : at_ = atsN (l.map tv) x) :
  readP (hpubB l name sec) (hsigB l at_ name sec text) = (0, pfR l at_ name sec text l.length 0) := by
 obtain ⟨hok, hc⟩ := canE_zero h0
 have h1 := hok.1
 obtain ⟨n, w, p', H, hx, h16, k1, k2, k3, k4, k5⟩ := pubR_facts (at_ := at_) (name := name) (sec := sec) hok hc hn hs (i := 0) (by omega)
 have e0 : pubB (l.getD 0 p0) name sec = pubR l at_ name sec 0 := rfl
 have p1 : (putB l.length 4).length = 4 := putB_length 4 _
 have p2 : (putB (l.length - 1) 4).length = 4 := putB_length 4 _
 have d1 : (hpubB l name sec).drop 4 = pubR l at_ name sec 0 := drop_at p1
 have d2 : (hpubB l name sec).take 4 = putB l.length 4 := take_at p1
 have d3 : (hsigB l at_ name sec text).drop 4 = tlR (levR l at_ name sec text) l.length 0 := by
  have := catR_tl (levR l at_ name sec text) l.length 0
  rw [Nat.zero_add, catR_zero, List.nil_append] at this
  rw [← this]; exact drop_at p2
 have d4 : (hsigB l at_ name sec text).take 4 = putB (l.length - 1) 4 := take_at p2
 obtain ⟨q1, q2, q3⟩ := key_app (at_ := at_) (name := name) (sec := sec) hok hc hn hs (i := 0) (by omega) []
 rw [List.append_nil] at q1
 have g1 : getB (putB l.length 4) = l.length := by rw [getB_put, Nat.mod_eq_of_lt (by omega)]
 have g2 : getB (putB (l.length - 1) 4) = l.length - 1 := by rw [getB_put, Nat.mod_eq_of_lt (by omega)]
 obtain ⟨m, hm⟩ : ∃ m, l.length = m + 1 := ⟨l.length - 1, by omega⟩
 rw [readP_eq (by rw [hpubB, List.length_append]; omega) (by rw [d1]; exact q1) (by rw [d1, k2, k1, k3]) (by rw [d2, g1]; exact h1) (by rw [hsigB, List.length_append]; omega) (by rw [d2, d4, g1, g2]), d2, g1, d1, d3, hm]
 exact parse_hss hok hc hn hs hat m 0 (by omega)
theorem hss_fits (h0 : canE l nl sl = 0) (hn : name.length = nl) (hs : sec.length = sl) (hat : at_ = atsN (l.map tv) x) (htl : text.length ≤ 65536) : hfit (hpubB l name sec) text (hsigB l at_ name sec text) := by
 obtain ⟨hok, hc⟩ := canE_zero h0
 rw [hfit, hss_read h0 hn hs hat]
 exact ⟨rfl, pfR_fits hok hc hn hs hat htl _ 0 (by omega)⟩
end
end Go.Proofs.YtplkoemjffplcaaGreatDoor
