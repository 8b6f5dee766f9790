/-
Contracts of functions, each proved by a walk through its code.
-/
import Derived.Test.YtiimjodbaogjbaaGreatDoorLms4Etc
import Derived.Test.YtiimjodbaogjbaaGreatDoorMerkle5Etc
import Derived.Test.YtiimjodbaogjbaaGreatDoorOnce4Etc
import Derived.Test.YtiimjodbaogjbaaGreatDoorDig2Etc
import Derived.Test.YtiimjodbaogjbaaGreatDoorChain3Etc
import Derived.Test.YtiimjodbaogjbaaGreatDoorBaseEtc
import Derived.Test.YtiimjodbaogjbaaGreatDoorEngIEtc
import Derived.Test.YtiimjodbaogjbaaGreatDoorShakeEtc
import Derived.Test.YtiimjodbaogjbaaGreatDoorEngWEtc
import Derived.Test.YtiimjodbaogjbaaGreatDoorLms1Etc
set_option linter.unusedVariables false
set_option linter.unusedSimpArgs false
set_option linter.constructorNameAsVariable false
namespace Go.Proofs.YtiimjodbaogjbaaGreatDoor
open Go Go.Eng
section
variable {G : World} {M : Mem} {L : Own} {PA TA A : Option Addr} {pl pc tl tc m c : Nat} {pub text sig : List UInt8}
theorem Fits1_lspec (hg : LmG M) (hpub : Bytes M PA pl pc pub) (htext : Bytes M TA tl tc text) (hsig : Bytes M A m c sig) (hpb : pl ≤ 1000000000000) (hmb : m ≤ 1000000000000) {bp bt bs : Nat}
    [i1 : Has L bp (.cells (List.toArray [.slice PA pl pc]) 35 (0, 0))] [i2 : Has L bt (.cells (List.toArray [.slice TA tl tc]) 35 (0, 0))] [i3 : Has L bs (.cells (List.toArray [.slice A m c]) 35 (0, 0))] :
    Con Tryz.prog 99 #[.pointer (some ⟨bp, 0, none⟩), .pointer (some ⟨bt, 0, none⟩), .pointer (some ⟨bs, 0, none⟩)] G M L (fun v M' L' => L' = L ∧ ∃ A' m' c', v = .slice A' m' c' ∧ (pairE pub = 0 ∧ fitL (pairC pub) tl (nameP pub) text sig) ∧ Bytes M' A' m' c' (fitR (pairC pub) tl (nameP pub) text sig)) (fun ch M' L' => L' = L ∧ ∃ e, (¬ (pairE pub = 0 ∧ fitL (pairC pub) tl (nameP pub) text sig) ∧ e ≠ 0) ∧ ch = lwrong e) := by
  have hps := hpub.size
  have hpc := hpub.le
  refine enter (args := [_, _, _]) (fn := Tryz.f99) ⟨Tryz.func99, rfl, by kernel_rfl, by kernel_rfl⟩ 23 rfl ?_
  refine x_seq (x_region ?_)
  refine tl_y rfl (y_assign rfl) ?_
  refine tl_nil (.then_normal ?_)
  refine x_seq (x_region ?_)
  refine tl_y rfl (y_load rfl rfl (.own inferInstance inferInstance)) ?_
  refine tl_e rfl (e_call' rfl (Pair_spec hg hpub hpb) ?_)
  rintro _ M1 L hM1 ⟨rfl, rfl⟩
  have hd : Le M M1 := hM1
  refine tl_y rfl (y_move (v := .tuple _) rfl) ?_
  refine tl_y rfl (y_extract rfl) ?_
  refine tl_y rfl (y_extract rfl) ?_
  refine tl_e rfl (e_alloc (fun b1 => ?_))
  refine tl_e rfl (e_store rfl rfl (by rfl) (by rfl) inferInstance inferInstance inferInstance ?_)
  refine tl_y rfl (y_assign (v := .int _ _) rfl) ?_
  refine tl_nil (.then_normal ?_)
  refine .sub (F' := [(0, _), (1, _), (2, _), (4, _), (5, _)]) (.cons rfl (.cons rfl (.cons rfl (.cons rfl (.cons rfl .nil))))) ?_
  refine x_seq (x_region ?_)
  refine tl_y rfl (y_move (v := .int _ _) rfl) ?_
  refine tl_y rfl (y_eql rfl rfl) ?_
  refine tl_y rfl (y_move (v := .int _ _) rfl) ?_
  refine tl_e rfl (e_call rfl (lmust_spec _ _) (by
    rintro _ _ _ _ ⟨rfl, rfl, ht, rfl⟩
    exact TP.dropTo L inferInstance (.retA rfl hd ⟨rfl, _, ⟨fun h => by have := h.1; simp [this] at ht, by simpa using ht⟩, rfl⟩)) ?_)
  rintro _ _ _ _ ⟨rfl, rfl, ht⟩
  have h0 : pairE pub = 0 := by simpa using ht
  obtain ⟨h8, hok, hlen⟩ := pairE_zero h0
  have hx0 : pairX pub = pairC pub := by rw [pairX, if_pos h0]
  rw [hx0]
  obtain ⟨n, w, p, H, hx⟩ := okP_facts hok
  obtain ⟨z1, z2, z3, z4, z5⟩ := hx.sizes
  have hn32 := hx.o.n32
  have hnm : Bytes M1 (sl PA 8 pc 1) 16 (pc - 8) (nameP pub) := Bytes.sub (hpub.mono hd) 8 24 (by omega) (by omega)
  refine tl_nil (.then_normal ?_)
  refine .sub (F' := [(0, _), (1, _), (2, _), (4, _)]) (.cons rfl (.cons rfl (.cons rfl (.cons rfl .nil)))) ?_
  refine x_seq ?_
  have he : Le M1 M1 := Le.refl _
  refine x_draw 9 hmix rfl ?_
  refine to_y 0 rfl (by kernel_rfl) rfl (y_loadAgg rfl rfl (.own inferInstance inferInstance)) ?_
  refine to_y 2 rfl (by kernel_rfl) rfl (y_loadAgg rfl rfl (.own inferInstance inferInstance)) ?_
  refine to_y 3 rfl (by kernel_rfl) rfl (y_load rfl rfl (.own inferInstance inferInstance)) ?_
  refine to_p 4 rfl (by kernel_rfl) rfl (y_sliceLH rfl rfl rfl (by omega) (by omega)) ?_
  refine to_y 5 rfl (by kernel_rfl) rfl (y_load rfl rfl (.own inferInstance inferInstance)) ?_
  refine to_y 6 rfl (by kernel_rfl) rfl (y_load rfl rfl (.own inferInstance inferInstance)) ?_
  refine to_e 1 rfl (by kernel_rfl) rfl (e_call rfl (of_spec (hg.mono hd).hs (pairC pub)) (by
    rintro _ M2 _ hM2 ⟨rfl, hno, rfl⟩
    exact absurd hok hno) ?_)
  rintro _ M2 _ hM2 ⟨rfl, _, rfl⟩
  replace hd := hd.trans hM2
  replace he := he.trans hM2
  refine ⟨⟨(by first | exact Le.refl _ | assumption), Keeps.mem⟩, ?_⟩
  refine to_e 7 rfl (by kernel_rfl) rfl (e_call rfl (leads_spec (hg.mono hd) hx (hnm.mono hM2) (htext.mono hd) (hsig.mono hd) hmb) (by
    rintro _ M3 _ hM3 ⟨rfl, e, ⟨hno, hne⟩, rfl⟩
    exact TP.dropTo L inferInstance (.retA rfl (hd.trans hM3) ⟨rfl, e, ⟨fun h => hno h.2, hne⟩, rfl⟩)) ?_)
  rintro _ M3 _ hM3 ⟨rfl, A3, m3, c3, rfl, hfit, hA3⟩
  replace hd := hd.trans hM3
  replace he := he.trans hM3
  refine ⟨⟨(by first | exact Le.refl _ | assumption), Keeps.mem⟩, ?_⟩
  refine to_p 8 rfl (by kernel_rfl) rfl (y_assign (v := .slice _ _ _) rfl) ?_
  refine to_nil (by kernel_rfl) (.then_normal ?_)
  refine .sub (F' := [(3, _)]) (.cons rfl .nil) ?_
  refine x_ret (.dropTo L inferInstance (ret1 rfl rfl hd ⟨rfl, _, _, _, rfl, ⟨h0, hfit⟩, hA3⟩))
theorem Fits_lspec (hg : LmG M) (hpub : Bytes M PA pl pc pub) (htext : Bytes M TA tl tc text) (hsig : Bytes M A m c sig) (hpb : pl ≤ 1000000000000) (hmb : m ≤ 1000000000000) :
    Con Tryz.prog 41 #[.slice PA pl pc, .slice TA tl tc, .slice A m c] G M L (fun v M' L' => L' = L ∧ v = .bool (decide (fitK pub tl text sig))) noPanic := by
  have hps := hpub.size
  have hpc := hpub.le
  refine enter (args := [_, _, _]) (fn := Tryz.f41) ⟨Tryz.func41, rfl, by kernel_rfl, by kernel_rfl⟩ 22 rfl ?_
  refine x_seq (x_region ?_)
  refine tl_e rfl (e_box rfl (fun b1 => ?_))
  refine tl_e rfl (e_box rfl (fun b2 => ?_))
  refine tl_e rfl (e_box rfl (fun b3 => ?_))
  refine tl_y rfl (y_assign rfl) ?_
  refine tl_nil (.then_normal ?_)
  refine .sub (F' := [(3, _), (4, _), (5, _)]) (.cons rfl (.cons rfl (.cons rfl .nil))) ?_
  refine x_seq (x_region ?_)
  refine tl_y rfl (y_makeFunc rfl rfl) ?_
  refine tl_e rfl (e_call' rfl (caughtB_spec (K := fun A' m' c' M' => (pairE pub = 0 ∧ fitL (pairC pub) tl (nameP pub) text sig) ∧ Bytes M' A' m' c' (fitR (pairC pub) tl (nameP pub) text sig)) (Kp := fun e => ¬ (pairE pub = 0 ∧ fitL (pairC pub) tl (nameP pub) text sig) ∧ e ≠ 0) (first := []) (cap := [.pointer (some ⟨b1, 0, none⟩), .pointer (some ⟨b2, 0, none⟩), .pointer (some ⟨b3, 0, none⟩)]) (fun p' q' => Fits1_lspec hg hpub htext hsig hpb hmb)) ?_)
  rintro v M1 _ hM1 ⟨rfl, hv⟩
  obtain ⟨A2, m2, c2, e, rfl, he, hA⟩ : ∃ A' m' c' e, v = .tuple #[.slice A' m' c', .int .i64 e] ∧ (e = 0 ↔ (pairE pub = 0 ∧ fitL (pairC pub) tl (nameP pub) text sig)) ∧ (e = 0 → Bytes M1 A' m' c' (fitR (pairC pub) tl (nameP pub) text sig)) := by
    rcases hv with ⟨A, m, c, rfl, h0, hb⟩ | ⟨e, rfl, hno, hne⟩
    · exact ⟨A, m, c, 0, rfl, iff_of_true rfl h0, fun _ => hb⟩
    · exact ⟨none, 0, 0, e, rfl, iff_of_false hne hno, fun h => absurd h hne⟩
  refine tl_y rfl (y_move (v := .tuple _) rfl) ?_
  refine tl_y rfl (y_extract rfl) ?_
  refine tl_y rfl (y_extract rfl) ?_
  refine tl_y rfl (y_assign (v := .slice _ _ _) rfl) ?_
  refine tl_y rfl (y_assign (v := .int _ _) rfl) ?_
  refine tl_nil (.then_normal ?_)
  refine .sub (F' := [(3, _), (7, _), (8, _)]) (.cons rfl (.cons rfl (.cons rfl .nil))) ?_
  refine x_seq (x_region ?_)
  refine tl_y rfl (y_move (v := .int _ _) rfl) ?_
  refine tl_y rfl (y_eql rfl rfl) ?_
  refine tl_y rfl (y_move (v := .bool _) rfl) ?_
  refine tl_cases (s := 16) rfl (fun hk1 => ?_) (fun hk1 => ?_)
  ·
    refine tl_y rfl (y_move (v := .slice _ _ _) rfl) ?_
    refine tl_y rfl (y_load rfl rfl (.own inferInstance inferInstance)) ?_
    obtain ⟨h8, hok, hlen⟩ := pairE_zero (he.1 hk1).1
    obtain ⟨n, w, p, H, hx⟩ := okP_facts hok
    obtain ⟨z1, z2, z3, z4, z5⟩ := hx.sizes
    have hdr := Bytes.drop (hpub.mono hM1) 24 (by omega)
    refine tl_y rfl (y_sliceL rfl rfl (by omega)) ?_
    refine tl_e rfl (e_call' rfl (Same_spec (hA hk1) hdr) ?_)
    rintro _ _ _ _ ⟨rfl, rfl, rfl⟩
    refine tl_y rfl (y_pickT rfl rfl) ?_
    refine tl_y rfl (y_assign (v := .bool _) rfl) ?_
    refine tl_nil (.then_normal ?_)
    refine .sub (F' := [(6, _)]) (.cons rfl .nil) ?_
    refine x_ret (.dropTo L inferInstance (ret1 rfl rfl hM1 ⟨rfl, by
      congr 1
      rw [decide_eq_decide]
      exact ⟨fun h => ⟨(he.1 hk1).1, (he.1 hk1).2, h⟩, fun h => h.2.2⟩⟩))
  ·
    refine tl_skip rfl ?_
    refine tl_skip rfl ?_
    refine tl_skip rfl ?_
    refine tl_skip rfl ?_
    refine tl_y rfl (y_pickF rfl rfl) ?_
    refine tl_y rfl (y_assign (v := .bool _) rfl) ?_
    refine tl_nil (.then_normal ?_)
    refine .sub (F' := [(6, _)]) (.cons rfl .nil) ?_
    refine x_ret (.dropTo L inferInstance (ret1 rfl rfl hM1 ⟨rfl, by
      congr 1
      rw [eq_comm, decide_eq_false_iff_not]
      exact fun h => hk1 (he.2 ⟨h.1, h.2.1⟩)⟩))
end
end Go.Proofs.YtiimjodbaogjbaaGreatDoor
set_option linter.unusedVariables false
set_option linter.unusedSimpArgs false
set_option linter.constructorNameAsVariable false
namespace Go.Proofs.YtiimjodbaogjbaaGreatDoor
open Go Go.Eng
def p0 : PairV := ⟨0, 0⟩
def tv (p : PairV) : TreeV := treeV p.t
def hN (t : TreeV) : Nat := t.h.toNat
def hsum (l : List TreeV) : Nat := (l.map hN).sum
def good (l : List PairV) (p : PairV) : Prop := okP p ∧ (tv p).kind = (tv (l.getD 0 p0)).kind ∧ (tv p).n = (tv (l.getD 0 p0)).n
instance {l : List PairV} {p : PairV} : Decidable (good l p) := inferInstanceAs (Decidable (_ ∧ _))
def okL (l : List PairV) : Prop := (1 ≤ l.length ∧ l.length ≤ 8) ∧ (∀ p ∈ l, good l p) ∧ hsum (l.map tv) ≤ 60
instance {l : List PairV} : Decidable (okL l) := inferInstanceAs (Decidable (_ ∧ _))
section
variable {G : World} {M : Mem} {L : Own}
end
end Go.Proofs.YtiimjodbaogjbaaGreatDoor
set_option linter.unusedVariables false
set_option linter.unusedSimpArgs false
set_option linter.constructorNameAsVariable false
namespace Go.Proofs.YtiimjodbaogjbaaGreatDoor
open Go Go.Eng
section
variable {G : World} {M : Mem} {L : Own}
theorem RSets12_spec (p : PairV) :
    Con Tryz.prog 16 #[.agg (List.toArray p.cells)] G M L (fun v M' L' => M = M' ∧ L = L' ∧ v = .tuple #[.agg (List.toArray (otsV p.o).cells), .agg (List.toArray (treeV p.t).cells), .bool (decide (okP p))]) noPanic := by
  refine enter (args := [_]) (fn := Tryz.f16) ⟨Tryz.func16, rfl, by kernel_rfl, by kernel_rfl⟩ 43 rfl ?_
  refine x_seq (x_region ?_)
  refine tl_e rfl (e_box rfl (fun b1 => ?_))
  refine tl_e rfl (e_alloc (fun b2 => ?_))
  refine tl_e rfl (e_alloc (fun b3 => ?_))
  refine tl_y rfl (y_assign rfl) ?_
  refine tl_nil (.then_normal ?_)
  refine x_seq (x_region ?_)
  refine tl_y rfl (y_fieldAddr rfl) ?_
  refine tl_y rfl (y_load rfl rfl (.own inferInstance inferInstance)) ?_
  refine tl_e rfl (e_call' rfl (ROts_spec p.o) ?_)
  rintro _ _ _ _ ⟨rfl, rfl, rfl⟩
  refine tl_y rfl (y_move (v := .tuple _) rfl) ?_
  refine tl_y rfl (y_extract rfl) ?_
  refine tl_y rfl (y_extract rfl) ?_
  refine tl_e rfl (e_alloc (fun b4 => ?_))
  refine tl_e rfl (e_store rfl rfl (by rfl) (by rfl) inferInstance inferInstance inferInstance ?_)
  refine tl_y rfl (y_assign (v := .int _ _) rfl) ?_
  refine tl_nil (.then_normal ?_)
  refine .sub (F' := [(1, _), (2, _), (3, _), (5, _), (6, _)]) (.cons rfl (.cons rfl (.cons rfl (.cons rfl (.cons rfl .nil))))) ?_
  refine x_seq (x_region ?_)
  refine tl_y rfl (y_fieldAddr rfl) ?_
  refine tl_y rfl (y_load rfl rfl (.own inferInstance inferInstance)) ?_
  refine tl_e rfl (e_call' rfl (RTree_spec p.t) ?_)
  rintro _ _ _ _ ⟨rfl, rfl, rfl⟩
  refine tl_y rfl (y_move (v := .tuple _) rfl) ?_
  refine tl_y rfl (y_extract rfl) ?_
  refine tl_y rfl (y_extract rfl) ?_
  refine tl_e rfl (e_alloc (fun b5 => ?_))
  refine tl_e rfl (e_store rfl rfl (by rfl) (by rfl) inferInstance inferInstance inferInstance ?_)
  refine tl_y rfl (y_assign (v := .int _ _) rfl) ?_
  refine tl_nil (.then_normal ?_)
  refine .sub (F' := [(2, _), (3, _), (5, _), (6, _), (7, _), (8, _)]) (.cons rfl (.cons rfl (.cons rfl (.cons rfl (.cons rfl (.cons rfl .nil)))))) ?_
  refine x_seq ?_
  refine x_draw0 24 ([(b5, .cells (List.toArray (treeV p.t).cells) 29 (0, 0)), (b4, .cells (List.toArray (otsV p.o).cells) 27 (0, 0))]) Keeps.mem hmix rfl ?_
  refine to_y 0 rfl (by kernel_rfl) rfl (y_loadAgg rfl rfl (.own inferInstance inferInstance)) ?_
  refine to_y 1 rfl (by kernel_rfl) rfl (y_loadAgg rfl rfl (.own inferInstance inferInstance)) ?_
  refine to_p 2 rfl (by kernel_rfl) rfl (y_move (v := .int _ _) rfl) ?_
  refine to_p 3 rfl (by kernel_rfl) rfl (y_eql rfl rfl) ?_
  refine to_p 4 rfl (by kernel_rfl) rfl (y_move (v := .bool _) rfl) ?_
  refine to_cases (s := 25) rfl (fun hk1 => ?_) (fun hk1 => ?_)
  ·
    refine to_p 5 rfl (by kernel_rfl) rfl (y_move (v := .int _ _) rfl) ?_
    refine to_p 6 rfl (by kernel_rfl) rfl (y_eql rfl rfl) ?_
    refine to_p 7 rfl (by kernel_rfl) rfl (y_pickT rfl rfl) ?_
    refine to_p 8 rfl (by kernel_rfl) rfl (y_move (v := .bool _) rfl) ?_
    refine to_cases (s := 29) rfl (fun hk2 => ?_) (fun hk2 => ?_)
    ·
      refine to_p 9 rfl (by kernel_rfl) rfl (y_fieldAddr rfl) ?_
      refine to_y 10 rfl (by kernel_rfl) rfl (y_load rfl rfl (.own inferInstance inferInstance)) ?_
      refine to_p 11 rfl (by kernel_rfl) rfl (y_fieldAddr rfl) ?_
      refine to_y 12 rfl (by kernel_rfl) rfl (y_load rfl rfl (.own inferInstance inferInstance)) ?_
      refine to_p 13 rfl (by kernel_rfl) rfl (y_eql rfl rfl) ?_
      refine to_p 14 rfl (by kernel_rfl) rfl (y_pickT rfl rfl) ?_
      refine to_p 15 rfl (by kernel_rfl) rfl (y_move (v := .bool _) rfl) ?_
      refine to_cases (s := 36) rfl (fun hk3 => ?_) (fun hk3 => ?_)
      ·
        refine to_p 16 rfl (by kernel_rfl) rfl (y_fieldAddr rfl) ?_
        refine to_y 17 rfl (by kernel_rfl) rfl (y_load rfl rfl (.own inferInstance inferInstance)) ?_
        refine to_p 18 rfl (by kernel_rfl) rfl (y_fieldAddr rfl) ?_
        refine to_y 19 rfl (by kernel_rfl) rfl (y_load rfl rfl (.own inferInstance inferInstance)) ?_
        refine to_p 20 rfl (by kernel_rfl) rfl (y_eql rfl rfl) ?_
        refine to_p 21 rfl (by kernel_rfl) rfl (y_pickT rfl rfl) ?_
        refine to_e 22 rfl (by kernel_rfl) rfl (e_store rfl rfl (by rfl) (by rfl) inferInstance inferInstance inferInstance ?_)
        refine ⟨⟨(by first | exact Le.refl _ | assumption), Keeps.mem⟩, ?_⟩
        refine to_e 23 rfl (by kernel_rfl) rfl (e_store rfl rfl (by rfl) (by rfl) inferInstance inferInstance inferInstance ?_)
        refine ⟨⟨(by first | exact Le.refl _ | assumption), Keeps.mem⟩, ?_⟩
        refine to_y1 24 rfl (by kernel_rfl) rfl (y_assign (v := .bool _) rfl) ?_
        refine to_nil (by kernel_rfl) (.then_normal ?_)
        refine .sub (F' := [(2, _), (3, _), (4, _)]) (.cons rfl (.cons rfl (.cons rfl .nil))) ?_
        refine x_ret (retRV (L' := L) (rv3 rfl (rc_cellAgg (by rfl) rfl (.own inferInstance inferInstance)) (rc_cellAgg (by rfl) rfl (.own inferInstance inferInstance)) (rc_tmp (by rfl))) inferInstance (Le.refl _) ⟨rfl, rfl, by simp_all [okP]⟩)
      ·
        refine to_skip 16 rfl (by kernel_rfl) rfl ?_
        refine to_skip 17 rfl (by kernel_rfl) rfl ?_
        refine to_skip 18 rfl (by kernel_rfl) rfl ?_
        refine to_skip 19 rfl (by kernel_rfl) rfl ?_
        refine to_skip 20 rfl (by kernel_rfl) rfl ?_
        refine to_p 21 rfl (by kernel_rfl) rfl (y_pickF rfl rfl) ?_
        refine to_e 22 rfl (by kernel_rfl) rfl (e_store rfl rfl (by rfl) (by rfl) inferInstance inferInstance inferInstance ?_)
        refine ⟨⟨(by first | exact Le.refl _ | assumption), Keeps.mem⟩, ?_⟩
        refine to_e 23 rfl (by kernel_rfl) rfl (e_store rfl rfl (by rfl) (by rfl) inferInstance inferInstance inferInstance ?_)
        refine ⟨⟨(by first | exact Le.refl _ | assumption), Keeps.mem⟩, ?_⟩
        refine to_y1 24 rfl (by kernel_rfl) rfl (y_assign (v := .bool _) rfl) ?_
        refine to_nil (by kernel_rfl) (.then_normal ?_)
        refine .sub (F' := [(2, _), (3, _), (4, _)]) (.cons rfl (.cons rfl (.cons rfl .nil))) ?_
        refine x_ret (retRV (L' := L) (rv3 rfl (rc_cellAgg (by rfl) rfl (.own inferInstance inferInstance)) (rc_cellAgg (by rfl) rfl (.own inferInstance inferInstance)) (rc_tmp (by rfl))) inferInstance (Le.refl _) ⟨rfl, rfl, by simp_all [okP]⟩)
    ·
      refine to_skip 9 rfl (by kernel_rfl) rfl ?_
      refine to_skip 10 rfl (by kernel_rfl) rfl ?_
      refine to_skip 11 rfl (by kernel_rfl) rfl ?_
      refine to_skip 12 rfl (by kernel_rfl) rfl ?_
      refine to_skip 13 rfl (by kernel_rfl) rfl ?_
      refine to_p 14 rfl (by kernel_rfl) rfl (y_pickF rfl rfl) ?_
      refine to_p 15 rfl (by kernel_rfl) rfl (y_move (v := .bool _) rfl) ?_
      refine to_skip 16 rfl (by kernel_rfl) rfl ?_
      refine to_skip 17 rfl (by kernel_rfl) rfl ?_
      refine to_skip 18 rfl (by kernel_rfl) rfl ?_
      refine to_skip 19 rfl (by kernel_rfl) rfl ?_
      refine to_skip 20 rfl (by kernel_rfl) rfl ?_
      refine to_p 21 rfl (by kernel_rfl) rfl (y_pickF rfl rfl) ?_
      refine to_e 22 rfl (by kernel_rfl) rfl (e_store rfl rfl (by rfl) (by rfl) inferInstance inferInstance inferInstance ?_)
      refine ⟨⟨(by first | exact Le.refl _ | assumption), Keeps.mem⟩, ?_⟩
      refine to_e 23 rfl (by kernel_rfl) rfl (e_store rfl rfl (by rfl) (by rfl) inferInstance inferInstance inferInstance ?_)
      refine ⟨⟨(by first | exact Le.refl _ | assumption), Keeps.mem⟩, ?_⟩
      refine to_y1 24 rfl (by kernel_rfl) rfl (y_assign (v := .bool _) rfl) ?_
      refine to_nil (by kernel_rfl) (.then_normal ?_)
      refine .sub (F' := [(2, _), (3, _), (4, _)]) (.cons rfl (.cons rfl (.cons rfl .nil))) ?_
      refine x_ret (retRV (L' := L) (rv3 rfl (rc_cellAgg (by rfl) rfl (.own inferInstance inferInstance)) (rc_cellAgg (by rfl) rfl (.own inferInstance inferInstance)) (rc_tmp (by rfl))) inferInstance (Le.refl _) ⟨rfl, rfl, by simp_all [okP]⟩)
  ·
    refine to_skip 5 rfl (by kernel_rfl) rfl ?_
    refine to_skip 6 rfl (by kernel_rfl) rfl ?_
    refine to_p 7 rfl (by kernel_rfl) rfl (y_pickF rfl rfl) ?_
    refine to_p 8 rfl (by kernel_rfl) rfl (y_move (v := .bool _) rfl) ?_
    refine to_skip 9 rfl (by kernel_rfl) rfl ?_
    refine to_skip 10 rfl (by kernel_rfl) rfl ?_
    refine to_skip 11 rfl (by kernel_rfl) rfl ?_
    refine to_skip 12 rfl (by kernel_rfl) rfl ?_
    refine to_skip 13 rfl (by kernel_rfl) rfl ?_
    refine to_p 14 rfl (by kernel_rfl) rfl (y_pickF rfl rfl) ?_
    refine to_p 15 rfl (by kernel_rfl) rfl (y_move (v := .bool _) rfl) ?_
    refine to_skip 16 rfl (by kernel_rfl) rfl ?_
    refine to_skip 17 rfl (by kernel_rfl) rfl ?_
    refine to_skip 18 rfl (by kernel_rfl) rfl ?_
    refine to_skip 19 rfl (by kernel_rfl) rfl ?_
    refine to_skip 20 rfl (by kernel_rfl) rfl ?_
    refine to_p 21 rfl (by kernel_rfl) rfl (y_pickF rfl rfl) ?_
    refine to_e 22 rfl (by kernel_rfl) rfl (e_store rfl rfl (by rfl) (by rfl) inferInstance inferInstance inferInstance ?_)
    refine ⟨⟨(by first | exact Le.refl _ | assumption), Keeps.mem⟩, ?_⟩
    refine to_e 23 rfl (by kernel_rfl) rfl (e_store rfl rfl (by rfl) (by rfl) inferInstance inferInstance inferInstance ?_)
    refine ⟨⟨(by first | exact Le.refl _ | assumption), Keeps.mem⟩, ?_⟩
    refine to_y1 24 rfl (by kernel_rfl) rfl (y_assign (v := .bool _) rfl) ?_
    refine to_nil (by kernel_rfl) (.then_normal ?_)
    refine .sub (F' := [(2, _), (3, _), (4, _)]) (.cons rfl (.cons rfl (.cons rfl .nil))) ?_
    refine x_ret (retRV (L' := L) (rv3 rfl (rc_cellAgg (by rfl) rfl (.own inferInstance inferInstance)) (rc_cellAgg (by rfl) rfl (.own inferInstance inferInstance)) (rc_tmp (by rfl))) inferInstance (Le.refl _) ⟨rfl, rfl, by simp_all [okP]⟩)
end
end Go.Proofs.YtiimjodbaogjbaaGreatDoor
set_option linter.unusedVariables false
set_option linter.unusedSimpArgs false
set_option linter.constructorNameAsVariable false
namespace Go.Proofs.YtiimjodbaogjbaaGreatDoor
open Go Go.Eng
section
variable {G : World} {M : Mem} {L : Own} {NA SA : Option Addr} {nl nc sl sc : Nat} {name sec : List UInt8}
theorem RoMay_spec (o : OtsV) :
    Con Tryz.prog 43 #[.agg (List.toArray o.cells), .agg (List.toArray (seedC NA nl nc SA sl sc))] G M L (fun v M' L' => M = M' ∧ L = L' ∧ v = .bool (decide (okY o nl sl))) noPanic := by
  refine enter (args := [_, _]) (fn := Tryz.f43) ⟨Tryz.func43, rfl, by kernel_rfl, by kernel_rfl⟩ 34 rfl ?_
  refine x_seq (x_region ?_)
  refine tl_e rfl (e_box rfl (fun b1 => ?_))
  refine tl_e rfl (e_box rfl (fun b2 => ?_))
  refine tl_y rfl (y_assign rfl) ?_
  refine tl_nil (.then_normal ?_)
  refine x_seq (x_region ?_)
  refine tl_y rfl (y_fieldAddr rfl) ?_
  refine tl_y rfl (y_load rfl rfl (.own inferInstance inferInstance)) ?_
  refine tl_e rfl (e_call' rfl (ROts_spec o.code) ?_)
  rintro _ _ _ _ ⟨rfl, rfl, rfl⟩
  refine tl_y rfl (y_move (v := .tuple _) rfl) ?_
  refine tl_y rfl (y_extract rfl) ?_
  refine tl_y rfl (y_extract rfl) ?_
  refine tl_e rfl (e_alloc (fun b3 => ?_))
  refine tl_e rfl (e_store rfl rfl (by rfl) (by rfl) inferInstance inferInstance inferInstance ?_)
  refine tl_y rfl (y_assign (v := .int _ _) rfl) ?_
  refine tl_nil (.then_normal ?_)
  refine .sub (F' := [(2, _), (3, _), (5, _), (6, _)]) (.cons rfl (.cons rfl (.cons rfl (.cons rfl .nil)))) ?_
  refine x_join (I := fun F D M2 L2 => ∃ b : Bool, (b = true ↔ okY o nl sl) ∧ D = [] ∧ M = M2 ∧ DropTo L2 L ∧ F = [(4, .bool b)]) ?_ (fun Jq2 => ?_)
  ·
    rintro _ _ _ L2 ⟨b, hb, rfl, rfl, hdr, rfl⟩  -- slots [4]
    refine x_ret (.dropTo L hdr (ret1 rfl rfl (Le.refl _) ⟨rfl, rfl, by rw [bool_iff hb]⟩))
  ·
    refine x_region ?_
    refine tl_y rfl (y_move (v := .int _ _) rfl) ?_
    refine tl_y rfl (y_eql rfl rfl) ?_
    refine tl_y rfl (y_move (v := .bool _) rfl) ?_
    refine tl_cases (s := 15) rfl (fun hk1 => ?_) (fun hk1 => ?_)
    ·
      refine tl_y rfl (y_loadAgg rfl rfl (.own inferInstance inferInstance)) ?_
      refine tl_y rfl (y_loadAgg rfl rfl (.own inferInstance inferInstance)) ?_
      refine tl_y rfl (y_eqlS rfl rfl eqs27) ?_
      refine tl_y rfl (y_pickT rfl rfl) ?_
      refine tl_y rfl (y_move (v := .bool _) rfl) ?_
      refine tl_cases (s := 20) rfl (fun hk2 => ?_) (fun hk2 => ?_)
      ·
        refine tl_y rfl (y_fieldAddr rfl) ?_
        refine tl_y rfl (y_load rfl rfl (.own inferInstance inferInstance)) ?_
        refine tl_y rfl (y_len rfl) ?_
        refine tl_y rfl (y_eql rfl rfl) ?_
        refine tl_y rfl (y_pickT rfl rfl) ?_
        refine tl_y rfl (y_move (v := .bool _) rfl) ?_
        refine tl_cases (s := 26) rfl (fun hk3 => ?_) (fun hk3 => ?_)
        ·
          refine tl_y rfl (y_fieldAddr rfl) ?_
          refine tl_y rfl (y_load rfl rfl (.own inferInstance inferInstance)) ?_
          refine tl_y rfl (y_len rfl) ?_
          refine tl_y rfl (y_fieldAddr rfl) ?_
          refine tl_y rfl (y_load rfl rfl (.own inferInstance inferInstance)) ?_
          refine tl_y rfl (y_eql rfl rfl) ?_
          refine tl_y rfl (y_pickT rfl rfl) ?_
          refine tl_y rfl (y_assign (v := .bool _) rfl) ?_
          refine tl_nil (.then_normal (.sub (F' := [(4, _)]) (.cons rfl .nil) (Jq2 _ _ _ _ ?_)))
          exact ⟨_, by
            constructor
            · intro ht
              first | (cases ht; done) | (simp at ht; exact ⟨⟨hk1, ots_eq hk2⟩, by omega, by omega⟩)
            · rintro ⟨⟨a1, a2⟩, a3, a4⟩
              first | exact absurd a1 hk1 | exact absurd (eq_ots a2) hk2 | (simp; omega) | omega, rfl, rfl, inferInstance, rfl⟩
        ·
          refine tl_skip rfl ?_
          refine tl_skip rfl ?_
          refine tl_skip rfl ?_
          refine tl_skip rfl ?_
          refine tl_skip rfl ?_
          refine tl_skip rfl ?_
          refine tl_y rfl (y_pickF rfl rfl) ?_
          refine tl_y rfl (y_assign (v := .bool _) rfl) ?_
          refine tl_nil (.then_normal (.sub (F' := [(4, _)]) (.cons rfl .nil) (Jq2 _ _ _ _ ?_)))
          exact ⟨_, by
            constructor
            · intro ht
              first | (cases ht; done) | (simp at ht; exact ⟨⟨hk1, ots_eq hk2⟩, by omega, by omega⟩)
            · rintro ⟨⟨a1, a2⟩, a3, a4⟩
              first | exact absurd a1 hk1 | exact absurd (eq_ots a2) hk2 | (simp; omega) | omega, rfl, rfl, inferInstance, rfl⟩
      ·
        refine tl_skip rfl ?_
        refine tl_skip rfl ?_
        refine tl_skip rfl ?_
        refine tl_skip rfl ?_
        refine tl_y rfl (y_pickF rfl rfl) ?_
        refine tl_y rfl (y_move (v := .bool _) rfl) ?_
        refine tl_skip rfl ?_
        refine tl_skip rfl ?_
        refine tl_skip rfl ?_
        refine tl_skip rfl ?_
        refine tl_skip rfl ?_
        refine tl_skip rfl ?_
        refine tl_y rfl (y_pickF rfl rfl) ?_
        refine tl_y rfl (y_assign (v := .bool _) rfl) ?_
        refine tl_nil (.then_normal (.sub (F' := [(4, _)]) (.cons rfl .nil) (Jq2 _ _ _ _ ?_)))
        exact ⟨_, by
          constructor
          · intro ht
            first | (cases ht; done) | (simp at ht; exact ⟨⟨hk1, ots_eq hk2⟩, by omega, by omega⟩)
          · rintro ⟨⟨a1, a2⟩, a3, a4⟩
            first | exact absurd a1 hk1 | exact absurd (eq_ots a2) hk2 | (simp; omega) | omega, rfl, rfl, inferInstance, rfl⟩
    ·
      refine tl_skip rfl ?_
      refine tl_skip rfl ?_
      refine tl_skip rfl ?_
      refine tl_y rfl (y_pickF rfl rfl) ?_
      refine tl_y rfl (y_move (v := .bool _) rfl) ?_
      refine tl_skip rfl ?_
      refine tl_skip rfl ?_
      refine tl_skip rfl ?_
      refine tl_skip rfl ?_
      refine tl_y rfl (y_pickF rfl rfl) ?_
      refine tl_y rfl (y_move (v := .bool _) rfl) ?_
      refine tl_skip rfl ?_
      refine tl_skip rfl ?_
      refine tl_skip rfl ?_
      refine tl_skip rfl ?_
      refine tl_skip rfl ?_
      refine tl_skip rfl ?_
      refine tl_y rfl (y_pickF rfl rfl) ?_
      refine tl_y rfl (y_assign (v := .bool _) rfl) ?_
      refine tl_nil (.then_normal (.sub (F' := [(4, _)]) (.cons rfl .nil) (Jq2 _ _ _ _ ?_)))
      exact ⟨_, by
        constructor
        · intro ht
          first | (cases ht; done) | (simp at ht; exact ⟨⟨hk1, ots_eq hk2⟩, by omega, by omega⟩)
        · rintro ⟨⟨a1, a2⟩, a3, a4⟩
          first | exact absurd a1 hk1 | exact absurd (eq_ots a2) hk2 | (simp; omega) | omega, rfl, rfl, inferInstance, rfl⟩
theorem RoLight_spec (o : OtsV) :
    Con Tryz.prog 40 #[.agg (List.toArray o.cells)] G M L (fun v M' L' => M = M' ∧ L = L' ∧ v = .bool (decide (o.w ≤ 4 ∧ o.p ≤ 140))) noPanic := by
  refine enter (args := [_]) (fn := Tryz.f40) ⟨Tryz.func40, rfl, by kernel_rfl, by kernel_rfl⟩ 11 rfl ?_
  refine x_seq (x_region ?_)
  refine tl_e rfl (e_box rfl (fun b1 => ?_))
  refine tl_y rfl (y_assign rfl) ?_
  refine tl_nil (.then_normal ?_)
  refine x_seq (x_region ?_)
  refine tl_y rfl (y_fieldAddr rfl) ?_
  refine tl_y rfl (y_load rfl rfl (.own inferInstance inferInstance)) ?_
  refine tl_y rfl (y_leq rfl rfl) ?_
  refine tl_y rfl (y_move (v := .bool _) rfl) ?_
  refine tl_cases (s := 6) rfl (fun hk1 => ?_) (fun hk1 => ?_)
  ·
    refine tl_y rfl (y_fieldAddr rfl) ?_
    refine tl_y rfl (y_load rfl rfl (.own inferInstance inferInstance)) ?_
    refine tl_y rfl (y_leq rfl rfl) ?_
    refine tl_y rfl (y_pickT rfl rfl) ?_
    refine tl_y rfl (y_assign (v := .bool _) rfl) ?_
    refine tl_nil (.then_normal ?_)
    refine .sub (F' := [(2, _)]) (.cons rfl .nil) ?_
    refine x_ret (.dropTo L inferInstance (ret1 rfl rfl (Le.refl _) ⟨rfl, rfl, by congr 1; rw [decide_eq_decide]; exact ⟨fun h => ⟨hk1, h⟩, fun h => h.2⟩⟩))
  ·
    refine tl_skip rfl ?_
    refine tl_skip rfl ?_
    refine tl_skip rfl ?_
    refine tl_y rfl (y_pickF rfl rfl) ?_
    refine tl_y rfl (y_assign (v := .bool _) rfl) ?_
    refine tl_nil (.then_normal ?_)
    refine .sub (F' := [(2, _)]) (.cons rfl .nil) ?_
    refine x_ret (.dropTo L inferInstance (ret1 rfl rfl (Le.refl _) ⟨rfl, rfl, by rw [decide_eq_false (fun h => hk1 h.1)]⟩))
end
end Go.Proofs.YtiimjodbaogjbaaGreatDoor
set_option linter.unusedVariables false
set_option linter.unusedSimpArgs false
set_option linter.constructorNameAsVariable false
namespace Go.Proofs.YtiimjodbaogjbaaGreatDoor
open Go Go.Eng
section
variable {G : World} {M : Mem} {L : Own} {NA SA TA : Option Addr} {nl nc sl sc tl tc : Nat} {name sec text : List UInt8}
theorem RLight_spec (x : PairV) :
    Con Tryz.prog 34 #[.agg (List.toArray x.cells)] G M L (fun v M' L' => M = M' ∧ L = L' ∧ v = .bool (decide (¬ okP x ∨ 10 < (treeV x.t).h ∨ ((otsV x.o).w ≤ 4 ∧ (otsV x.o).p ≤ 140) ∧ (treeV x.t).h ≤ 2))) noPanic := by
  refine enter (args := [_]) (fn := Tryz.f34) ⟨Tryz.func34, rfl, by kernel_rfl, by kernel_rfl⟩ 28 rfl ?_
  refine x_seq (x_region ?_)
  refine tl_e rfl (e_box rfl (fun b1 => ?_))
  refine tl_y rfl (y_assign rfl) ?_
  refine tl_nil (.then_normal ?_)
  refine x_seq (x_region ?_)
  refine tl_y rfl (y_loadAgg rfl rfl (.own inferInstance inferInstance)) ?_
  refine tl_e rfl (e_call' rfl (RSets12_spec x) ?_)
  rintro _ _ _ _ ⟨rfl, rfl, rfl⟩
  refine tl_y rfl (y_move (v := .tuple _) rfl) ?_
  refine tl_y rfl (y_extract rfl) ?_
  refine tl_y rfl (y_extract rfl) ?_
  refine tl_y rfl (y_extract rfl) ?_
  refine tl_e rfl (e_alloc (fun b2 => ?_))
  refine tl_e rfl (e_alloc (fun b3 => ?_))
  refine tl_e rfl (e_store rfl rfl (by rfl) (by rfl) inferInstance inferInstance inferInstance ?_)
  refine tl_e rfl (e_store rfl rfl (by rfl) (by rfl) inferInstance inferInstance inferInstance ?_)
  refine tl_y rfl (y_assign (v := .bool _) rfl) ?_
  refine tl_nil (.then_normal ?_)
  refine .sub (F' := [(3, _), (4, _), (5, _)]) (.cons rfl (.cons rfl (.cons rfl .nil))) ?_
  refine x_seq (x_region ?_)
  refine tl_y rfl (y_move (v := .bool _) rfl) ?_
  refine tl_y rfl (y_notd rfl) ?_
  refine tl_y rfl (y_move (v := .bool _) rfl) ?_
  refine tl_cases (s := 14) rfl (fun hk1 => ?_) (fun hk1 => ?_)
  ·
    refine tl_skip rfl ?_
    refine tl_skip rfl ?_
    refine tl_skip rfl ?_
    refine tl_y rfl (y_pickT rfl rfl) ?_
    refine tl_y rfl (y_move (v := .bool _) rfl) ?_
    refine tl_skip rfl ?_
    refine tl_skip rfl ?_
    refine tl_skip rfl ?_
    refine tl_skip rfl ?_
    refine tl_skip rfl ?_
    refine tl_skip rfl ?_
    refine tl_skip rfl ?_
    refine tl_y rfl (y_pickT rfl rfl) ?_
    refine tl_y rfl (y_assign (v := .bool _) rfl) ?_
    refine tl_nil (.then_normal ?_)
    refine .sub (F' := [(2, _)]) (.cons rfl .nil) ?_
    refine x_ret (.dropTo L inferInstance (ret1 rfl rfl (Le.refl _) ⟨rfl, rfl, congrArg Value.bool (decide_eq_true (.inl hk1)).symm⟩))
  ·
    refine tl_y rfl (y_fieldAddr rfl) ?_
    refine tl_y rfl (y_load rfl rfl (.own inferInstance inferInstance)) ?_
    refine tl_y rfl (y_gtr rfl rfl) ?_
    refine tl_y rfl (y_pickF rfl rfl) ?_
    refine tl_y rfl (y_move (v := .bool _) rfl) ?_
    refine tl_cases (s := 19) rfl (fun hk2 => ?_) (fun hk2 => ?_)
    ·
      refine tl_skip rfl ?_
      refine tl_skip rfl ?_
      refine tl_skip rfl ?_
      refine tl_skip rfl ?_
      refine tl_skip rfl ?_
      refine tl_skip rfl ?_
      refine tl_skip rfl ?_
      refine tl_y rfl (y_pickT rfl rfl) ?_
      refine tl_y rfl (y_assign (v := .bool _) rfl) ?_
      refine tl_nil (.then_normal ?_)
      refine .sub (F' := [(2, _)]) (.cons rfl .nil) ?_
      refine x_ret (.dropTo L inferInstance (ret1 rfl rfl (Le.refl _) ⟨rfl, rfl, congrArg Value.bool (decide_eq_true (.inr (.inl hk2))).symm⟩))
    ·
      refine tl_y rfl (y_loadAgg rfl rfl (.own inferInstance inferInstance)) ?_
      refine tl_e rfl (e_call' rfl (RoLight_spec (otsV x.o)) ?_)
      rintro _ _ _ _ ⟨rfl, rfl, rfl⟩
      refine tl_y rfl (y_move (v := .bool _) rfl) ?_
      refine tl_cases (s := 22) rfl (fun hk3 => ?_) (fun hk3 => ?_)
      ·
        refine tl_y rfl (y_fieldAddr rfl) ?_
        refine tl_y rfl (y_load rfl rfl (.own inferInstance inferInstance)) ?_
        refine tl_y rfl (y_leq rfl rfl) ?_
        refine tl_y rfl (y_pickT rfl rfl) ?_
        refine tl_y rfl (y_pickF rfl rfl) ?_
        refine tl_y rfl (y_assign (v := .bool _) rfl) ?_
        refine tl_nil (.then_normal ?_)
        refine .sub (F' := [(2, _)]) (.cons rfl .nil) ?_
        refine x_ret (.dropTo L inferInstance (ret1 rfl rfl (Le.refl _) ⟨rfl, rfl, by
          congr 1
          rw [decide_eq_decide]
          exact ⟨fun h => .inr (.inr ⟨hk3, h⟩), fun h => by rcases h with h | h | h; exact absurd h hk1; exact absurd h hk2; exact h.2⟩⟩))
      ·
        refine tl_skip rfl ?_
        refine tl_skip rfl ?_
        refine tl_skip rfl ?_
        refine tl_y rfl (y_pickF rfl rfl) ?_
        refine tl_y rfl (y_pickF rfl rfl) ?_
        refine tl_y rfl (y_assign (v := .bool _) rfl) ?_
        refine tl_nil (.then_normal ?_)
        refine .sub (F' := [(2, _)]) (.cons rfl .nil) ?_
        refine x_ret (.dropTo L inferInstance (ret1 rfl rfl (Le.refl _) ⟨rfl, rfl, congrArg Value.bool (decide_eq_false (fun h => by rcases h with h | h | h; exact hk1 h; exact hk2 h; exact hk3 h.1)).symm⟩))
end
end Go.Proofs.YtiimjodbaogjbaaGreatDoor
set_option linter.unusedVariables false
set_option linter.unusedSimpArgs false
set_option linter.constructorNameAsVariable false
namespace Go.Proofs.YtiimjodbaogjbaaGreatDoor
open Go Go.Eng
def p12 : PairV := ⟨7, 4026531846⟩
theorem f12 : okP p12 ∧ (treeV p12.t).h = 2 ∧ (otsV p12.o).n = 24 ∧ szP p12 = 48 ∧ szS p12 = 1308 ∧ takeE p12 1310 = 0 ∧ sigN p12 = 1308 := by decide +kernel
theorem f12b : ¬ okP ⟨3, 4026531846⟩ ∧ pairE [0, 0, 0, 5, 0, 0, 0, 3] = 5 ∧ mayC ⟨0, 0⟩ 0 0 = 4 ∧ ¬ okP ⟨3, 25⟩ ∧ okP ⟨3, 9⟩ := by decide +kernel
section
variable {G : World} {M : Mem} {L : Own}
theorem awake12_spec (hg : LmG M) : Con Tryz.prog 15 #[] G M L (fun v M' L' => L' = L ∧ v = .bool true) noPanic := by
  obtain ⟨fok, fh, fn, fz, fs, ft, fsn⟩ := f12
  obtain ⟨g1, g2, g3, g4, g5⟩ := f12b
  refine enter (args := []) (fn := Tryz.f15) ⟨Tryz.func15, rfl, by kernel_rfl, by kernel_rfl⟩ 88 rfl ?_
  refine x_seq (x_region ?_)
  refine tl_y rfl (y_assign rfl) ?_
  refine tl_nil (.then_normal ?_)
  refine x_seq (x_region ?_)
  refine tl_y rfl (y_build rfl) ?_
  refine tl_e rfl (e_call' rfl (Sizes_spec hg p12) ?_)
  rintro _ M1 L hM1 ⟨rfl, rfl⟩
  have hd := hM1
  rw [fz, fs]
  refine tl_y rfl (y_move (v := .tuple _) rfl) ?_
  refine tl_y rfl (y_extract rfl) ?_
  refine tl_y rfl (y_extract rfl) ?_
  refine tl_y rfl (y_assign (v := .int _ _) rfl) ?_
  refine tl_y rfl (y_assign (v := .int _ _) rfl) ?_
  refine tl_nil (.then_normal ?_)
  refine .sub (F' := [(1, _), (2, _)]) (.cons rfl (.cons rfl .nil)) ?_
  refine x_seq (x_region ?_)
  refine tl_y rfl (y_build rfl) ?_
  refine tl_e rfl (e_call' rfl (Sizes_spec (hg.mono hd) ⟨3, 4026531846⟩) ?_)
  rintro _ M2 L hM2 ⟨rfl, rfl⟩
  replace hd := hd.trans hM2
  rw [show szP ⟨3, 4026531846⟩ = 0 by rw [szP, if_neg g1], show szS ⟨3, 4026531846⟩ = 0 by rw [szS, if_neg g1]]
  refine tl_y rfl (y_move (v := .tuple _) rfl) ?_
  refine tl_y rfl (y_extract rfl) ?_
  refine tl_y rfl (y_extract rfl) ?_
  refine tl_y rfl (y_assign (v := .int _ _) rfl) ?_
  refine tl_y rfl (y_assign (v := .int _ _) rfl) ?_
  refine tl_nil (.then_normal ?_)
  refine .sub (F' := [(1, _), (2, _), (3, _), (4, _)]) (.cons rfl (.cons rfl (.cons rfl (.cons rfl .nil)))) ?_
  refine x_seq (x_region ?_)
  refine tl_e rfl (e_buildSlice rfl (by decide) (fun b1 => ?_))
  refine .pub b1 inferInstance (fun M3 hM3 hb1 => ?_)
  replace hd := hd.trans hM3
  refine tl_e rfl (e_call' rfl (Pair_spec (bs := [0, 0, 0, 5, 0, 0, 0, 3]) (hg.mono hd) (Row.whole hb1 rfl (by omega)) (by omega)) ?_)
  rintro _ M4 L hM4 ⟨rfl, rfl⟩
  replace hd := hd.trans hM4
  rw [g2]
  refine tl_y rfl (y_move (v := .tuple _) rfl) ?_
  refine tl_y rfl (y_extract rfl) ?_
  refine tl_y rfl (y_extract rfl) ?_
  refine tl_e rfl (e_alloc (fun b1 => ?_))
  refine tl_e rfl (e_store rfl rfl (by rfl) (by rfl) inferInstance inferInstance inferInstance ?_)
  refine tl_y rfl (y_assign (v := .int _ _) rfl) ?_
  refine tl_nil (.then_normal ?_)
  refine .sub (F' := [(1, _), (2, _), (3, _), (4, _), (6, _)]) (.cons rfl (.cons rfl (.cons rfl (.cons rfl (.cons rfl .nil))))) ?_
  refine x_seq (x_region ?_)
  refine tl_y rfl (y_build rfl) ?_
  refine tl_y rfl (y_build rfl) ?_
  refine tl_e rfl (e_call' rfl (Public_lspec (hg.mono hd) ⟨0, 0⟩ (name := []) (sec := []) (NA := none) (nl := 0) (nc := 0) (SA := none) (sl := 0) (sc := 0) (Row.nil _ _) (Row.nil _ _)) ?_)
  rintro _ M5 _ hM5 ⟨rfl, A5, m5, c5, rfl, hA5⟩
  replace hd := hd.trans hM5
  rw [g3]
  refine tl_y rfl (y_move (v := .tuple _) rfl) ?_
  refine tl_y rfl (y_extract rfl) ?_
  refine tl_y rfl (y_extract rfl) ?_
  refine tl_y rfl (y_assign (v := .slice _ _ _) rfl) ?_
  refine tl_y rfl (y_assign (v := .int _ _) rfl) ?_
  refine tl_nil (.then_normal ?_)
  refine .sub (F' := [(1, _), (2, _), (3, _), (4, _), (6, _), (8, _)]) (.cons rfl (.cons rfl (.cons rfl (.cons rfl (.cons rfl (.cons rfl .nil)))))) ?_
  refine x_seq (x_region ?_)
  refine tl_y rfl (y_build rfl) ?_
  refine tl_y rfl (y_move (v := .int _ _) rfl) ?_
  refine tl_y rfl (y_addI rfl rfl (by omega)) ?_
  refine tl_e rfl (e_make1 rfl rfl (by omega) (by omega) (by omega) (by omega) (fun b3 => ?_))
  rw [show (((1308 : Nat) : Int) + 2).toNat = 1310 from rfl]
  refine .pub b3 inferInstance (fun M6 hM6 hb3 => ?_)
  replace hd := hd.trans hM6
  have hz : Bytes M6 (some ⟨b3, 0, none⟩) 1310 1310 (List.replicate 1310 0) := Bytes.zeros hb3 (by omega)
  refine tl_e rfl (e_call' rfl (Take_spec (hg.mono hd) p12 hz (by omega)) ?_)
  rintro _ M7 _ hM7 ⟨rfl, A7, n7, c7, A8, n8, c8, rfl, hA7, hA8⟩
  replace hd := hd.trans hM7
  rw [if_pos ft, fsn] at hA7 hA8
  have hs7 := hA7.size
  have hs8 := hA8.size
  rw [List.length_take, List.length_replicate] at hs7
  rw [List.length_drop, List.length_replicate] at hs8
  obtain rfl : n7 = 1308 := by omega
  obtain rfl : n8 = 2 := by omega
  rw [ft]
  refine tl_y rfl (y_move (v := .tuple _) rfl) ?_
  refine tl_y rfl (y_extract rfl) ?_
  refine tl_y rfl (y_extract rfl) ?_
  refine tl_y rfl (y_extract rfl) ?_
  refine tl_y rfl (y_assign (v := .slice _ _ _) rfl) ?_
  refine tl_y rfl (y_assign (v := .slice _ _ _) rfl) ?_
  refine tl_y rfl (y_assign (v := .int _ _) rfl) ?_
  refine tl_nil (.then_normal ?_)
  refine .sub (F' := [(1, _), (2, _), (3, _), (4, _), (6, _), (8, _), (9, _), (10, _), (11, _)]) (.cons rfl (.cons rfl (.cons rfl (.cons rfl (.cons rfl (.cons rfl (.cons rfl (.cons rfl (.cons rfl .nil))))))))) ?_
  refine x_seq (x_region ?_)
  refine tl_y rfl (y_move (v := .int _ _) rfl) ?_
  refine tl_y rfl (y_eql rfl rfl) ?_
  refine tl_y rfl (y_move (v := .bool _) rfl) ?_
  refine tl_set (s := 44) (u := .bool true) rfl (rfl) ?_
  refine tl_y rfl (y_move (v := .int _ _) rfl) ?_
  refine tl_y rfl (y_eql rfl rfl) ?_
  refine tl_y rfl (y_pickT rfl rfl) ?_
  refine tl_y rfl (y_move (v := .bool _) rfl) ?_
  refine tl_set (s := 48) (u := .bool true) rfl (rfl) ?_
  refine tl_y rfl (y_move (v := .int _ _) rfl) ?_
  refine tl_y rfl (y_eql rfl rfl) ?_
  refine tl_y rfl (y_pickT rfl rfl) ?_
  refine tl_y rfl (y_move (v := .bool _) rfl) ?_
  refine tl_set (s := 52) (u := .bool true) rfl (rfl) ?_
  refine tl_y rfl (y_move (v := .int _ _) rfl) ?_
  refine tl_y rfl (y_eql rfl rfl) ?_
  refine tl_y rfl (y_pickT rfl rfl) ?_
  refine tl_y rfl (y_move (v := .bool _) rfl) ?_
  refine tl_set (s := 56) (u := .bool true) rfl (rfl) ?_
  refine tl_y rfl (y_move (v := .int _ _) rfl) ?_
  refine tl_y rfl (y_eql rfl rfl) ?_
  refine tl_y rfl (y_pickT rfl rfl) ?_
  refine tl_y rfl (y_move (v := .bool _) rfl) ?_
  refine tl_set (s := 60) (u := .bool true) rfl (rfl) ?_
  refine tl_y rfl (y_move (v := .int _ _) rfl) ?_
  refine tl_y rfl (y_eql rfl rfl) ?_
  refine tl_y rfl (y_pickT rfl rfl) ?_
  refine tl_y rfl (y_move (v := .bool _) rfl) ?_
  refine tl_set (s := 64) (u := .bool true) rfl (rfl) ?_
  refine tl_y rfl (y_move (v := .int _ _) rfl) ?_
  refine tl_y rfl (y_eql rfl rfl) ?_
  refine tl_y rfl (y_pickT rfl rfl) ?_
  refine tl_y rfl (y_move (v := .bool _) rfl) ?_
  refine tl_set (s := 68) (u := .bool true) rfl (rfl) ?_
  refine tl_y rfl (y_move (v := .slice _ _ _) rfl) ?_
  refine tl_y rfl (y_len rfl) ?_
  refine tl_y rfl (y_move (v := .int _ _) rfl) ?_
  refine tl_y rfl (y_eql rfl rfl) ?_
  refine tl_y rfl (y_pickT rfl rfl) ?_
  refine tl_y rfl (y_move (v := .bool _) rfl) ?_
  refine tl_set (s := 74) (u := .bool true) rfl (rfl) ?_
  refine tl_y rfl (y_move (v := .slice _ _ _) rfl) ?_
  refine tl_y rfl (y_len rfl) ?_
  refine tl_y rfl (y_eql rfl rfl) ?_
  refine tl_y rfl (y_pickT rfl rfl) ?_
  refine tl_y rfl (y_move (v := .bool _) rfl) ?_
  refine tl_set (s := 79) (u := .bool true) rfl (rfl) ?_
  refine tl_y rfl (y_build rfl) ?_
  refine tl_e rfl (e_call' rfl (lMay_spec (hg.mono hd).hs ⟨3, 25⟩) ?_)
  rintro _ M8 _ hM8 ⟨rfl, rfl⟩
  replace hd := hd.trans hM8
  rw [decide_eq_false g4]
  refine tl_y rfl (y_eqlBool rfl rfl) ?_
  refine tl_y rfl (y_pickT rfl rfl) ?_
  refine tl_y rfl (y_move (v := .bool _) rfl) ?_
  refine tl_set (s := 84) (u := .bool true) rfl (rfl) ?_
  refine tl_y rfl (y_build rfl) ?_
  refine tl_e rfl (e_call' rfl (lMay_spec (hg.mono hd).hs ⟨3, 9⟩) ?_)
  rintro _ M9 _ hM9 ⟨rfl, rfl⟩
  replace hd := hd.trans hM9
  rw [decide_eq_true g5]
  refine tl_y rfl (y_pickT rfl rfl) ?_
  refine tl_y rfl (y_assign (v := .bool _) rfl) ?_
  refine tl_nil (.then_normal ?_)
  refine .sub (F' := [(0, _)]) (.cons rfl .nil) ?_
  refine x_ret (.dropTo L inferInstance (ret1 rfl rfl hd ⟨rfl, rfl⟩))
end
end Go.Proofs.YtiimjodbaogjbaaGreatDoor
