/-
Contracts of functions, each proved by a walk through its code.
-/
import Derived.Test.YtbgdjdhbejbhkaaDoorRef20bEtc
import Derived.Test.YtbgdjdhbejbhkaaDoorLaw20Etc
set_option linter.unusedVariables false
set_option linter.unusedSimpArgs false
set_option linter.constructorNameAsVariable false
namespace Go.Proofs.YtbgdjdhbejbhkaaDoor
open Go Go.Eng
section
variable {G : World} {M : Mem} {L R : Own} {p q k : Nat} {S : DS} {s : SS} {rr : RRep} {A0 HA : Option Addr} {l0 c0 hl hc : Nat} {lv : List Value} {E0 : Own}
theorem RTake_spec (h : IsRef M rr S) (ok : OkS S s) {B : Nat} (hw : S.within B) (hB : B ≤ 1000000) (hb : Bytes M A0 l0 c0 s.b) (hov : s.num.toNat < 18446744073709551615) (hE0 : OwnRow 147 2 rr.la rr.ln rr.lc lv E0) (hln : rr.ln ≤ 1000000) {head : List UInt8} (hh : Bytes M HA hl hc head) (x : Cn) (hmay : mayB x head.length = true) (hnx : x.next.toNat ≤ x.reserved.toNat) :
    Con Tryd.prog 58 #[.pointer (some ⟨k, 0, none⟩)] G M (rcL k true x HA hl hc (some ⟨p, 0, none⟩) :: rsL p q s (atR s) s.num A0 l0 c0 :: rL q rr S (E0 ++ R))
      (fun v M' L' => RS p q (takeC S s x head).1.1.1 (takeC S s x head).1.1.2 (rr.ln + 1) (rcL k true (takeC S s x head).1.2 HA hl hc (some ⟨p, 0, none⟩) :: R) M' L' ∧ v = .tuple #[.int .u64 ((takeC S s x head).2.1.toNat : Int), .int .i64 (takeC S s x head).2.2]) noPanic := by
  have hhl := hh.size
  have hmb := mayB_iff.1 hmay
  have ht : ∀ u v : UInt64, u.toNat = v.toNat → u = v := fun u v e => UInt64.toNat_inj.1 e
  refine enter (args := [_]) (fn := Tryd.f58) ⟨Tryd.func58, rfl, by kernel_rfl, by kernel_rfl⟩ 96 rfl ?_
  refine x_seq (x_region ?_)
  refine tl_y rfl (y_assign rfl) ?_
  refine tl_y rfl (y_assign rfl) ?_
  refine tl_nil (.then_normal ?_)
  refine x_seq (x_seq (x_region ?_))
  refine tl_y rfl (y_move (v := .pointer _) rfl) ?_
  refine tl_y rfl (y_nilCheck rfl) ?_
  refine tl_y rfl (y_fieldAddr rfl) ?_
  refine tl_y rfl (y_fieldAddr rfl) ?_
  refine tl_y rfl (y_load rfl rfl (.own inferInstance inferInstance)) ?_
  refine tl_nil (.then_normal ?_)
  refine .sub (F' := [(0, _), (12, _)]) (.cons rfl (.cons rfl .nil)) ?_
  refine x_condb rfl (fun hc1 => ?_) (fun hc1 => ?_)
  ·
    refine x_seq (x_region ?_)
    refine tl_y rfl (y_assign rfl) ?_
    refine tl_y rfl (y_assign rfl) ?_
    refine tl_nil (.then_normal ?_)
    refine x_ret (.then_ret (.to (rsL p q s (atR s) s.num A0 l0 c0 :: rL q rr S (E0 ++ (rcL k true x HA hl hc (some ⟨p, 0, none⟩) :: R))) inferInstance (ret2 rfl rfl rfl (Le.refl _) (by
  rw [show takeC S s x head = (((S, s), x), (0, 13)) by rw [takeC, if_pos hc1]]
  exact ⟨.mk h hE0 (by omega) hb, rfl⟩))))
  ·
    refine x_skip (.then_normal ?_)
    refine x_seq (x_seq ?_)
    refine x_draw 11 hmix rfl ?_
    refine to_p 0 rfl (by kernel_rfl) rfl (y_move (v := .pointer _) rfl) ?_
    refine to_p 1 rfl (by kernel_rfl) rfl (y_nilCheck rfl) ?_
    refine to_p 2 rfl (by kernel_rfl) rfl (y_fieldAddr rfl) ?_
    refine to_p 3 rfl (by kernel_rfl) rfl (y_fieldAddr rfl) ?_
    refine to_y 4 rfl (by kernel_rfl) rfl (y_load rfl rfl (.own inferInstance inferInstance)) ?_
    refine to_p 5 rfl (by kernel_rfl) rfl (y_move (v := .pointer _) rfl) ?_
    refine to_p 6 rfl (by kernel_rfl) rfl (y_nilCheck rfl) ?_
    refine to_p 7 rfl (by kernel_rfl) rfl (y_fieldAddr rfl) ?_
    refine to_p 8 rfl (by kernel_rfl) rfl (y_fieldAddr rfl) ?_
    refine to_y 9 rfl (by kernel_rfl) rfl (y_load rfl rfl (.own inferInstance inferInstance)) ?_
    refine to_p 10 rfl (by kernel_rfl) rfl (y_geq rfl rfl) ?_
    refine to_nil (by kernel_rfl) (.then_normal ?_)
    refine .sub (F' := [(0, _), (23, _)]) (.cons rfl (.cons rfl .nil)) ?_
    refine x_cond rfl (fun hc2 => ?_) (fun hc2 => ?_)
    ·
      refine x_seq (x_region ?_)
      refine tl_y rfl (y_assign rfl) ?_
      refine tl_y rfl (y_assign rfl) ?_
      refine tl_nil (.then_normal ?_)
      refine x_ret (.then_ret (.to (rsL p q s (atR s) s.num A0 l0 c0 :: rL q rr S (E0 ++ (rcL k true x HA hl hc (some ⟨p, 0, none⟩) :: R))) inferInstance (ret2 rfl rfl rfl (Le.refl _) (by
  rw [show takeC S s x head = (((S, s), x), (0, 9)) by rw [takeC, if_neg (by simp [hc1]), if_pos (ht _ _ (by omega))]]
  exact ⟨.mk h hE0 (by omega) hb, rfl⟩))))
    ·
      have hnt : ¬ x.next = x.total := fun e => by rw [e] at hc2; omega
      refine x_skip (.then_normal ?_)
      refine x_seq (x_seq ?_)
      refine x_draw 11 hmix rfl ?_
      refine to_p 0 rfl (by kernel_rfl) rfl (y_move (v := .pointer _) rfl) ?_
      refine to_p 1 rfl (by kernel_rfl) rfl (y_nilCheck rfl) ?_
      refine to_p 2 rfl (by kernel_rfl) rfl (y_fieldAddr rfl) ?_
      refine to_p 3 rfl (by kernel_rfl) rfl (y_fieldAddr rfl) ?_
      refine to_y 4 rfl (by kernel_rfl) rfl (y_load rfl rfl (.own inferInstance inferInstance)) ?_
      refine to_p 5 rfl (by kernel_rfl) rfl (y_move (v := .pointer _) rfl) ?_
      refine to_p 6 rfl (by kernel_rfl) rfl (y_nilCheck rfl) ?_
      refine to_p 7 rfl (by kernel_rfl) rfl (y_fieldAddr rfl) ?_
      refine to_p 8 rfl (by kernel_rfl) rfl (y_fieldAddr rfl) ?_
      refine to_y 9 rfl (by kernel_rfl) rfl (y_load rfl rfl (.own inferInstance inferInstance)) ?_
      refine to_p 10 rfl (by kernel_rfl) rfl (y_geq rfl rfl) ?_
      refine to_nil (by kernel_rfl) (.then_normal ?_)
      refine .sub (F' := [(0, _), (34, _)]) (.cons rfl (.cons rfl .nil)) ?_
      refine x_cond rfl (fun hc3 => ?_) (fun hc3 => ?_)
      ·
        have hnr : x.next = x.reserved := ht _ _ (by omega)
        have hsum : (x.reserved + x.batch).toNat = x.reserved.toNat + x.batch.toNat := by rw [UInt64.toNat_add]; omega
        have hres : (moreC x).reserved = if x.total.toNat < (x.reserved + x.batch).toNat then x.total else x.reserved + x.batch := rfl
        have hresn : (moreC x).reserved.toNat ≤ x.total.toNat ∧ x.reserved.toNat < (moreC x).reserved.toNat := by
          rw [hres]
          have : x.next.toNat = x.reserved.toNat := by rw [hnr]
          split <;> omega
        have hmay' : mayB (moreC x) hl = true := by rw [← hhl]; exact mayB_iff.2 ⟨hmb.1, hmb.2.1, hmb.2.2.1, hmb.2.2.2.1, hresn.1, hmb.2.2.2.2.2⟩
        have hne : moreC x ≠ x := fun e => by have := congrArg Cn.reserved e; rw [this] at hresn; omega
        have hcs : saveC S s x (moreC x) head = if (saveRes S s (bytesC (moreC x) head)).2 ≠ 0 then (((saveRes S s (bytesC (moreC x) head)).1, x), (saveRes S s (bytesC (moreC x) head)).2) else (((saveRes S s (bytesC (moreC x) head)).1, moreC x), 0) := by
          rw [saveC, if_neg hne, if_neg (by rw [hhl, hmay']; simp)]
        have hT : takeC S s x head = if (saveC S s x (moreC x) head).2 ≠ 0 then ((saveC S s x (moreC x) head).1, (0, (saveC S s x (moreC x) head).2)) else (((saveC S s x (moreC x) head).1.1, nextC' (saveC S s x (moreC x) head).1.2), ((nextC' (saveC S s x (moreC x) head).1.2).next - 1, 0)) := by
          rw [takeC, if_neg (by simp [hc1]), if_neg hnt, if_pos hnr]
        refine x_seq (x_region ?_)
        refine tl_y rfl (y_move (v := .pointer _) rfl) ?_
        refine tl_y rfl (y_nilCheck rfl) ?_
        refine tl_y rfl (y_fieldAddr rfl) ?_
        refine tl_y rfl (y_loadAgg rfl rfl (.own inferInstance inferInstance)) ?_
        refine tl_e rfl (e_alloc (fun b1 => ?_))
        refine tl_e rfl (e_store rfl rfl (by rfl) (by rfl) inferInstance inferInstance inferInstance ?_)
        refine tl_nil (.then_normal ?_)
        refine .sub (F' := [(0, _), (4, _)]) (.cons rfl (.cons rfl .nil)) ?_
        refine x_seq ?_
        refine x_draw 12 hmix rfl ?_
        refine to_p 0 rfl (by kernel_rfl) rfl (y_move (v := .pointer _) rfl) ?_
        refine to_p 1 rfl (by kernel_rfl) rfl (y_nilCheck rfl) ?_
        refine to_p 2 rfl (by kernel_rfl) rfl (y_fieldAddr rfl) ?_
        refine to_p 3 rfl (by kernel_rfl) rfl (y_fieldAddr rfl) ?_
        refine to_y 4 rfl (by kernel_rfl) rfl (y_load rfl rfl (.own inferInstance inferInstance)) ?_
        refine to_p 5 rfl (by kernel_rfl) rfl (y_move (v := .pointer _) rfl) ?_
        refine to_p 6 rfl (by kernel_rfl) rfl (y_nilCheck rfl) ?_
        refine to_p 7 rfl (by kernel_rfl) rfl (y_fieldAddr rfl) ?_
        refine to_p 8 rfl (by kernel_rfl) rfl (y_fieldAddr rfl) ?_
        refine to_y 9 rfl (by kernel_rfl) rfl (y_load rfl rfl (.own inferInstance inferInstance)) ?_
        refine to_p 10 rfl (by kernel_rfl) rfl (y_add64 rfl rfl) ?_
        refine to_p 11 rfl (by kernel_rfl) rfl (y_fieldAddr rfl) ?_
        refine to_t 12 rfl (by kernel_rfl) (by kernel_rfl) rfl (e_store rfl rfl (by rfl) (by rfl) inferInstance inferInstance inferInstance ?_)
        refine to_nil (by kernel_rfl) (.then_normal ?_)
        refine .sub (F' := [(0, _), (4, _)]) (.cons rfl (.cons rfl .nil)) ?_
        refine x_join (I := fun F D M1 L1 => D = [] ∧ M = M1 ∧ L1 = (b1, .cells (List.toArray (ccells (moreC x))) 81 (0, 0)) :: rcL k true x HA hl hc (some ⟨p, 0, none⟩) :: rsL p q s (atR s) s.num A0 l0 c0 :: rL q rr S (E0 ++ R) ∧ F = [(0, .pointer (some ⟨k, 0, none⟩)), (4, .pointer (some ⟨b1, 0, none⟩))]) ?_ (fun Jj2 => ?_)
        ·
          rintro _ _ M1 L1 ⟨rfl, rfl, rfl, rfl⟩  -- slots [0, 4]
          refine x_seq ?_
          refine x_draw 11 hmix rfl ?_
          refine to_y 0 rfl (by kernel_rfl) rfl (y_loadAgg rfl rfl (.own inferInstance inferInstance)) ?_
          refine to_p 1 rfl (by kernel_rfl) rfl (y_move (v := .pointer _) rfl) ?_
          refine to_p 2 rfl (by kernel_rfl) rfl (y_nilCheck rfl) ?_
          refine to_p 3 rfl (by kernel_rfl) rfl (y_fieldAddr rfl) ?_
          refine to_y 4 rfl (by kernel_rfl) rfl (y_load rfl rfl (.own inferInstance inferInstance)) ?_
          refine to_e 5 rfl (by kernel_rfl) rfl (e_call' rfl (RBytes_spec (moreC x) hh) ?_)
          rintro _ M2 _ hM2 ⟨rfl, A2, n2, c2, w, rfl, hw2, ew⟩
          rw [if_pos hmay'] at ew
          rw [if_pos hmay']
          subst ew
          refine ⟨⟨hM2, Keeps.mem⟩, ?_⟩
          refine to_p 6 rfl (by kernel_rfl) rfl (y_move (v := .tuple _) rfl) ?_
          refine to_p 7 rfl (by kernel_rfl) rfl (y_extract rfl) ?_
          refine to_p 8 rfl (by kernel_rfl) rfl (y_extract rfl) ?_
          refine to_p 9 rfl (by kernel_rfl) rfl (y_assign (v := .slice _ _ _) rfl) ?_
          refine to_p 10 rfl (by kernel_rfl) rfl (y_assign (v := .int _ _) rfl) ?_
          refine to_nil (by kernel_rfl) (.then_normal ?_)
          refine .sub (F' := [(0, _), (4, _), (5, _)]) (.cons rfl (.cons rfl (.cons rfl .nil))) ?_
          refine x_seq (x_region ?_)
          refine tl_y rfl (y_move (v := .pointer _) rfl) ?_
          refine tl_y rfl (y_nilCheck rfl) ?_
          refine tl_y rfl (y_fieldAddr rfl) ?_
          refine tl_y rfl (y_load rfl rfl (.own inferInstance inferInstance)) ?_
          refine tl_y rfl (y_move (v := .slice _ _ _) rfl) ?_
          refine .to (rsL p q s (atR s) s.num A0 l0 c0 :: rL q rr S (E0 ++ (rcL k true x HA hl hc (some ⟨p, 0, none⟩) :: (b1, .cells (List.toArray (ccells (moreC x))) 81 (0, 0)) :: R))) inferInstance ?_
          refine tl_e rfl (e_call' rfl (RSave_spec (h.mono hM2) ok hw hB (hb.mono hM2) hov hE0 hln hw2) ?_)
          rintro _ M3 _ hM3 ⟨⟨r3, lv3, E3, A3, l3, c3, hd3, hE3, hm3, hb3, rfl⟩, rfl⟩
          refine tl_y rfl (y_assign (v := .int _ _) rfl) ?_
          refine tl_nil (.then_normal ?_)
          refine .sub (F' := [(0, _), (4, _), (7, _)]) (.cons rfl (.cons rfl (.cons rfl .nil))) ?_
          refine x_seq (x_seq (x_region ?_))
          refine tl_y rfl (y_move (v := .int _ _) rfl) ?_
          refine tl_y rfl (y_neq rfl rfl) ?_
          refine tl_nil (.then_normal ?_)
          refine x_cond rfl (fun hc4 => ?_) (fun hc4 => ?_)
          ·
            refine x_seq (x_region ?_)
            refine tl_y rfl (y_move (v := .int _ _) rfl) ?_
            refine tl_y rfl (y_assign rfl) ?_
            refine tl_y rfl (y_assign (v := .int _ _) rfl) ?_
            refine tl_nil (.then_normal ?_)
            refine .sub (F' := [(2, _), (3, _)]) (.cons rfl (.cons rfl .nil)) ?_
            refine x_ret (.then_ret (.then_ret (.dropTo (rsL p q (saveRes S s (bytesC (moreC x) head)).1.2 (atR (saveRes S s (bytesC (moreC x) head)).1.2) (saveRes S s (bytesC (moreC x) head)).1.2.num A3 l3 c3 :: rL q r3 (saveRes S s (bytesC (moreC x) head)).1.1 (E3 ++ (rcL k true x HA hl hc (some ⟨p, 0, none⟩) :: R))) inferInstance (ret2 rfl rfl rfl (hM2.trans hM3) (by
  have e1 : saveC S s x (moreC x) head = (((saveRes S s (bytesC (moreC x) head)).1, x), (saveRes S s (bytesC (moreC x) head)).2) := by rw [hcs, if_pos hc4]
  have e2 : takeC S s x head = (((saveRes S s (bytesC (moreC x) head)).1, x), (0, (saveRes S s (bytesC (moreC x) head)).2)) := by rw [hT, e1, if_pos hc4]
  rw [e2]
  exact ⟨.mk hd3 hE3 hm3 hb3, rfl⟩)))))
          ·
            refine x_skip (.then_normal ?_)
            refine x_region ?_
            refine tl_y rfl (y_move (v := .pointer _) rfl) ?_
            refine tl_y rfl (y_loadAgg rfl rfl (.own inferInstance inferInstance)) ?_
            refine tl_y rfl (y_nilCheck rfl) ?_
            refine tl_y rfl (y_fieldAddr rfl) ?_
            refine tl_e rfl (e_store rfl rfl (by rfl) (by rfl) inferInstance inferInstance inferInstance ?_)
            refine tl_nil (.then_normal ?_)
            refine .sub (F' := [(0, _)]) (.cons rfl .nil) ?_
            refine x_seq (x_region ?_)
            refine tl_y rfl (y_move (v := .pointer _) rfl) ?_
            refine tl_y rfl (y_nilCheck rfl) ?_
            refine tl_y rfl (y_fieldAddr rfl) ?_
            refine tl_y rfl (y_fieldAddr rfl) ?_
            refine tl_y rfl (y_load rfl rfl (.own inferInstance inferInstance)) ?_
            refine tl_y rfl (y_add64 (b := 1) rfl rfl) ?_
            refine tl_y rfl (y_nilCheck rfl) ?_
            refine tl_y rfl (y_fieldAddr rfl) ?_
            refine tl_y rfl (y_fieldAddr rfl) ?_
            refine tl_e rfl (e_store rfl rfl (by rfl) (by rfl) inferInstance inferInstance inferInstance ?_)
            refine tl_nil (.then_normal ?_)
            refine .sub (F' := [(0, _)]) (.cons rfl .nil) ?_
            refine x_seq (x_region ?_)
            refine tl_y rfl (y_move (v := .pointer _) rfl) ?_
            refine tl_y rfl (y_nilCheck rfl) ?_
            refine tl_y rfl (y_fieldAddr rfl) ?_
            refine tl_y rfl (y_fieldAddr rfl) ?_
            refine tl_y rfl (y_load rfl rfl (.own inferInstance inferInstance)) ?_
            refine tl_y rfl (y_sub64 (b := 1) rfl rfl) ?_
            refine tl_y rfl (y_assign (v := .int _ _) rfl) ?_
            refine tl_y rfl (y_assign rfl) ?_
            refine tl_nil (.then_normal ?_)
            refine .sub (F' := [(2, _), (3, _)]) (.cons rfl (.cons rfl .nil)) ?_
            refine x_ret (.dropTo (rsL p q (saveRes S s (bytesC (moreC x) head)).1.2 (atR (saveRes S s (bytesC (moreC x) head)).1.2) (saveRes S s (bytesC (moreC x) head)).1.2.num A3 l3 c3 :: rL q r3 (saveRes S s (bytesC (moreC x) head)).1.1 (E3 ++ ((k, .cells (List.toArray [.bool true, .int .u64 ((moreC x).total.toNat : Int), .int .u64 ((moreC x).batch.toNat : Int), .int .u64 ((moreC x).reserved.toNat : Int), u64v ((moreC x).next + 1), .bool (moreC x).retired, .slice HA hl hc, .pointer (some ⟨p, 0, none⟩)]) 107 (0, 0)) :: R))) inferInstance (ret2 rfl rfl rfl (hM2.trans hM3) (by
  have e1 : saveC S s x (moreC x) head = (((saveRes S s (bytesC (moreC x) head)).1, moreC x), 0) := by rw [hcs, if_neg hc4]
  have e2 : takeC S s x head = (((saveRes S s (bytesC (moreC x) head)).1, nextC' (moreC x)), ((nextC' (moreC x)).next - 1, 0)) := by rw [hT, e1, if_neg (by simp)]
  rw [e2]
  exact ⟨.mk hd3 hE3 hm3 hb3, rfl⟩)))
        ·
          refine x_seq (x_region ?_)
          refine tl_y rfl (y_fieldAddr rfl) ?_
          refine tl_y rfl (y_load rfl rfl (.own inferInstance inferInstance)) ?_
          refine tl_y rfl (y_fieldAddr rfl) ?_
          refine tl_y rfl (y_load rfl rfl (.own inferInstance inferInstance)) ?_
          refine tl_y rfl (y_gtr rfl rfl) ?_
          refine tl_nil (.then_normal ?_)
          refine .sub (F' := [(0, _), (4, _), (55, _)]) (.cons rfl (.cons rfl (.cons rfl .nil))) ?_
          refine x_cond rfl (fun hc5 => ?_) (fun hc5 => ?_)
          ·
            refine x_region ?_
            refine tl_y rfl (y_fieldAddr rfl) ?_
            refine tl_y rfl (y_load rfl rfl (.own inferInstance inferInstance)) ?_
            refine tl_y rfl (y_fieldAddr rfl) ?_
            refine tl_e rfl (e_store rfl rfl (by rfl) (by rfl) inferInstance inferInstance inferInstance ?_)
            refine tl_nil (.then_normal (.sub (F' := [(0, _), (4, _)]) (.cons rfl (.cons rfl .nil)) (Jj2 _ _ _ _ ?_)))
            exact ⟨rfl, rfl, by show _ = (b1, Obj.cells (List.toArray [.int .u64 (x.total.toNat : Int), .int .u64 (x.batch.toNat : Int), .int .u64 ((moreC x).reserved.toNat : Int), .int .u64 (x.next.toNat : Int), .bool x.retired]) 81 (0, 0)) :: _; rw [hres, if_pos (by omega)], rfl⟩
          ·
            refine x_skip (.then_normal (.sub (F' := [(0, _), (4, _)]) (.cons rfl (.cons rfl .nil)) (Jj2 _ _ _ _ ?_)))
            exact ⟨rfl, rfl, by show _ = (b1, Obj.cells (List.toArray [.int .u64 (x.total.toNat : Int), .int .u64 (x.batch.toNat : Int), .int .u64 ((moreC x).reserved.toNat : Int), .int .u64 (x.next.toNat : Int), .bool x.retired]) 81 (0, 0)) :: _; rw [hres, if_neg (by omega)], rfl⟩
      ·
        have hnr : ¬ x.next = x.reserved := fun e => by rw [e] at hc3; omega
        refine x_skip (.then_normal ?_)
        refine x_seq (x_region ?_)
        refine tl_y rfl (y_move (v := .pointer _) rfl) ?_
        refine tl_y rfl (y_nilCheck rfl) ?_
        refine tl_y rfl (y_fieldAddr rfl) ?_
        refine tl_y rfl (y_fieldAddr rfl) ?_
        refine tl_y rfl (y_load rfl rfl (.own inferInstance inferInstance)) ?_
        refine tl_y rfl (y_add64 (b := 1) rfl rfl) ?_
        refine tl_y rfl (y_nilCheck rfl) ?_
        refine tl_y rfl (y_fieldAddr rfl) ?_
        refine tl_y rfl (y_fieldAddr rfl) ?_
        refine tl_e rfl (e_store rfl rfl (by rfl) (by rfl) inferInstance inferInstance inferInstance ?_)
        refine tl_nil (.then_normal ?_)
        refine .sub (F' := [(0, _)]) (.cons rfl .nil) ?_
        refine x_seq (x_region ?_)
        refine tl_y rfl (y_move (v := .pointer _) rfl) ?_
        refine tl_y rfl (y_nilCheck rfl) ?_
        refine tl_y rfl (y_fieldAddr rfl) ?_
        refine tl_y rfl (y_fieldAddr rfl) ?_
        refine tl_y rfl (y_load rfl rfl (.own inferInstance inferInstance)) ?_
        refine tl_y rfl (y_sub64 (b := 1) rfl rfl) ?_
        refine tl_y rfl (y_assign (v := .int _ _) rfl) ?_
        refine tl_y rfl (y_assign rfl) ?_
        refine tl_nil (.then_normal ?_)
        refine .sub (F' := [(2, _), (3, _)]) (.cons rfl (.cons rfl .nil)) ?_
        refine x_ret (.to (rsL p q s (atR s) s.num A0 l0 c0 :: rL q rr S (E0 ++ ((k, .cells (List.toArray [.bool true, .int .u64 (x.total.toNat : Int), .int .u64 (x.batch.toNat : Int), .int .u64 (x.reserved.toNat : Int), u64v (x.next + 1), .bool x.retired, .slice HA hl hc, .pointer (some ⟨p, 0, none⟩)]) 107 (0, 0)) :: R))) inferInstance (ret2 rfl rfl rfl (Le.refl _) (by
  rw [show takeC S s x head = (((S, s), nextC' x), ((nextC' x).next - 1, 0)) by rw [takeC, if_neg (by simp [hc1]), if_neg hnt, if_neg hnr]]
  exact ⟨.mk h hE0 (by omega) hb, rfl⟩)))
end
end Go.Proofs.YtbgdjdhbejbhkaaDoor
set_option linter.unusedVariables false
set_option linter.unusedSimpArgs false
set_option linter.constructorNameAsVariable false
namespace Go.Proofs.YtbgdjdhbejbhkaaDoor
open Go Go.Eng
theorem load_11 {S : DS} {s : SS} (h : (loadRes S s).2 = 11) : (loadRes S s).1.num = 0 := by
  cases hd : S.down with
  | true => rw [loadRes, if_pos hd] at h; exact absurd h (by simp)
  | false =>
    have := load_code (s := s) hd
    by_cases h0 : (loadRes S s).1.num = 0
    · exact h0
    · rw [if_neg h0, h] at this; exact absurd this (by decide)
section
variable {G : World} {M : Mem} {L R : Own} {p q k : Nat} {S : DS} {s : SS} {rr : RRep} {A0 HA : Option Addr} {l0 c0 hl hc : Nat} {lv : List Value} {E0 : Own}
theorem ROpen21_spec (h : IsRef M rr S) (ok : OkS S s) (hb : Bytes M A0 l0 c0 s.b) (hE0 : OwnRow 147 2 rr.la rr.ln rr.lc lv E0) :
    Con Tryd.prog 61 #[.pointer (some ⟨p, 0, none⟩)] G M (rsL p q s (atR s) s.num A0 l0 c0 :: rL q rr S (E0 ++ R))
      (fun v M' L' => ∃ k, v = .tuple #[.pointer (some ⟨k, 0, none⟩), .int .i64 (openC S s).2] ∧ if (openC S s).2 = 0 then ∃ HA hl hc, Bytes M' HA hl hc (openC S s).1.2 ∧ RS p q S (loadRes S s).1 rr.ln (rcL k true (openC S s).1.1 HA hl hc (some ⟨p, 0, none⟩) :: R) M' L' else RS p q S (loadRes S s).1 rr.ln (rcL k false zeroC none 0 0 none :: R) M' L') noPanic := by
  refine enter (args := [_]) (fn := Tryd.f61) ⟨Tryd.func61, rfl, by kernel_rfl, by kernel_rfl⟩ 37 rfl ?_
  refine x_seq (x_region ?_)
  refine tl_y rfl (y_assign rfl) ?_
  refine tl_y rfl (y_assign rfl) ?_
  refine tl_nil (.then_normal ?_)
  refine x_seq (x_region ?_)
  refine tl_y rfl (y_move (v := .pointer _) rfl) ?_
  refine tl_e rfl (e_call' rfl (RLoad_spec h ok hb) ?_)
  rintro _ M1 _ hM1 ⟨A1, l1, c1, TA, tn, tc, rfl, hT, hb1, rfl⟩
  have h1 := h.mono hM1
  refine tl_y rfl (y_move (v := .tuple _) rfl) ?_
  refine tl_y rfl (y_extract rfl) ?_
  refine tl_y rfl (y_extract rfl) ?_
  refine tl_y rfl (y_extract rfl) ?_
  refine tl_y rfl (y_assign (v := .slice _ _ _) rfl) ?_
  refine tl_y rfl (y_assign (v := .int _ _) rfl) ?_
  refine tl_y rfl (y_assign (v := .int _ _) rfl) ?_
  refine tl_nil (.then_normal ?_)
  refine .sub (F' := [(0, _), (4, _), (6, _)]) (.cons rfl (.cons rfl (.cons rfl .nil))) ?_
  refine x_seq (x_seq (x_region ?_))
  refine tl_y rfl (y_move (v := .int _ _) rfl) ?_
  refine tl_y rfl (y_neq rfl rfl) ?_
  refine tl_nil (.then_normal ?_)
  refine x_cond rfl (fun hc1 => ?_) (fun hc1 => ?_)
  ·
    refine x_seq (x_region ?_)
    refine tl_y rfl (y_build rfl) ?_
    refine tl_e rfl (e_box rfl (fun b1 => ?_))
    refine tl_y rfl (y_move (v := .int _ _) rfl) ?_
    refine tl_y rfl (y_assign (v := .pointer _) rfl) ?_
    refine tl_y rfl (y_assign (v := .int _ _) rfl) ?_
    refine tl_nil (.then_normal ?_)
    refine .sub (F' := [(2, _), (3, _)]) (.cons rfl (.cons rfl .nil)) ?_
    refine x_ret (.then_ret (.to (rsL p q (loadRes S s).1 (atR (loadRes S s).1) (loadRes S s).1.num A1 l1 c1 :: rL q rr S (E0 ++ ((b1, .cells (List.toArray [.bool false, .int .u64 0, .int .u64 0, .int .u64 0, .int .u64 0, .bool false, .slice none 0 0, .pointer none]) 107 (0, 0)) :: R))) inferInstance (ret2 rfl rfl rfl hM1 (by
  rw [show openC S s = ((zeroC, []), (loadRes S s).2) by rw [openC, if_pos hc1]]
  refine ⟨b1, rfl, ?_⟩
  split
  · rename_i h9; exact absurd h9 hc1
  · exact .mk h1 hE0 (Nat.le_refl _) hb1))))
  ·
    have h0 : (loadRes S s).2 = 0 := Classical.not_not.1 hc1
    have hO : openC S s = readC (loadRes S s).1.b := by rw [openC, if_neg (by simp [h0])]
    have hT' : Bytes M1 TA tn tc (loadRes S s).1.b := by rw [told_zero h0] at hT; exact hT
    have hTn : tn ≤ 140737488355328 := by have := hT'.size; have h1 := (loadRes_ok ok).b; have h2 := (loadRes_ok ok).n; omega
    refine x_skip (.then_normal ?_)
    refine x_seq (x_region ?_)
    refine tl_y rfl (y_move (v := .slice _ _ _) rfl) ?_
    refine tl_e rfl (e_call' rfl (RRead21_spec hT' hTn) ?_)
    rintro _ _ _ hM2 ⟨rfl, rfl, A2, n2, c2, rfl, hA2⟩
    refine tl_y rfl (y_move (v := .tuple _) rfl) ?_
    refine tl_y rfl (y_extract rfl) ?_
    refine tl_y rfl (y_extract rfl) ?_
    refine tl_y rfl (y_extract rfl) ?_
    refine tl_e rfl (e_alloc (fun b2 => ?_))
    refine tl_e rfl (e_store rfl rfl (by rfl) (by rfl) inferInstance inferInstance inferInstance ?_)
    refine tl_y rfl (y_assign (v := .slice _ _ _) rfl) ?_
    refine tl_y rfl (y_assign (v := .int _ _) rfl) ?_
    refine tl_nil (.then_normal ?_)
    refine .sub (F' := [(0, _), (7, _), (8, _), (9, _)]) (.cons rfl (.cons rfl (.cons rfl (.cons rfl .nil)))) ?_
    refine x_seq (x_seq (x_region ?_))
    refine tl_y rfl (y_move (v := .int _ _) rfl) ?_
    refine tl_y rfl (y_neq rfl rfl) ?_
    refine tl_nil (.then_normal ?_)
    refine x_cond rfl (fun hc2 => ?_) (fun hc2 => ?_)
    ·
      refine x_seq (x_region ?_)
      refine tl_y rfl (y_build rfl) ?_
      refine tl_e rfl (e_box rfl (fun b3 => ?_))
      refine tl_y rfl (y_move (v := .int _ _) rfl) ?_
      refine tl_y rfl (y_assign (v := .pointer _) rfl) ?_
      refine tl_y rfl (y_assign (v := .int _ _) rfl) ?_
      refine tl_nil (.then_normal ?_)
      refine .sub (F' := [(2, _), (3, _)]) (.cons rfl (.cons rfl .nil)) ?_
      refine x_ret (.then_ret (.dropTo (rsL p q (loadRes S s).1 (atR (loadRes S s).1) (loadRes S s).1.num A1 l1 c1 :: rL q rr S (E0 ++ ((b3, .cells (List.toArray [.bool false, .int .u64 0, .int .u64 0, .int .u64 0, .int .u64 0, .bool false, .slice none 0 0, .pointer none]) 107 (0, 0)) :: R))) inferInstance (ret2 rfl rfl rfl hM1 (by
  rw [hO]
  refine ⟨b3, rfl, ?_⟩
  split
  · rename_i h9; exact absurd h9 hc2
  · exact .mk h1 hE0 (Nat.le_refl _) hb1))))
    ·
      refine x_skip (.then_normal ?_)
      refine x_seq (x_region ?_)
      refine tl_y rfl (y_loadAgg rfl rfl (.own inferInstance inferInstance)) ?_
      refine tl_y rfl (y_move (v := .slice _ _ _) rfl) ?_
      refine tl_y rfl (y_move (v := .pointer _) rfl) ?_
      refine tl_y rfl (y_build rfl) ?_
      refine tl_e rfl (e_box rfl (fun b4 => ?_))
      refine tl_y rfl (y_assign (v := .pointer _) rfl) ?_
      refine tl_y rfl (y_assign rfl) ?_
      refine tl_nil (.then_normal ?_)
      refine .sub (F' := [(2, _), (3, _)]) (.cons rfl (.cons rfl .nil)) ?_
      refine x_ret (.dropTo (rsL p q (loadRes S s).1 (atR (loadRes S s).1) (loadRes S s).1.num A1 l1 c1 :: rL q rr S (E0 ++ (rcL b4 true (readC (loadRes S s).1.b).1.1 A2 n2 c2 (some ⟨p, 0, none⟩) :: R))) inferInstance (ret2 rfl rfl rfl hM1 (by
  have h2 : (readC (loadRes S s).1.b).2 = 0 := Classical.not_not.1 hc2
  rw [hO]
  refine ⟨b4, by rw [h2], ?_⟩
  split
  · exact ⟨A2, n2, c2, hA2, .mk h1 hE0 (Nat.le_refl _) hb1⟩
  · rename_i h9; exact absurd h2 h9)))
theorem RNew21_spec (h : IsRef M rr S) (ok : OkS S s) {B : Nat} (hw : S.within B) (hB : B ≤ 1000000) (hb : Bytes M A0 l0 c0 s.b) (hE0 : OwnRow 147 2 rr.la rr.ln rr.lc lv E0) (hln : rr.ln ≤ 1000000) {head : List UInt8} (hh : Bytes M HA hl hc head) (total batch : UInt64) :
    Con Tryd.prog 56 #[.pointer (some ⟨p, 0, none⟩), .slice HA hl hc, .int .u64 (total.toNat : Int), .int .u64 (batch.toNat : Int)] G M (rsL p q s (atR s) s.num A0 l0 c0 :: rL q rr S (E0 ++ R))
      (fun v M' L' => ∃ k, v = .tuple #[.pointer (some ⟨k, 0, none⟩), .int .i64 (newC S s head total batch).2] ∧ if (newC S s head total batch).2 = 0 then RS p q (newC S s head total batch).1.1 (newC S s head total batch).1.2 (rr.ln + 1) (rcL k true (newX total batch) HA hl hc (some ⟨p, 0, none⟩) :: R) M' L' else RS p q (newC S s head total batch).1.1 (newC S s head total batch).1.2 (rr.ln + 1) (rcL k false zeroC none 0 0 none :: R) M' L') noPanic := by
  have hhl := hh.size
  have hok := loadRes_ok ok
  refine enter (args := [_, _, _, _]) (fn := Tryd.f56) ⟨Tryd.func56, rfl, by kernel_rfl, by kernel_rfl⟩ 60 rfl ?_
  refine x_seq (x_region ?_)
  refine tl_y rfl (y_assign rfl) ?_
  refine tl_y rfl (y_assign rfl) ?_
  refine tl_nil (.then_normal ?_)
  refine x_seq (x_region ?_)
  refine tl_y rfl (y_move (v := .int _ _) rfl) ?_
  refine tl_y rfl (y_move (v := .int _ _) rfl) ?_
  refine tl_y rfl (y_build rfl) ?_
  refine tl_e rfl (e_alloc (fun b1 => ?_))
  refine tl_e rfl (e_store rfl rfl (by rfl) (by rfl) inferInstance inferInstance inferInstance ?_)
  refine tl_nil (.then_normal ?_)
  refine .sub (F' := [(0, _), (1, _), (10, _)]) (.cons rfl (.cons rfl (.cons rfl .nil))) ?_
  refine x_seq (x_seq (x_region ?_))
  refine tl_y rfl (y_loadAgg rfl rfl (.own inferInstance inferInstance)) ?_
  refine tl_y rfl (y_move (v := .slice _ _ _) rfl) ?_
  refine tl_e rfl (e_call' rfl (RMay21_spec (newX total batch)) ?_)
  rintro _ _ _ _ ⟨rfl, rfl, rfl⟩
  refine tl_y rfl (y_not rfl) ?_
  refine tl_nil (.then_normal ?_)
  refine x_condb rfl (fun hc1 => ?_) (fun hc1 => ?_)
  ·
    refine x_seq (x_region ?_)
    refine tl_y rfl (y_build rfl) ?_
    refine tl_e rfl (e_box rfl (fun b2 => ?_))
    refine tl_y rfl (y_assign (v := .pointer _) rfl) ?_
    refine tl_y rfl (y_assign rfl) ?_
    refine tl_nil (.then_normal ?_)
    refine .sub (F' := [(8, _), (9, _)]) (.cons rfl (.cons rfl .nil)) ?_
    refine x_ret (.then_ret (.dropTo (rsL p q s (atR s) s.num A0 l0 c0 :: rL q rr S (E0 ++ ((b2, .cells (List.toArray [.bool false, .int .u64 0, .int .u64 0, .int .u64 0, .int .u64 0, .bool false, .slice none 0 0, .pointer none]) 107 (0, 0)) :: R))) inferInstance (ret2 rfl rfl rfl (Le.refl _) (by
  have hm : mayB (newX total batch) head.length = false := by rw [hhl]; simpa using hc1
  rw [show newC S s head total batch = ((S, s), 1) by rw [newC, if_pos hm]]
  refine ⟨b2, rfl, ?_⟩
  split
  · rename_i h9; exact absurd h9 (by simp)
  · exact .mk h hE0 (by omega) hb))))
  ·
    have hm : mayB (newX total batch) hl = true := by simpa using hc1
    have hm' : mayB (newX total batch) head.length = true := by rw [hhl]; exact hm
    refine x_skip (.then_normal ?_)
    refine .sub (F' := [(0, _), (1, _), (10, _)]) (.cons rfl (.cons rfl (.cons rfl .nil))) ?_
    refine x_seq (x_region ?_)
    refine tl_y rfl (y_move (v := .pointer _) rfl) ?_
    refine .to (rsL p q s (atR s) s.num A0 l0 c0 :: rL q rr S (E0 ++ ((b1, .cells (List.toArray [u64v total, u64v batch, .int .u64 0, .int .u64 0, .bool false]) 81 (0, 0)) :: R))) inferInstance ?_
    refine tl_e rfl (e_call' rfl (RLoad_spec h ok hb) ?_)
    rintro _ M1 _ hM1 ⟨A1, l1, c1, TA, tn, tc, rfl, hT, hb1, rfl⟩
    have h1 := h.mono hM1
    refine tl_y rfl (y_move (v := .tuple _) rfl) ?_
    refine tl_y rfl (y_extract rfl) ?_
    refine tl_y rfl (y_extract rfl) ?_
    refine tl_y rfl (y_extract rfl) ?_
    refine tl_y rfl (y_assign (v := .slice _ _ _) rfl) ?_
    refine tl_y rfl (y_assign (v := .int _ _) rfl) ?_
    refine tl_y rfl (y_assign (v := .int _ _) rfl) ?_
    refine tl_nil (.then_normal ?_)
    refine .sub (F' := [(0, _), (1, _), (10, _), (13, _)]) (.cons rfl (.cons rfl (.cons rfl (.cons rfl .nil)))) ?_
    refine x_seq (x_seq (x_region ?_))
    refine tl_y rfl (y_move (v := .int _ _) rfl) ?_
    refine tl_y rfl (y_eql rfl rfl) ?_
    refine tl_nil (.then_normal ?_)
    refine x_cond rfl (fun hc2 => ?_) (fun hc2 => ?_)
    ·
      refine x_seq (x_region ?_)
      refine tl_y rfl (y_build rfl) ?_
      refine tl_e rfl (e_box rfl (fun b3 => ?_))
      refine tl_y rfl (y_assign (v := .pointer _) rfl) ?_
      refine tl_y rfl (y_assign rfl) ?_
      refine tl_nil (.then_normal ?_)
      refine .sub (F' := [(8, _), (9, _)]) (.cons rfl (.cons rfl .nil)) ?_
      refine x_ret (.then_ret (.dropTo (rsL p q (loadRes S s).1 (atR (loadRes S s).1) (loadRes S s).1.num A1 l1 c1 :: rL q rr S (E0 ++ ((b3, .cells (List.toArray [.bool false, .int .u64 0, .int .u64 0, .int .u64 0, .int .u64 0, .bool false, .slice none 0 0, .pointer none]) 107 (0, 0)) :: R))) inferInstance (ret2 rfl rfl rfl hM1 (by
  rw [show newC S s head total batch = ((S, (loadRes S s).1), 10) by rw [newC, if_neg (by simp [hm']), if_pos hc2]]
  refine ⟨b3, rfl, ?_⟩
  split
  · rename_i h9; exact absurd h9 (by simp)
  · exact .mk h1 hE0 (by omega) hb1))))
    ·
      refine x_skip (.then_normal ?_)
      refine x_seq (x_seq (x_region ?_))
      refine tl_y rfl (y_move (v := .int _ _) rfl) ?_
      refine tl_y rfl (y_neq rfl rfl) ?_
      refine tl_nil (.then_normal ?_)
      refine x_cond rfl (fun hc3 => ?_) (fun hc3 => ?_)
      ·
        refine x_seq (x_region ?_)
        refine tl_y rfl (y_build rfl) ?_
        refine tl_e rfl (e_box rfl (fun b4 => ?_))
        refine tl_y rfl (y_move (v := .int _ _) rfl) ?_
        refine tl_y rfl (y_assign (v := .pointer _) rfl) ?_
        refine tl_y rfl (y_assign (v := .int _ _) rfl) ?_
        refine tl_nil (.then_normal ?_)
        refine .sub (F' := [(8, _), (9, _)]) (.cons rfl (.cons rfl .nil)) ?_
        refine x_ret (.then_ret (.dropTo (rsL p q (loadRes S s).1 (atR (loadRes S s).1) (loadRes S s).1.num A1 l1 c1 :: rL q rr S (E0 ++ ((b4, .cells (List.toArray [.bool false, .int .u64 0, .int .u64 0, .int .u64 0, .int .u64 0, .bool false, .slice none 0 0, .pointer none]) 107 (0, 0)) :: R))) inferInstance (ret2 rfl rfl rfl hM1 (by
  rw [show newC S s head total batch = ((S, (loadRes S s).1), (loadRes S s).2) by rw [newC, if_neg (by simp [hm']), if_neg hc2, if_neg hc3]]
  refine ⟨b4, rfl, ?_⟩
  split
  · rename_i h9; exact absurd h9 hc2
  · exact .mk h1 hE0 (by omega) hb1))))
      ·
        have h11 : (loadRes S s).2 = 11 := Classical.not_not.1 hc3
        have hn0 := load_11 h11
        have hN : newC S s head total batch = saveRes S (loadRes S s).1 (bytesC (newX total batch) head) := by
          rw [newC, if_neg (by simp [hm']), if_neg hc2, if_pos h11]
        refine x_skip (.then_normal ?_)
        refine .sub (F' := [(0, _), (1, _), (10, _)]) (.cons rfl (.cons rfl (.cons rfl .nil))) ?_
        refine x_seq (x_region ?_)
        refine tl_y rfl (y_loadAgg rfl rfl (.own inferInstance inferInstance)) ?_
        refine tl_y rfl (y_move (v := .slice _ _ _) rfl) ?_
        refine tl_e rfl (e_call' rfl (RBytes_spec (newX total batch) (hh.mono hM1)) ?_)
        rintro _ M2 _ hM2 ⟨rfl, A2, n2, c2, w, rfl, hw2, ew⟩
        rw [if_pos hm] at ew
        rw [if_pos hm]
        subst ew
        refine tl_y rfl (y_move (v := .tuple _) rfl) ?_
        refine tl_y rfl (y_extract rfl) ?_
        refine tl_y rfl (y_extract rfl) ?_
        refine tl_y rfl (y_assign (v := .slice _ _ _) rfl) ?_
        refine tl_y rfl (y_assign (v := .int _ _) rfl) ?_
        refine tl_nil (.then_normal ?_)
        refine .sub (F' := [(0, _), (1, _), (10, _), (14, _)]) (.cons rfl (.cons rfl (.cons rfl (.cons rfl .nil)))) ?_
        refine x_seq (x_region ?_)
        refine tl_y rfl (y_move (v := .pointer _) rfl) ?_
        refine tl_y rfl (y_move (v := .slice _ _ _) rfl) ?_
        refine tl_e rfl (e_call' rfl (RSave_spec (h1.mono hM2) hok hw hB (hb1.mono hM2) (by rw [hn0]; decide) hE0 hln hw2) ?_)
        rintro _ M3 _ hM3 ⟨⟨r3, lv3, E3, A3, l3, c3, hd3, hE3, hm3, hb3, rfl⟩, rfl⟩
        have hLe : Le M M3 := hM1.trans (hM2.trans hM3)
        refine tl_y rfl (y_assign (v := .int _ _) rfl) ?_
        refine tl_nil (.then_normal ?_)
        refine .sub (F' := [(0, _), (1, _), (10, _), (16, _)]) (.cons rfl (.cons rfl (.cons rfl (.cons rfl .nil)))) ?_
        refine x_seq (x_seq (x_region ?_))
        refine tl_y rfl (y_move (v := .int _ _) rfl) ?_
        refine tl_y rfl (y_neq rfl rfl) ?_
        refine tl_nil (.then_normal ?_)
        refine x_cond rfl (fun hc4 => ?_) (fun hc4 => ?_)
        ·
          refine x_seq (x_region ?_)
          refine tl_y rfl (y_build rfl) ?_
          refine tl_e rfl (e_box rfl (fun b5 => ?_))
          refine tl_y rfl (y_move (v := .int _ _) rfl) ?_
          refine tl_y rfl (y_assign (v := .pointer _) rfl) ?_
          refine tl_y rfl (y_assign (v := .int _ _) rfl) ?_
          refine tl_nil (.then_normal ?_)
          refine .sub (F' := [(8, _), (9, _)]) (.cons rfl (.cons rfl .nil)) ?_
          refine x_ret (.then_ret (.dropTo (rsL p q (saveRes S (loadRes S s).1 (bytesC (newX total batch) head)).1.2 (atR (saveRes S (loadRes S s).1 (bytesC (newX total batch) head)).1.2) (saveRes S (loadRes S s).1 (bytesC (newX total batch) head)).1.2.num A3 l3 c3 :: rL q r3 (saveRes S (loadRes S s).1 (bytesC (newX total batch) head)).1.1 (E3 ++ ((b5, .cells (List.toArray [.bool false, .int .u64 0, .int .u64 0, .int .u64 0, .int .u64 0, .bool false, .slice none 0 0, .pointer none]) 107 (0, 0)) :: R))) inferInstance (ret2 rfl rfl rfl hLe (by
  rw [hN]
  refine ⟨b5, rfl, ?_⟩
  split
  · rename_i h9; exact absurd h9 hc4
  · exact .mk hd3 hE3 hm3 hb3))))
        ·
          refine x_skip (.then_normal ?_)
          refine x_seq (x_region ?_)
          refine tl_y rfl (y_loadAgg rfl rfl (.own inferInstance inferInstance)) ?_
          refine tl_y rfl (y_move (v := .slice _ _ _) rfl) ?_
          refine tl_y rfl (y_move (v := .pointer _) rfl) ?_
          refine tl_y rfl (y_build rfl) ?_
          refine tl_e rfl (e_box rfl (fun b6 => ?_))
          refine tl_y rfl (y_assign (v := .pointer _) rfl) ?_
          refine tl_y rfl (y_assign rfl) ?_
          refine tl_nil (.then_normal ?_)
          refine .sub (F' := [(8, _), (9, _)]) (.cons rfl (.cons rfl .nil)) ?_
          refine x_ret (.dropTo (rsL p q (saveRes S (loadRes S s).1 (bytesC (newX total batch) head)).1.2 (atR (saveRes S (loadRes S s).1 (bytesC (newX total batch) head)).1.2) (saveRes S (loadRes S s).1 (bytesC (newX total batch) head)).1.2.num A3 l3 c3 :: rL q r3 (saveRes S (loadRes S s).1 (bytesC (newX total batch) head)).1.1 (E3 ++ ((b6, .cells (List.toArray [.bool true, u64v total, u64v batch, .int .u64 0, .int .u64 0, .bool false, .slice HA hl hc, .pointer (some ⟨p, 0, none⟩)]) 107 (0, 0)) :: R))) inferInstance (ret2 rfl rfl rfl hLe (by
  have h0 : (saveRes S (loadRes S s).1 (bytesC (newX total batch) head)).2 = 0 := Classical.not_not.1 hc4
  rw [hN]
  refine ⟨b6, by rw [h0], ?_⟩
  split
  · exact .mk hd3 hE3 hm3 hb3
  · rename_i h9; exact absurd h0 h9)))
end
end Go.Proofs.YtbgdjdhbejbhkaaDoor
set_option linter.unusedVariables false
set_option linter.unusedSimpArgs false
namespace Go.Proofs.YtbgdjdhbejbhkaaDoor
open Go Go.Eng
/-! ### The numbers stay small -/
/-- A sector that begins with a number up to 'j', one byte. -/
def Small (j : Nat) (b : List UInt8) : Prop := (∀ i, i < 7 → b.getD i 0 = 0) ∧ (b.getD 7 0).toNat ≤ j
theorem Small.mono {j j' : Nat} {b : List UInt8} (h : Small j b) (hj : j ≤ j') : Small j' b := ⟨h.1, Nat.le_trans h.2 hj⟩
theorem small_num {j : Nat} {b : List UInt8} (h : Small j b) (hl : 8 ≤ b.length) : getB (b.take 8) ≤ j := by
  have e : b.take 8 = [b.getD 0 0, b.getD 1 0, b.getD 2 0, b.getD 3 0, b.getD 4 0, b.getD 5 0, b.getD 6 0, b.getD 7 0] := by
    have hg : ∀ i, i < b.length → b[i]? = some (b.getD i 0) := fun i hi => by rw [List.getD_eq_getElem?_getD, List.getElem?_eq_getElem hi]; rfl
    apply List.ext_getElem?
    intro i
    rw [List.getElem?_take]
    by_cases hi : i < 8
    · rw [if_pos hi, hg _ (by omega)]
      rcases (by omega : i = 0 ∨ i = 1 ∨ i = 2 ∨ i = 3 ∨ i = 4 ∨ i = 5 ∨ i = 6 ∨ i = 7) with rfl | rfl | rfl | rfl | rfl | rfl | rfl | rfl <;> rfl
    · rw [if_neg hi, List.getElem?_eq_none (by simp; omega)]
  rw [e, h.1 0 (by omega), h.1 1 (by omega), h.1 2 (by omega), h.1 3 (by omega), h.1 4 (by omega), h.1 5 (by omega), h.1 6 (by omega)]
  have := h.2
  have z : (0 : UInt8).toNat = 0 := rfl
  simp only [getB, List.foldl_cons, List.foldl_nil, z]
  omega
theorem small_put {j : Nat} {v : Nat} (hv : v ≤ j) (hj : j < 256) (b : List UInt8) : Small j (putB v 8 ++ b) := by
  have hl := putB_length 8 v
  have hg : ∀ i, i < 8 → (putB v 8 ++ b).getD i 0 = UInt8.ofNat (v / 256 ^ (7 - i) % 256) := fun i hi => by
    rw [List.getD_eq_getElem?_getD, List.getElem?_append_left (by omega)]
    have := putB_get 8 v (7 - i) (by omega)
    rw [show 8 - 1 - (7 - i) = i by omega] at this
    rw [this]; rfl
  refine ⟨fun i hi => ?_, ?_⟩
  · rw [hg i (by omega)]
    have : v / 256 ^ (7 - i) = 0 := Nat.div_eq_of_lt (Nat.lt_of_lt_of_le (show v < 256 ^ 1 by omega) (Nat.pow_le_pow_right (by omega) (by omega)))
    rw [this]; rfl
  · rw [hg 7 (by omega)]
    simp
    omega
theorem small_zero : Small 0 zeros := ⟨fun i hi => by rcases (by omega : i = 0 ∨ i = 1 ∨ i = 2 ∨ i = 3 ∨ i = 4 ∨ i = 5 ∨ i = 6) with rfl | rfl | rfl | rfl | rfl | rfl | rfl <;> rfl, Nat.le_refl _⟩
/-- The begins of both areas. -/
def begins (i : Nat) : Prop := i = 0 ∨ i = 8
structure Tame (S : DS) (j : Nat) : Prop where
  len : S.sure.length = 16
  sl : ∀ b ∈ S.sure, b.length = 64
  pl : ∀ q ∈ S.pend, q.2.length = 64 ∧ 0 ≤ q.1 ∧ q.1 < 16
  sure : ∀ i, begins i → Small j (S.sure.getD i [])
  pend : ∀ q ∈ S.pend, begins q.1.toNat → Small j q.2
theorem after_get {old b : List UInt8} {c : UInt8} (h1 : old.length = 64) (h2 : b.length = 64) (i : Nat) : (afterF old b c).getD i 0 = old.getD i 0 ∨ (afterF old b c).getD i 0 = b.getD i 0 := by
  have key : ∀ (x y : List UInt8) (m : Nat), x.length = 64 → y.length = 64 → m ≤ 64 → (x.take m ++ y.drop m).getD i 0 = x.getD i 0 ∨ (x.take m ++ y.drop m).getD i 0 = y.getD i 0 := fun x y m hx hy hm => by
    by_cases hi : i < m
    · left
      rw [List.getD_eq_getElem?_getD, List.getD_eq_getElem?_getD, List.getElem?_append_left (by simp; omega), List.getElem?_take, if_pos hi]
    · right
      rw [List.getD_eq_getElem?_getD, List.getD_eq_getElem?_getD, List.getElem?_append_right (by simp; omega), List.getElem?_drop]
      congr 2
      simp; omega
  unfold afterF
  split
  · exact .inl rfl
  · split
    · exact .inr rfl
    · split
      · exact (key b old _ h2 h1 (Nat.min_le_right _ _)).symm
      · exact key old b _ h1 h2 (Nat.min_le_right _ _)
theorem after_small {j : Nat} {old b : List UInt8} {c : UInt8} (h1 : old.length = 64) (h2 : b.length = 64) (ho : Small j old) (hb : Small j b) : Small j (afterF old b c) := by
  refine ⟨fun i hi => ?_, ?_⟩
  · rcases after_get (c := c) h1 h2 i with e | e <;> rw [e]
    · exact ho.1 i hi
    · exact hb.1 i hi
  · rcases after_get (c := c) h1 h2 7 with e | e <;> rw [e]
    · exact ho.2
    · exact hb.2
theorem getD_set {s : List (List UInt8)} {i k : Nat} {v : List UInt8} : (s.set k v).getD i [] = if k = i ∧ k < s.length then v else s.getD i [] := by
  rw [List.getD_eq_getElem?_getD, List.getElem?_set, List.getD_eq_getElem?_getD]
  by_cases h : k = i
  · subst h
    rw [if_pos rfl]
    by_cases h2 : k < s.length
    · rw [if_pos h2, if_pos ⟨rfl, h2⟩]; rfl
    · rw [if_neg h2, if_neg (fun h => h2 h.2), List.getElem?_eq_none (by omega)]
  · rw [if_neg h, if_neg (fun e => h e.1)]
/-- Rows of sectors that begin small. -/
structure Rows16 (s : List (List UInt8)) (j : Nat) : Prop where
  len : s.length = 16
  sl : ∀ b ∈ s, b.length = 64
  sure : ∀ i, begins i → Small j (s.getD i [])
theorem Rows16.set {s : List (List UInt8)} {j k : Nat} {v : List UInt8} (h : Rows16 s j) (hv : v.length = 64) (hs : begins k → Small j v) : Rows16 (s.set k v) j := by
  refine ⟨by rw [List.length_set]; exact h.len, fun b hb => ?_, fun i hi => ?_⟩
  · rcases List.mem_or_eq_of_mem_set hb with hb | rfl
    · exact h.sl b hb
    · exact hv
  · rw [getD_set]
    split
    · rename_i e; exact hs (e.1 ▸ hi)
    · exact h.sure i hi
theorem Rows16.get {s : List (List UInt8)} {j k : Nat} (h : Rows16 s j) (hk : k < 16) : (s.getD k []).length = 64 := by
  have := h.len
  rw [List.getD_eq_getElem?_getD, List.getElem?_eq_getElem (by omega)]
  exact h.sl _ (List.getElem_mem _)
theorem flush_rows {j : Nat} : ∀ (ps : List (Int × List UInt8)) (s : List (List UInt8)), Rows16 s j → (∀ q ∈ ps, q.2.length = 64 ∧ (begins q.1.toNat → Small j q.2)) → Rows16 (flushTo s ps) j
  | [], s, h, _ => h
  | q :: ps, s, h, hp => flush_rows ps _ (h.set (hp q List.mem_cons_self).1 (hp q List.mem_cons_self).2) fun r hr => hp r (List.mem_cons_of_mem _ hr)
theorem up_rows {j : Nat} (cs : List UInt8) : ∀ (ps : List (Int × List UInt8)) (n : Nat) (s : List (List UInt8)), Rows16 s j → (∀ q ∈ ps, q.2.length = 64 ∧ 0 ≤ q.1 ∧ q.1 < 16 ∧ (begins q.1.toNat → Small j q.2)) → Rows16 (upGo cs n ps s) j
  | [], n, s, h, _ => h
  | q :: ps, n, s, h, hp => by
    obtain ⟨h1, h2, h3, h4⟩ := hp q List.mem_cons_self
    have hg := h.get (k := q.1.toNat) (by omega)
    exact up_rows cs ps (n + 1) _ (h.set (afterF_length hg h1) fun hb => after_small hg h1 (h.sure _ hb) (h4 hb)) fun r hr => hp r (List.mem_cons_of_mem _ hr)
theorem Tame.rows {S : DS} {j : Nat} (h : Tame S j) : Rows16 S.sure j := ⟨h.len, h.sl, h.sure⟩
theorem Tame.mono {S : DS} {j j' : Nat} (h : Tame S j) (hj : j ≤ j') : Tame S j' := ⟨h.len, h.sl, h.pl, fun i hi => (h.sure i hi).mono hj, fun q hq hb => (h.pend q hq hb).mono hj⟩
theorem Tame.up {S : DS} {j : Nat} (h : Tame S j) (cs : List UInt8) (xs : List Int) (stop : Int) : Tame (upped S cs xs stop) j := by
  have := up_rows cs S.pend 0 S.sure h.rows fun q hq => ⟨(h.pl q hq).1, (h.pl q hq).2.1, (h.pl q hq).2.2, h.pend q hq⟩
  exact ⟨this.len, this.sl, fun q hq => (by cases hq), this.sure, fun q hq => (by cases hq)⟩
theorem tame_fresh : Tame (fresh 16) 0 := ⟨by simp [fresh], fun b hb => (by rw [(List.mem_replicate.1 hb).2]; simp [zeros]), fun q hq => (by cases hq), fun i hi => (by rcases hi with rfl | rfl <;> exact small_zero), fun q hq => (by cases hq)⟩
theorem Tame.doing {S S2 : DS} {j : Nat} (h : Tame S j) (h2 : Tame S2 j) : Tame (doingRes S S2).1 j := by
  unfold doingRes
  split
  · exact h
  · split
    · exact ⟨h.len, h.sl, h.pl, h.sure, h.pend⟩
    · split
      · exact ⟨h.len, h.sl, h.pl, h.sure, h.pend⟩
      · exact h2
theorem Tame.write {S : DS} {j : Nat} (h : Tame S j) {i : Int} {bs : List UInt8} (hi : 0 ≤ i ∧ i < 16) (hb : bs.length = 64) (hs : begins i.toNat → Small j bs) : Tame (writeRes S i bs).1 j := by
  unfold writeRes
  split
  · exact h
  · refine h.doing ⟨h.len, h.sl, fun q hq => ?_, h.sure, fun q hq hbq => ?_⟩
    · rcases List.mem_append.1 hq with hq | hq
      · exact h.pl q hq
      · obtain rfl := List.mem_singleton.1 hq; exact ⟨hb, hi⟩
    · rcases List.mem_append.1 hq with hq | hq
      · exact h.pend q hq hbq
      · obtain rfl := List.mem_singleton.1 hq; exact hs hbq
theorem Tame.flush {S : DS} {j : Nat} (h : Tame S j) : Tame (flushRes S).1 j := by
  have := flush_rows S.pend S.sure h.rows fun q hq => ⟨(h.pl q hq).1, h.pend q hq⟩
  exact h.doing ⟨this.len, this.sl, fun q hq => (by cases hq), this.sure, fun q hq => (by cases hq)⟩
theorem lastW_mem {i : Int} : ∀ {ps : List (Int × List UInt8)} {b : List UInt8}, lastW i ps = some b → ∃ q ∈ ps, q.1 = i ∧ q.2 = b
  | [], b, h => by cases h
  | q :: ps, b, h => by
    unfold lastW at h
    cases hl : lastW i ps with
    | some c =>
      rw [hl] at h
      obtain ⟨r, hr, e1, e2⟩ := lastW_mem hl
      exact ⟨r, List.mem_cons_of_mem _ hr, e1, e2.trans (Option.some.inj h)⟩
    | none =>
      rw [hl] at h
      by_cases e : q.1 = i
      · simp only [e, if_true] at h
        exact ⟨q, List.mem_cons_self, e, Option.some.inj h⟩
      · simp only [e, if_false] at h
        cases h
theorem Tame.read {S : DS} {j : Nat} (h : Tame S j) (hd : S.down = false) {i : Nat} (hb : begins i) : Small j (readRes S (i : Int)).1 ∧ (readRes S (i : Int)).1.length = 64 := by
  have hi : i < 16 := by rcases hb with rfl | rfl <;> omega
  have hlen := h.len
  rw [readRes, if_neg (by simp [hd]), if_pos (by omega)]
  show Small j ((lastW (i : Int) S.pend).getD (S.sure.getD i [])) ∧ ((lastW (i : Int) S.pend).getD (S.sure.getD i [])).length = 64
  cases hl : lastW (i : Int) S.pend with
  | some b =>
    obtain ⟨q, hq, e1, rfl⟩ := lastW_mem hl
    exact ⟨h.pend q hq (by rw [e1, Int.toNat_natCast]; exact hb), (h.pl q hq).1⟩
  | none => exact ⟨h.sure i hb, h.rows.get hi⟩
theorem area_take {S : DS} {a : Nat} (hl : (readRes S (a : Int)).1.length = 64) : ∀ k, (areaB S a (k + 1)).take 8 = (readRes S (a : Int)).1.take 8
  | 0 => by rw [areaB, areaB, List.nil_append]; rfl
  | k + 1 => by
    have ih := area_take hl k
    have h8 : 8 ≤ (areaB S a (k + 1)).length := by
      have := congrArg List.length ih
      simp only [List.length_take, hl] at this
      omega
    rw [areaB, List.take_append_of_le_length h8, ih]
theorem readRec_le (n : Nat) (a : List UInt8) : (readRec n a).1.toNat ≤ numOf a := by
  unfold readRec
  split
  · exact Nat.zero_le _
  · split
    · rw [UInt64.toNat_ofNat']; exact Nat.mod_le _ _
    · exact Nat.zero_le _
theorem Tame.num {S : DS} {j : Nat} (h : Tame S j) (hd : S.down = false) {a : Nat} (ha : begins a) (k : Nat) : (readRec 8 (areaB S a (k + 1))).1.toNat ≤ j := by
  obtain ⟨h1, h2⟩ := h.read hd ha
  refine Nat.le_trans (readRec_le _ _) ?_
  rw [numOf, area_take h2]
  exact small_num h1 (by omega)
theorem Tame.load {S : DS} {s : SS} {j : Nat} (h : Tame S j) (hf : s.first = 0) (hn : s.n = 8) (hs : s.num.toNat ≤ j) : (loadRes S s).1.num.toNat ≤ j := by
  cases hd : S.down with
  | true => rw [loadRes, if_pos hd]; exact hs
  | false =>
    rw [loadRes, if_neg (by simp [hd])]
    unfold loaded
    split
    · show (readRec s.n (areaB S (s.first + s.n) s.n)).1.toNat ≤ j
      rw [hf, hn]; exact h.num hd (.inr rfl) 7
    · show (readRec s.n (areaB S s.first s.n)).1.toNat ≤ j
      rw [hf, hn]; exact h.num hd (.inl rfl) 7
theorem saveGo_tame {S : DS} {j a : Nat} {all : List UInt8} (h : Tame S j) (ha : begins a) (hl : all.length = 64 * 8) (hs : Small j (all.take 64)) : ∀ k, k ≤ 8 → Tame (saveGo S a all k).1 j
  | 0, _ => h
  | k + 1, hk => by
    have ih := saveGo_tame h ha hl hs k (by omega)
    unfold saveGo
    split
    · exact ih
    · refine ih.write ?_ ?_ ?_
      · rcases ha with rfl | rfl <;> omega
      · rw [List.length_take, List.length_drop]; omega
      · intro hb
        rw [Int.toNat_natCast] at hb
        have : k = 0 := by rcases ha with rfl | rfl <;> rcases hb with hb | hb <;> omega
        subst this
        simpa using hs
theorem Tame.save {S : DS} {s : SS} {j : Nat} (h : Tame S j) (hf : s.first = 0) (hn : s.n = 8) (hat : s.at_ ≤ 1) (hs : s.num.toNat ≤ j) (hj : j < 255) (b : List UInt8) : Tame (saveRes S s b).1.1 (j + 1) ∧ (saveRes S s b).1.2.num.toNat ≤ j + 1 := by
  unfold saveRes
  split
  · exact ⟨h.mono (by omega), Nat.le_trans hs (by omega)⟩
  · rename_i hbl
    have hnum : (s.num + 1).toNat = s.num.toNat + 1 := by rw [UInt64.toNat_add]; simp; omega
    have hto : begins (s.first + s.to * s.n) := by
      have := to_le s
      rw [hf, hn]
      rcases (by omega : s.to = 0 ∨ s.to = 1) with e | e <;> rw [e]
      · exact .inl rfl
      · exact .inr rfl
    have hrl := recB_length (n := s.n) (num := s.num + 1) (b := b) (by rw [hn] at hbl ⊢; omega)
    have hsm : Small (j + 1) ((recB s.n (s.num + 1) b).take 64) := by
      rw [recB, recH, List.append_assoc, List.take_append, List.take_of_length_le (by rw [putB_length]; omega)]
      exact small_put (by rw [hnum]; omega) (by omega) _
    have hg : Tame (laid S s b).1 (j + 1) := by
      have := saveGo_tame (h.mono (Nat.le_succ j)) hto (by rw [hrl, hn]) hsm 8 (Nat.le_refl _)
      rw [laid]; rw [hn]; rw [hn] at this; exact this
    split
    · exact ⟨hg, Nat.le_trans hs (by omega)⟩
    · split
      · exact ⟨hg.flush, Nat.le_trans hs (by omega)⟩
      · exact ⟨hg.flush, by show (s.num + 1).toNat ≤ j + 1; omega⟩
end Go.Proofs.YtbgdjdhbejbhkaaDoor
set_option linter.unusedVariables false
set_option linter.unusedSimpArgs false
set_option linter.constructorNameAsVariable false
namespace Go.Proofs.YtbgdjdhbejbhkaaDoor
open Go Go.Eng
section
variable {G : World} {M : Mem} {L R : Own}
theorem u64_mk (n : Nat) (h : n < 18446744073709551616) : ∃ c : UInt64, c.toNat = n := ⟨UInt64.ofNat n, by rw [UInt64.toNat_ofNat', Nat.mod_eq_of_lt h]⟩
theorem div_low {k B q : Nat} (hB : 0 < B) (h1 : k < B * q) (h2 : 0 < q → B * (q - 1) ≤ k) : k / B + 1 = q := by
  have hq : 0 < q := Nat.pos_of_ne_zero fun e => by rw [e] at h1; omega
  have h3 : q - 1 ≤ k / B := (Nat.le_div_iff_mul_le hB).2 (by rw [Nat.mul_comm]; exact h2 hq)
  have h4 : k / B < q := (Nat.div_lt_iff_lt_mul hB).2 (by rw [Nat.mul_comm]; exact h1)
  omega
theorem ReserveAll_spec (hg : ShaG M) (t b : UInt8) :
    Con Tryd.prog 12 #[.int .u8 t.toNat, .int .u8 b.toNat] G M L (fun v M' L' => v = .bool true) noPanic := by
  have ht := t.toNat_lt
  have hb := b.toNat_lt
  refine enter (args := [_, _]) (fn := Tryd.f12) ⟨Tryd.func12, rfl, by kernel_rfl, by kernel_rfl⟩ 126 rfl ?_
  refine x_seq (x_region ?_)
  refine tl_y rfl (y_assign rfl) ?_
  refine tl_nil (.then_normal ?_)
  refine x_seq (x_seq (x_region ?_))
  refine tl_e rfl (e_call' rfl (awake21_spec hg) ?_)
  rintro _ M1 _ hM1 ⟨rfl, rfl⟩
  have hm := hM1
  refine tl_y rfl (y_not rfl) ?_
  refine tl_nil (.then_normal ?_)
  refine x_false rfl (rfl) ?_
  refine x_skip (.then_normal ?_)
  refine x_seq (x_region ?_)
  refine tl_y rfl (y_move (v := .int _ _) rfl) ?_
  refine tl_y rfl (y_convN64 rfl (by omega)) ?_
  refine tl_y rfl (y_remI rfl rfl (by omega)) ?_
  refine tl_y rfl (y_addN64 rfl rfl (by omega)) ?_
  obtain ⟨N, eN⟩ := u64_mk (1 + t.toNat % 60) (by omega)
  rw [show (1 + (t.toNat : Int) % 60) = (N.toNat : Int) by omega]
  refine tl_y rfl (y_assign (v := .int _ _) rfl) ?_
  refine tl_nil (.then_normal ?_)
  refine .sub (F' := [(1, _), (4, _), (5, _)]) (.cons rfl (.cons rfl (.cons rfl .nil))) ?_
  refine x_seq (x_region ?_)
  refine tl_y rfl (y_move (v := .int _ _) rfl) ?_
  refine tl_y rfl (y_convN64 rfl (by omega)) ?_
  refine tl_y rfl (y_remI rfl rfl (by omega)) ?_
  refine tl_y rfl (y_addN64 rfl rfl (by omega)) ?_
  obtain ⟨B, eB⟩ := u64_mk (1 + b.toNat % 70) (by omega)
  rw [show (1 + (b.toNat : Int) % 70) = (B.toNat : Int) by omega]
  refine tl_y rfl (y_assign (v := .int _ _) rfl) ?_
  refine tl_nil (.then_normal ?_)
  refine .sub (F' := [(4, _), (5, _), (6, _)]) (.cons rfl (.cons rfl (.cons rfl .nil))) ?_
  refine x_seq (x_region ?_)
  refine tl_e rfl (e_call' rfl (New_spec 16) ?_)
  intro _ M2 L1 hM2 hv
  replace hm := hm.trans hM2
  rw [if_neg (by omega)] at hv
  obtain ⟨d, ⟨r2, hd2, rfl⟩, rfl⟩ := hv
  refine tl_y rfl (y_move (v := .tuple _) rfl) ?_
  refine tl_y rfl (y_extract rfl) ?_
  refine tl_y rfl (y_extract rfl) ?_
  refine tl_y rfl (y_assign (v := .pointer _) rfl) ?_
  refine tl_y rfl (y_assign (v := .int _ _) rfl) ?_
  refine tl_nil (.then_normal ?_)
  refine .sub (F' := [(4, _), (5, _), (6, _), (7, _)]) (.cons rfl (.cons rfl (.cons rfl (.cons rfl .nil)))) ?_
  refine x_seq (x_seq (x_region ?_))
  refine tl_y rfl (y_move (v := .pointer _) rfl) ?_
  refine tl_y rfl (y_eqNilPtr rfl rfl) ?_
  refine tl_nil (.then_normal ?_)
  refine x_false rfl (rfl) ?_
  refine x_skip (.then_normal ?_)
  refine x_seq (x_region ?_)
  refine tl_y rfl (y_move (v := .pointer _) rfl) ?_
  refine tl_e rfl (e_call' rfl (sNew_ok (S := fresh 16) hd2 0 8 (by omega) (by rw [fresh_len]; omega)) ?_)
  rintro _ M3 _ hM3 ⟨p, rfl, r3, A3, l3, c3, hd3, hb3, rfl⟩
  replace hm := hm.trans hM3
  have hok0 : OkS (fresh 16) (s0 0 8) := okS0 (by omega) (by rw [fresh_len]; omega)
  have hmay : mayB (newX N B) ([] : List UInt8).length = true := mayB_iff.2 (by show 1 ≤ N.toNat ∧ N.toNat ≤ _ ∧ 1 ≤ B.toNat ∧ B.toNat ≤ _ ∧ (0 : UInt64).toNat ≤ N.toNat ∧ 0 ≤ 200; simp; omega)
  obtain ⟨S1, s1, eN1, hlive1, hnum1, hf1, hl1⟩ := live_new hmay
  have hw1 := newC_within (within_fresh 16) (s := s0 0 8) (show (8 : Nat) ≤ 8 by decide) [] N B
  rw [eN1] at hw1
  refine tl_y rfl (y_move (v := .tuple _) rfl) ?_
  refine tl_y rfl (y_extract rfl) ?_
  refine tl_y rfl (y_extract rfl) ?_
  refine tl_y rfl (y_assign (v := .pointer _) rfl) ?_
  refine tl_y rfl (y_assign (v := .int _ _) rfl) ?_
  refine tl_nil (.then_normal ?_)
  refine .sub (F' := [(4, _), (5, _), (6, _), (7, _), (9, _)]) (.cons rfl (.cons rfl (.cons rfl (.cons rfl (.cons rfl .nil))))) ?_
  refine x_seq (x_seq (x_region ?_))
  refine tl_y rfl (y_move (v := .pointer _) rfl) ?_
  refine tl_y rfl (y_eqNilPtr rfl rfl) ?_
  refine tl_nil (.then_normal ?_)
  refine x_false rfl (rfl) ?_
  refine x_skip (.then_normal ?_)
  refine x_seq (x_region ?_)
  refine tl_y rfl (y_move (v := .pointer _) rfl) ?_
  refine tl_y rfl (y_move (v := .int _ _) rfl) ?_
  refine tl_y rfl (y_move (v := .int _ _) rfl) ?_
  refine tl_e rfl (e_call' rfl (cNew_spec (hg.mono hm) hd3 hok0 (within_fresh 16) (by omega) hb3 (show Bytes M3 none 0 0 [] from Row.nil M3 _) N B) ?_)
  intro _ M4 _ hM4 hv
  replace hm := hm.trans hM4
  rw [eN1, if_pos rfl] at hv
  obtain ⟨c, HA, hc, rfl, hh4, r4, A4, l4, c4, hd4, hb4, rfl⟩ := hv
  refine tl_y rfl (y_move (v := .tuple _) rfl) ?_
  refine tl_y rfl (y_extract rfl) ?_
  refine tl_y rfl (y_extract rfl) ?_
  refine tl_y rfl (y_assign (v := .pointer _) rfl) ?_
  refine tl_y rfl (y_assign (v := .int _ _) rfl) ?_
  refine tl_nil (.then_normal ?_)
  refine .sub (F' := [(4, _), (5, _), (6, _), (7, _), (9, _), (11, _), (12, _)]) (.cons rfl (.cons rfl (.cons rfl (.cons rfl (.cons rfl (.cons rfl (.cons rfl .nil))))))) ?_
  refine x_seq (x_seq (x_region ?_))
  refine tl_y rfl (y_move (v := .pointer _) rfl) ?_
  refine tl_y rfl (y_eqNilPtr rfl rfl) ?_
  refine tl_y rfl (y_move (v := .bool _) rfl) ?_
  refine tl_set (s := 56) (u := .bool false) rfl (rfl) ?_
  refine tl_y rfl (y_move (v := .int _ _) rfl) ?_
  refine tl_y rfl (y_neq rfl rfl) ?_
  refine tl_y rfl (y_pickF rfl rfl) ?_
  refine tl_nil (.then_normal ?_)
  refine .sub (F' := [(4, _), (5, _), (6, _), (7, _), (9, _), (11, _), (59, _)]) (.cons rfl (.cons rfl (.cons rfl (.cons rfl (.cons rfl (.cons rfl (.cons rfl .nil))))))) ?_
  refine x_false rfl (rfl) ?_
  refine x_skip (.then_normal ?_)
  refine x_seq (x_seq (x_region ?_))
  refine tl_y rfl (y_assign rfl) ?_
  refine tl_nil (.then_normal ?_)
  refine x_block ?_
  refine x_loop (I := fun m' F D M5 L5 => ∃ (k : Nat) (S : DS) (s : SS) (x : Cn) (q : Nat) (r : DRep) (A5 : Option Addr) (l5 c5 : Nat), m' = N.toNat - k ∧ k ≤ N.toNat ∧ Le M M5 ∧ Live S s x [] ∧ S.within (9 * k + 9) ∧ x.total = N ∧ x.batch = B ∧ x.retired = false ∧ x.next.toNat = k ∧ s.num.toNat = 1 + q ∧ x.reserved.toNat = min N.toNat (B.toNat * q) ∧ k ≤ B.toNat * q ∧ q ≤ k ∧ (0 < q → B.toNat * (q - 1) < k) ∧ IsDisk M5 r S ∧ Bytes M5 A5 l5 c5 s.b ∧ Bytes M5 HA 0 hc [] ∧ D = [] ∧ L5 = dL d r S (sL p d s A5 l5 c5 :: cL c x HA 0 hc p :: L) ∧ F = [(4, .bool false), (5, .int .u64 (N.toNat : Int)), (6, .int .u64 (B.toNat : Int)), (7, .pointer (some ⟨d, 0, none⟩)), (9, .pointer (some ⟨p, 0, none⟩)), (11, .pointer (some ⟨c, 0, none⟩)), (13, .int .u64 k)]) (N.toNat) (F0 := [(4, _), (5, _), (6, _), (7, _), (9, _), (11, _), (13, _)]) ?_ (.cons rfl (.cons rfl (.cons rfl (.cons rfl (.cons rfl (.cons rfl (.cons rfl .nil))))))) ?_  -- slots [4, 5, 6, 7, 9, 11, 13], written [4, 13]
  · exact ⟨0, S1, s1, newX N B, 0, r4, A4, l4, c4, rfl, by omega, hm, hlive1, hw1, rfl, rfl, rfl, rfl, by rw [hnum1]; rfl, by simp [newX], by omega, by omega, by omega, hd4, hb4, hh4, rfl, rfl, rfl⟩
  rintro m _ _ M5 L5 ⟨k, S, s, x, q, r, A5, l5, c5, rfl, hk, hM5, hlv, hw, hxt, hxb, hxr, hxn, hnum, hres, hkq, hqk, hq, hd5, hb5, hh5, rfl, rfl, rfl⟩
  refine x_seq (x_seq (x_region ?_))
  refine tl_y rfl (y_move (v := .int _ _) rfl) ?_
  refine tl_y rfl (y_move (v := .int _ _) rfl) ?_
  refine tl_y rfl (y_lss rfl rfl) ?_
  refine tl_nil (.then_normal ?_)
  refine x_cond rfl (fun hc5 => ?_) (fun hc5 => ?_)
  ·
    have hkN : k < N.toNat := by omega
    obtain ⟨S', s', x', eT, hlv', hn', ht', hb', hr', hf', hsl', hcase⟩ := hlv.take hxr (by rw [hnum]; omega) (by rw [hxn, hxt]; exact hkN)
    have hw' := takeC_within hw (s := s) (by rw [hlv.n]; omega) x []
    rw [eT] at hw'
    refine x_skip (.then_normal ?_)
    refine x_seq ?_
    refine x_block ?_
    refine x_seq (x_region ?_)
    refine tl_y rfl (y_move (v := .pointer _) rfl) ?_
    refine tl_e rfl (e_call' rfl (Take_spec (hg.mono hM5) hd5 hlv.bears.ok hw (by omega) hb5 hh5 x) ?_)
    rintro _ M6 _ hM6 ⟨⟨r6, A6, l6, c6, hd6, hb6, rfl⟩, rfl⟩
    obtain ⟨e1, e2, e3, e4, e5⟩ : (takeC S s x []).1.1.1 = S' ∧ (takeC S s x []).1.1.2 = s' ∧ (takeC S s x []).1.2 = x' ∧ (takeC S s x []).2.1 = x.next ∧ (takeC S s x []).2.2 = 0 := by rw [eT]; exact ⟨rfl, rfl, rfl, rfl, rfl⟩
    rw [e1] at hd6
    rw [e2] at hb6
    rw [e1, e2, e3, e4, e5]
    have hBp : 0 < B.toNat := by omega
    have hmul : B.toNat * (q + 1) = B.toNat * q + B.toNat := Nat.mul_succ _ _
    obtain ⟨q', hq1, hq2, hq3, hq4, hq5⟩ : ∃ q', s'.num.toNat = 1 + q' ∧ x'.reserved.toNat = min N.toNat (B.toNat * q') ∧ k < B.toNat * q' ∧ q' ≤ k + 1 ∧ (0 < q' → B.toNat * (q' - 1) ≤ k) := by
      rcases hcase with ⟨h1, rfl, rfl, h4⟩ | ⟨h1, h2, h3⟩
      · exact ⟨q, hnum, by rw [h4]; exact hres, by omega, by omega, fun h => by have := hq h; omega⟩
      · refine ⟨q + 1, by omega, ?_, by omega, by omega, fun _ => ?_⟩
        · rw [h3, hres, hxt, hxb, hmul]; omega
        · rw [Nat.add_sub_cancel]; omega
    have hdiv := div_low hBp hq3 hq5
    have hm6 := hM5.trans hM6
    have hh6 := hh5.mono hM6
    have hbl6 : s'.b.length ≤ 140737488355328 := by have := hlv'.bears.ok.b; rw [hlv'.n] at this; omega
    refine tl_y rfl (y_move (v := .tuple _) rfl) ?_
    refine tl_y rfl (y_extract rfl) ?_
    refine tl_y rfl (y_extract rfl) ?_
    refine tl_y rfl (y_assign (v := .int _ _) rfl) ?_
    refine tl_y rfl (y_assign (v := .int _ _) rfl) ?_
    refine tl_nil (.then_normal ?_)
    refine .sub (F' := [(4, _), (5, _), (6, _), (7, _), (9, _), (11, _), (13, _), (14, _), (15, _)]) (.cons rfl (.cons rfl (.cons rfl (.cons rfl (.cons rfl (.cons rfl (.cons rfl (.cons rfl (.cons rfl .nil))))))))) ?_
    refine x_seq (x_region ?_)
    refine tl_y rfl (y_move (v := .pointer _) rfl) ?_
    refine tl_e rfl (e_call' rfl (Con.to (sL p d s' A6 l6 c6 :: (d, .cells (List.toArray (dcells r6 S')) 134 (0, 0)) :: (r6.E1 ++ (r6.E2 ++ (cL c x' HA 0 hc p :: L)))) inferInstance (Now_spec hb6 hbl6)) ?_)
    rintro _ M7 _ hM7 ⟨rfl, A7, c7, rfl, hA7⟩
    have hm7 := hm6.trans hM7
    refine .to (dL d r6 S' (sL p d s' A6 l6 c6 :: cL c x' HA 0 hc p :: L)) inferInstance ?_
    refine tl_y rfl (y_move (v := .tuple _) rfl) ?_
    refine tl_y rfl (y_extract rfl) ?_
    refine tl_y rfl (y_extract rfl) ?_
    refine tl_y rfl (y_assign (v := .slice _ _ _) rfl) ?_
    refine tl_y rfl (y_assign (v := .int _ _) rfl) ?_
    refine tl_nil (.then_normal ?_)
    refine .sub (F' := [(4, _), (5, _), (6, _), (7, _), (9, _), (11, _), (13, _), (14, _), (15, _), (17, _)]) (.cons rfl (.cons rfl (.cons rfl (.cons rfl (.cons rfl (.cons rfl (.cons rfl (.cons rfl (.cons rfl (.cons rfl .nil)))))))))) ?_
    refine x_seq (x_region ?_)
    refine tl_y rfl (y_move (v := .int _ _) rfl) ?_
    refine tl_y rfl (y_neq rfl rfl) ?_
    refine tl_y rfl (y_move (v := .bool _) rfl) ?_
    refine tl_set (s := 77) (u := .bool false) rfl (rfl) ?_
    refine tl_y rfl (y_move (v := .int _ _) rfl) ?_
    refine tl_y rfl (y_move (v := .int _ _) rfl) ?_
    refine tl_y rfl (y_neq rfl rfl) ?_
    refine tl_y rfl (y_pickF rfl rfl) ?_
    refine tl_y rfl (y_move (v := .bool _) rfl) ?_
    refine tl_set (s := 82) (u := .bool false) rfl (by rw [decide_eq_false]; omega) ?_
    refine tl_y rfl (y_move (v := .int _ _) rfl) ?_
    refine tl_y rfl (y_move (v := .int _ _) rfl) ?_
    refine tl_y rfl (y_move (v := .int _ _) rfl) ?_
    refine tl_y rfl (y_quoN64 rfl rfl (by omega)) ?_
    refine tl_y rfl (y_addN64 rfl rfl (by omega)) ?_
    refine tl_y rfl (y_neq rfl rfl) ?_
    refine tl_y rfl (y_pickF rfl rfl) ?_
    refine tl_nil (.then_normal ?_)
    refine .sub (F' := [(4, _), (5, _), (6, _), (7, _), (9, _), (11, _), (13, _), (89, _)]) (.cons rfl (.cons rfl (.cons rfl (.cons rfl (.cons rfl (.cons rfl (.cons rfl (.cons rfl .nil)))))))) ?_
    refine x_false rfl (by rw [decide_eq_false]; omega) ?_
    refine x_skip (.block_normal (.then_normal ?_))
    refine x_region ?_
    refine tl_y rfl (y_move (v := .int _ _) rfl) ?_
    refine tl_y rfl (y_addN64 rfl rfl (by omega)) ?_
    refine tl_y rfl (y_assign (v := .int _ _) rfl) ?_
    refine tl_nil (.loop_next (m' := N.toNat - (k + 1)) (by omega) (F' := [(4, _), (5, _), (6, _), (7, _), (9, _), (11, _), (13, _)]) (.cons rfl (.cons rfl (.cons rfl (.cons rfl (.cons rfl (.cons rfl (.cons rfl .nil))))))) ?_)
    exact ⟨k + 1, S', s', x', q', r6, A6, l6, c6, rfl, by omega, hm7, hlv', within_mono hw' (by omega), by rw [ht']; exact hxt, by rw [hb']; exact hxb, by rw [hr']; exact hxr, by omega, hq1, hq2, by omega, hq4, (fun h => by have := hq5 h; omega), hd6.mono hM7, hb6.mono hM7, hh6.mono hM7, rfl, rfl, rfl⟩
  ·
    obtain rfl : k = N.toNat := by omega
    have hxt' : x.next = x.total := UInt64.toNat_inj.1 (by rw [hxn, hxt])
    have eO := take_over (S := S) (s := s) (head := []) hxr hxt'
    obtain ⟨e1, e2, e3, e4, e5⟩ : (takeC S s x []).1.1.1 = S ∧ (takeC S s x []).1.1.2 = s ∧ (takeC S s x []).1.2 = x ∧ (takeC S s x []).2.1 = 0 ∧ (takeC S s x []).2.2 = 9 := by rw [eO]; exact ⟨rfl, rfl, rfl, rfl, rfl⟩
    refine x_exit (.then_exit (.loop_exit (.block_exit (.then_normal ?_))))
    refine .sub (F' := [(5, _), (7, _), (11, _)]) (.cons rfl (.cons rfl (.cons rfl .nil))) ?_
    refine x_seq (x_region ?_)
    refine tl_y rfl (y_move (v := .pointer _) rfl) ?_
    refine tl_e rfl (e_call' rfl (Count_spec hd5) ?_)
    rintro _ _ _ hM8 ⟨rfl, rfl, rfl⟩
    refine tl_y rfl (y_move (v := .tuple _) rfl) ?_
    refine tl_y rfl (y_extract rfl) ?_
    refine tl_y rfl (y_extract rfl) ?_
    refine tl_y rfl (y_assign (v := .int _ _) rfl) ?_
    refine tl_y rfl (y_assign (v := .int _ _) rfl) ?_
    refine tl_nil (.then_normal ?_)
    refine .sub (F' := [(5, _), (7, _), (11, _), (18, _)]) (.cons rfl (.cons rfl (.cons rfl (.cons rfl .nil)))) ?_
    refine x_seq (x_region ?_)
    refine tl_y rfl (y_move (v := .pointer _) rfl) ?_
    refine tl_e rfl (e_call' rfl (Take_spec (hg.mono hM5) hd5 hlv.bears.ok hw (by omega) hb5 hh5 x) ?_)
    rintro _ M9 _ hM9 ⟨⟨r9, A9, l9, c9, hd9, hb9, rfl⟩, rfl⟩
    rw [e1] at hd9
    rw [e2] at hb9
    rw [e1, e2, e3, e4, e5]
    refine tl_y rfl (y_move (v := .tuple _) rfl) ?_
    refine tl_y rfl (y_extract rfl) ?_
    refine tl_y rfl (y_extract rfl) ?_
    refine tl_y rfl (y_assign (v := .int _ _) rfl) ?_
    refine tl_y rfl (y_assign (v := .int _ _) rfl) ?_
    refine tl_nil (.then_normal ?_)
    refine .sub (F' := [(5, _), (7, _), (11, _), (18, _), (21, _)]) (.cons rfl (.cons rfl (.cons rfl (.cons rfl (.cons rfl .nil))))) ?_
    refine x_seq (x_region ?_)
    refine tl_y rfl (y_move (v := .pointer _) rfl) ?_
    refine tl_e rfl (e_call' rfl (Count_spec hd9) ?_)
    rintro _ _ _ _ ⟨rfl, rfl, rfl⟩
    refine tl_y rfl (y_move (v := .tuple _) rfl) ?_
    refine tl_y rfl (y_extract rfl) ?_
    refine tl_y rfl (y_extract rfl) ?_
    refine tl_y rfl (y_assign (v := .int _ _) rfl) ?_
    refine tl_y rfl (y_assign (v := .int _ _) rfl) ?_
    refine tl_nil (.then_normal ?_)
    refine .sub (F' := [(5, _), (11, _), (18, _), (21, _), (22, _)]) (.cons rfl (.cons rfl (.cons rfl (.cons rfl (.cons rfl .nil))))) ?_
    refine x_seq (x_region ?_)
    refine tl_y rfl (y_move (v := .int _ _) rfl) ?_
    refine tl_y rfl (y_eql rfl rfl) ?_
    refine tl_y rfl (y_move (v := .bool _) rfl) ?_
    refine tl_set (s := 107) (u := .bool true) rfl (by simp) ?_
    refine tl_y rfl (y_move (v := .int _ _) rfl) ?_
    refine tl_y rfl (y_move (v := .int _ _) rfl) ?_
    refine tl_y rfl (y_eql rfl rfl) ?_
    refine tl_y rfl (y_pickT rfl rfl) ?_
    refine tl_y rfl (y_move (v := .bool _) rfl) ?_
    refine tl_set (s := 112) (u := .bool true) rfl (by simp) ?_
    refine tl_y rfl (y_move (v := .pointer _) rfl) ?_
    refine tl_e rfl (e_call' rfl (Con.bring c inferInstance (State_spec x)) ?_)
    rintro _ _ _ _ ⟨rfl, rfl, rfl⟩
    refine tl_y rfl (y_field rfl) ?_
    refine tl_y rfl (y_move (v := .int _ _) rfl) ?_
    refine tl_y rfl (y_eql rfl rfl) ?_
    refine tl_y rfl (y_pickT rfl rfl) ?_
    refine tl_y rfl (y_move (v := .bool _) rfl) ?_
    refine tl_set (s := 119) (u := .bool true) rfl (by rw [decide_eq_true]; rw [hxn]) ?_
    refine tl_y rfl (y_move (v := .pointer _) rfl) ?_
    refine tl_e rfl (e_call' rfl (State_spec x) ?_)
    rintro _ _ _ _ ⟨rfl, rfl, rfl⟩
    refine tl_y rfl (y_field rfl) ?_
    refine tl_y rfl (y_move (v := .int _ _) rfl) ?_
    refine tl_y rfl (y_eql rfl rfl) ?_
    refine tl_y rfl (y_pickT rfl rfl) ?_
    refine tl_y rfl (y_assign (v := .bool _) rfl) ?_
    refine tl_nil (.then_normal ?_)
    refine .sub (F' := [(4, _)]) (.cons rfl .nil) ?_
    refine x_ret (ret1 rfl rfl (hM5.trans hM9) (by rw [decide_eq_true]; rw [hres]; omega))
end
end Go.Proofs.YtbgdjdhbejbhkaaDoor
