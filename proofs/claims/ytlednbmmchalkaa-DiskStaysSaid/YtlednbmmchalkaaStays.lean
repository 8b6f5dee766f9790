/-
Contracts of functions, each proved by a walk through its code.
-/
import Derived.Test.YtlednbmmchalkaaStaysPure
set_option linter.unusedVariables false
set_option linter.unusedSimpArgs false
namespace Go.Proofs.Ytlednbmmchalkaa
open Go Go.Eng
theorem BRows.nils (M : Mem) : ∀ n, BRows M (List.replicate n (.slice none 0 0)) (List.replicate n [])
  | 0 => .nil
  | n + 1 => by rw [List.replicate_succ, List.replicate_succ]; exact .cons (Row.nil _ _) (BRows.nils M n)
theorem fill_step (K i : Nat) (z : List UInt8) (h : i < K) : (List.replicate i z ++ List.replicate (K - i) []).set i z = List.replicate (i + 1) z ++ List.replicate (K - (i + 1)) [] := by
  obtain ⟨d, rfl⟩ : ∃ d, K = i + 1 + d := ⟨K - (i + 1), by omega⟩
  rw [List.set_append_right _ _ (by simp), show i + 1 + d - i = d + 1 by omega, show i + 1 + d - (i + 1) = d by omega]
  rw [List.length_replicate, Nat.sub_self, List.replicate_succ, List.set_cons_zero, List.replicate_succ', List.append_assoc]
  rfl
section
variable {G : World} {M : Mem} {R : Own}
abbrev tabs (b1 b2 : Nat) (cv tv : List Value) (R : Own) : Own := (b2, .cells tv.toArray 34 (0, 0)) :: (b1, .cells cv.toArray 34 (0, 0)) :: R
theorem DiskStays_spec (x : UInt8) {A : Option Addr} {n c : Nat} {vs : List Value} {as_ : List ActV} (hrow : Row M 7 A n c vs) (hacts : Acts M vs as_) :
    Con Try.prog 7 #[.int .u8 x.toNat, .slice A n c] G M R (fun v M' L' => v = .bool true) noPanic := by
  have hx := x.toNat_lt
  have hal := hacts.len
  have hvl := hrow.len
  have hrm := hrow.max
  have hrl := hrow.le
  refine enter (args := [_, _]) (fn := Try.f7) ⟨Try.func7, rfl, by kernel_rfl, by kernel_rfl⟩ 211 rfl ?_
  refine x_seq (x_region ?_)
  refine tl_y rfl (y_assign rfl) ?_
  refine tl_nil (.then_normal ?_)
  refine x_seq (x_seq (x_region ?_))
  refine tl_e rfl (e_call' rfl awake_spec ?_)
  rintro _ M1 L1 hM1 ⟨rfl, rfl⟩
  have hm := hM1
  refine tl_y rfl (y_not rfl) ?_
  refine tl_nil (.then_normal ?_)
  refine x_false rfl (rfl) ?_
  refine x_skip (.then_normal ?_)
  refine x_seq (x_region ?_)
  refine tl_y rfl (y_move (v := .int _ _) rfl) ?_
  refine tl_y rfl (y_convI rfl (by omega)) ?_
  refine tl_y rfl (y_remI rfl rfl (by omega)) ?_
  refine tl_y rfl (y_addI rfl rfl (by omega)) ?_
  refine tl_y rfl (y_assign (v := .int _ _) rfl) ?_
  obtain ⟨K, hK, hK0, hK20⟩ : ∃ K : Nat, 1 + (x.toNat : Int) % 20 = K ∧ 0 < K ∧ K ≤ 20 := ⟨(1 + (x.toNat : Int) % 20).toNat, by omega, by omega, by omega⟩
  rw [hK]
  refine tl_nil (.then_normal ?_)
  refine .sub (F' := [(1, _), (4, _), (5, _)]) (.cons rfl (.cons rfl (.cons rfl .nil))) ?_
  refine x_seq (x_region ?_)
  refine tl_y rfl (y_move (v := .int _ _) rfl) ?_
  refine tl_e rfl (e_call' rfl (New_spec _) ?_)
  intro _ M2 L2 hM2 hv
  replace hm := hm.trans hM2
  rw [if_neg (by omega)] at hv
  obtain ⟨p, ⟨r2, hd2, rfl⟩, rfl⟩ := hv
  simp only [Int.toNat_natCast] at hd2 ⊢
  refine tl_y rfl (y_move (v := .tuple _) rfl) ?_
  refine tl_y rfl (y_extract rfl) ?_
  refine tl_y rfl (y_extract rfl) ?_
  refine tl_y rfl (y_assign (v := .pointer _) rfl) ?_
  refine tl_y rfl (y_assign (v := .int _ _) rfl) ?_
  refine tl_nil (.then_normal ?_)
  refine .sub (F' := [(1, _), (4, _), (5, _), (6, _), (7, _)]) (.cons rfl (.cons rfl (.cons rfl (.cons rfl (.cons rfl .nil))))) ?_
  refine x_seq (x_seq (x_region ?_))
  refine tl_y rfl (y_move (v := .pointer _) rfl) ?_
  refine tl_y rfl (y_eqNilPtr rfl rfl) ?_
  refine tl_y rfl (y_move (v := .bool _) rfl) ?_
  refine tl_set (s := 32) (u := .bool false) rfl (rfl) ?_
  refine tl_y rfl (y_move (v := .int _ _) rfl) ?_
  refine tl_y rfl (y_neq rfl rfl) ?_
  refine tl_y rfl (y_pickF rfl rfl) ?_
  refine tl_nil (.then_normal ?_)
  refine .sub (F' := [(1, _), (4, _), (5, _), (6, _), (35, _)]) (.cons rfl (.cons rfl (.cons rfl (.cons rfl (.cons rfl .nil))))) ?_
  refine x_false rfl (rfl) ?_
  refine x_skip (.then_normal ?_)
  refine x_seq (x_region ?_)
  refine tl_y rfl (y_move (v := .int _ _) rfl) ?_
  refine tl_e rfl (e_make1 rfl rfl (by omega) (by omega) (by omega) (by omega) (fun b1 => ?_))
  simp only [Int.toNat_natCast]
  refine tl_y rfl (y_assign (v := .slice _ _ _) rfl) ?_
  refine tl_nil (.then_normal ?_)
  refine x_seq (x_region ?_)
  refine tl_y rfl (y_move (v := .int _ _) rfl) ?_
  refine tl_e rfl (e_make1 rfl rfl (by omega) (by omega) (by omega) (by omega) (fun b2 => ?_))
  simp only [Int.toNat_natCast]
  refine tl_y rfl (y_assign (v := .slice _ _ _) rfl) ?_
  refine tl_nil (.then_normal ?_)
  refine .sub (F' := [(1, _), (4, _), (5, _), (6, _), (8, _), (9, _)]) (.cons rfl (.cons rfl (.cons rfl (.cons rfl (.cons rfl (.cons rfl .nil)))))) ?_
  refine x_seq (x_seq (x_region ?_))
  refine tl_y rfl (y_assign rfl) ?_
  refine tl_nil (.then_normal ?_)
  refine x_block ?_
  refine .to (dL p r2 (fresh K) (tabs b1 b2 (List.replicate K (.slice none 0 0)) (List.replicate K (.slice none 0 0)) R)) inferInstance ?_
  refine x_loop (I := fun m' F D M1 L1 => ∃ (i : Nat) (cv tv : List Value), m' = K - i ∧ i ≤ K ∧ Le M2 M1 ∧ BRows M1 cv (List.replicate i zeros ++ List.replicate (K - i) []) ∧ BRows M1 tv (List.replicate i zeros ++ List.replicate (K - i) []) ∧ D = [] ∧ L1 = dL p r2 (fresh K) (tabs b1 b2 cv tv R) ∧ F = [(1, .slice A n c), (4, .bool false), (5, .int .i64 K), (6, .pointer (some ⟨p, 0, none⟩)), (8, .slice (some ⟨b1, 0, none⟩) K K), (9, .slice (some ⟨b2, 0, none⟩) K K), (10, .int .i64 i)]) (K) (F0 := [(1, _), (4, _), (5, _), (6, _), (8, _), (9, _), (10, _)]) ?_ (.cons rfl (.cons rfl (.cons rfl (.cons rfl (.cons rfl (.cons rfl (.cons rfl .nil))))))) ?_  -- slots [1, 4, 5, 6, 8, 9, 10], written [10]
  · exact ⟨0, _, _, rfl, by omega, Le.refl _, by simpa using BRows.nils _ K, by simpa using BRows.nils _ K, rfl, rfl, rfl⟩
  rintro m _ _ M3 L3 ⟨i, cv, tv, rfl, hi, hM3, hcv, htv, rfl, rfl, rfl⟩
  refine x_seq (x_seq (x_region ?_))
  refine tl_y rfl (y_move (v := .int _ _) rfl) ?_
  refine tl_y rfl (y_move (v := .int _ _) rfl) ?_
  refine tl_y rfl (y_lss rfl rfl) ?_
  refine tl_nil (.then_normal ?_)
  refine x_cond rfl (fun hc3 => ?_) (fun hc3 => ?_)
  ·
    have hiK : i < K := by omega
    have hcl := hcv.len
    have htl := htv.len
    simp only [List.length_append, List.length_replicate] at hcl htl
    refine x_skip (.then_normal ?_)
    refine x_seq ?_
    refine x_block ?_
    refine x_seq (x_region ?_)
    refine tl_y rfl (y_move (v := .slice _ _ _) rfl) ?_
    refine tl_y rfl (y_move (v := .int _ _) rfl) ?_
    refine tl_e rfl (e_make1 rfl rfl (by omega) (by omega) (by omega) (by omega) (fun b3 => ?_))
    refine tl_y rfl (y_indexAddr rfl rfl (by omega)) ?_
    refine tl_e rfl (e_storeAt (c := cv) rfl rfl rfl inferInstance (by omega) inferInstance ?_)
    simp only [Nat.zero_add, Nat.mul_one, Int.toNat_natCast]
    refine tl_nil (.then_normal ?_)
    refine .sub (F' := [(1, _), (4, _), (5, _), (6, _), (8, _), (9, _), (10, _)]) (.cons rfl (.cons rfl (.cons rfl (.cons rfl (.cons rfl (.cons rfl (.cons rfl .nil))))))) ?_
    refine x_region ?_
    refine tl_y rfl (y_move (v := .slice _ _ _) rfl) ?_
    refine tl_y rfl (y_move (v := .int _ _) rfl) ?_
    refine tl_e rfl (e_make1 rfl rfl (by omega) (by omega) (by omega) (by omega) (fun b4 => ?_))
    refine tl_y rfl (y_indexAddr rfl rfl (by omega)) ?_
    refine tl_e rfl (e_storeAt (c := tv) rfl rfl rfl inferInstance (by omega) inferInstance ?_)
    simp only [Nat.zero_add, Nat.mul_one, Int.toNat_natCast]
    refine tl_nil (.block_normal (.then_normal ?_))
    refine .sub (F' := [(1, _), (4, _), (5, _), (6, _), (8, _), (9, _), (10, _)]) (.cons rfl (.cons rfl (.cons rfl (.cons rfl (.cons rfl (.cons rfl (.cons rfl .nil))))))) ?_
    refine x_region ?_
    refine .pub b3 inferInstance (fun M4 hM4 hb3 => ?_)
    refine .pub b4 inferInstance (fun M5 hM5 hb4 => ?_)
    refine tl_y rfl (y_move (v := .int _ _) rfl) ?_
    refine tl_y rfl (y_addI rfl rfl (by omega)) ?_
    refine tl_y rfl (y_assign (v := .int _ _) rfl) ?_
    refine tl_nil (.loop_next (m' := K - (i + 1)) (by omega) (F' := [(1, _), (4, _), (5, _), (6, _), (8, _), (9, _), (10, _)]) (.cons rfl (.cons rfl (.cons rfl (.cons rfl (.cons rfl (.cons rfl (.cons rfl .nil))))))) ?_)
    exact ⟨i + 1, _, _, rfl, by omega, hM3.trans (hM4.trans hM5), by rw [← fill_step K i zeros hiK]; exact (hcv.mono (hM4.trans hM5)).set ((Bytes.zeros hb3 (by omega)).mono hM5) i, by rw [← fill_step K i zeros hiK]; exact (htv.mono (hM4.trans hM5)).set (Bytes.zeros hb4 (by omega)) i, rfl, rfl, rfl⟩
  ·
    have hiK : i = K := by omega
    rw [hiK, Nat.sub_self, List.replicate_zero, List.append_nil] at hcv htv
    replace hm := hm.trans hM3
    refine x_exit (.then_exit (.loop_exit (.block_exit (.then_normal ?_))))
    refine .sub (F' := [(1, _), (4, _), (5, _), (6, _), (8, _), (9, _)]) (.cons rfl (.cons rfl (.cons rfl (.cons rfl (.cons rfl (.cons rfl .nil)))))) ?_
    refine x_seq (x_seq (x_region ?_))
    refine tl_y rfl (y_assign rfl) ?_
    refine tl_nil (.then_normal ?_)
    refine x_block ?_
    refine x_loop (I := fun m' F D M1 L1 => ∃ (m : Nat) (S : DS) (rd : DRep) (calm last : List (List UInt8)) (cv tv : List Value), m' = 80 - m ∧ m ≤ 80 ∧ Le M M1 ∧ S.within m ∧ IsDisk M1 rd S ∧ SInv K calm last S.sure S.pend ∧ BRows M1 cv calm ∧ BRows M1 tv last ∧ D = [] ∧ L1 = dL p rd S (tabs b1 b2 cv tv R) ∧ F = [(1, .slice A n c), (4, .bool false), (5, .int .i64 K), (6, .pointer (some ⟨p, 0, none⟩)), (8, .slice (some ⟨b1, 0, none⟩) K K), (9, .slice (some ⟨b2, 0, none⟩) K K), (11, .int .i64 m)]) (80) (F0 := [(1, _), (4, _), (5, _), (6, _), (8, _), (9, _), (11, _)]) ?_ (.cons rfl (.cons rfl (.cons rfl (.cons rfl (.cons rfl (.cons rfl (.cons rfl .nil))))))) ?_  -- slots [1, 4, 5, 6, 8, 9, 11], written [4, 11]
    · exact ⟨0, fresh K, r2, _, _, cv, tv, rfl, by omega, hm, within_fresh _, hd2.mono hM3, SInv.up (s := List.replicate K zeros) (by rw [List.length_replicate]), hcv, htv, rfl, rfl, rfl⟩
    rintro m _ _ M4 L4 ⟨m, S, rd, calm, last, cv, tv, rfl, hm80, hm4, hS, hd, hI, hcv, htv, rfl, rfl, rfl⟩
    refine x_seq (x_seq (x_region ?_))
    refine tl_y rfl (y_move (v := .int _ _) rfl) ?_
    refine tl_y rfl (y_move (v := .slice _ _ _) rfl) ?_
    refine tl_y rfl (y_len rfl) ?_
    refine tl_y rfl (y_lss rfl rfl) ?_
    refine tl_y rfl (y_move (v := .bool _) rfl) ?_
    refine tl_cases (s := 57) rfl (fun hk2 => ?_) (fun hk2 => ?_)
    ·
      have hkn : m < n := by omega
      obtain ⟨g, o, rfl, hcn⟩ := (hrow.mono hm4).cellsN (by omega)
      obtain ⟨a, Ac, nc, cc, Af, nf, cf, hget, hcs, hfs⟩ := hacts.get m (by omega)
      have hce := fun L => hcn L (m * 7) 7 (by omega)
      rw [hget] at hce
      replace hcs := hcs.mono hm4
      replace hfs := hfs.mono hm4
      have hB := hS
      obtain ⟨q1, q2, q3⟩ := hB
      have hcl := hcv.len
      have htl := htv.len
      have hkl := hI.kl
      have hcl' := hI.cl
      have hll' := hI.ll
      refine tl_y rfl (y_move (v := .int _ _) rfl) ?_
      refine tl_y rfl (y_lss rfl rfl) ?_
      refine tl_y rfl (y_pickT rfl rfl) ?_
      refine tl_nil (.then_normal ?_)
      refine .sub (F' := [(1, _), (4, _), (5, _), (6, _), (8, _), (9, _), (11, _), (60, _)]) (.cons rfl (.cons rfl (.cons rfl (.cons rfl (.cons rfl (.cons rfl (.cons rfl (.cons rfl .nil)))))))) ?_
      refine x_cond rfl (fun hc4 => ?_) (fun hc4 => ?_)
      ·
        refine x_skip (.then_normal ?_)
        refine x_seq ?_
        refine x_block ?_
        refine x_seq (x_region ?_)
        refine tl_y rfl (y_move (v := .slice _ _ _) rfl) ?_
        refine tl_y rfl (y_move (v := .int _ _) rfl) ?_
        refine tl_y rfl (y_indexAddr rfl rfl (by omega)) ?_
        refine tl_y rfl (y_loadAgg rfl rfl (.at_ (hce _) (by omega))) ?_
        refine tl_e rfl (e_alloc (fun b5 => ?_))
        refine tl_e rfl (e_store rfl rfl (by rfl) (by rfl) inferInstance inferInstance inferInstance ?_)
        refine tl_nil (.then_normal ?_)
        refine .sub (F' := [(1, _), (4, _), (5, _), (6, _), (8, _), (9, _), (11, _), (12, _)]) (.cons rfl (.cons rfl (.cons rfl (.cons rfl (.cons rfl (.cons rfl (.cons rfl (.cons rfl .nil)))))))) ?_
        refine x_seq (x_seq (x_region ?_))
        refine tl_y rfl (y_fieldAddr rfl) ?_
        refine tl_y rfl (y_load rfl rfl (.own inferInstance inferInstance)) ?_
        refine tl_y rfl (y_len rfl) ?_
        refine tl_y rfl (y_gtr rfl rfl) ?_
        refine tl_y rfl (y_move (v := .bool _) rfl) ?_
        refine tl_cases (s := 71) rfl (fun hk3 => ?_) (fun hk3 => ?_)
        ·
          refine tl_skip rfl ?_
          refine tl_skip rfl ?_
          refine tl_skip rfl ?_
          refine tl_skip rfl ?_
          refine tl_skip rfl ?_
          refine tl_y rfl (y_pickT rfl rfl) ?_
          refine tl_nil (.then_normal ?_)
          refine .sub (F' := [(1, _), (4, _), (5, _), (6, _), (8, _), (9, _), (11, _), (12, _), (77, _)]) (.cons rfl (.cons rfl (.cons rfl (.cons rfl (.cons rfl (.cons rfl (.cons rfl (.cons rfl (.cons rfl .nil))))))))) ?_
          refine x_true rfl rfl ?_
          refine x_seq (x_region ?_)
          refine tl_y rfl (y_assign rfl) ?_
          refine tl_nil (.then_normal ?_)
          refine x_ret (.then_ret (.block_ret (.then_ret (.loop_ret (.block_ret (.then_ret (ret1 rfl rfl hm4 rfl)))))))
        ·
          refine tl_y rfl (y_fieldAddr rfl) ?_
          refine tl_y rfl (y_fieldAddr rfl) ?_
          refine tl_y rfl (y_load rfl rfl (.own inferInstance inferInstance)) ?_
          refine tl_y rfl (y_len rfl) ?_
          refine tl_y rfl (y_gtr rfl rfl) ?_
          refine tl_y rfl (y_pickF rfl rfl) ?_
          refine tl_nil (.then_normal ?_)
          refine .sub (F' := [(1, _), (4, _), (5, _), (6, _), (8, _), (9, _), (11, _), (12, _), (77, _)]) (.cons rfl (.cons rfl (.cons rfl (.cons rfl (.cons rfl (.cons rfl (.cons rfl (.cons rfl (.cons rfl .nil))))))))) ?_
          refine x_cond rfl (fun hc5 => ?_) (fun hc5 => ?_)
          ·
            refine x_seq (x_region ?_)
            refine tl_y rfl (y_assign rfl) ?_
            refine tl_nil (.then_normal ?_)
            refine x_ret (.then_ret (.block_ret (.then_ret (.loop_ret (.block_ret (.then_ret (ret1 rfl rfl hm4 rfl)))))))
          ·
            refine x_skip (.then_normal ?_)
            refine x_join (I := fun F D M2 L2 => ∃ (S' : DS) (rd' : DRep) (calm' last' : List (List UInt8)) (cv' tv' : List Value), D = [] ∧ Le M4 M2 ∧ S'.within (m + 1) ∧ IsDisk M2 rd' S' ∧ SInv K calm' last' S'.sure S'.pend ∧ BRows M2 cv' calm' ∧ BRows M2 tv' last' ∧ L2 = dL p rd' S' (tabs b1 b2 cv' tv' R) ∧ F = [(1, .slice (some ⟨g, o, none⟩) n c), (4, .bool false), (5, .int .i64 K), (6, .pointer (some ⟨p, 0, none⟩)), (8, .slice (some ⟨b1, 0, none⟩) K K), (9, .slice (some ⟨b2, 0, none⟩) K K), (11, .int .i64 m)]) ?_ (fun Jj2 => ?_)
            ·
              rintro _ _ M6 L6 ⟨S6, rd6, calm6, last6, cv6, tv6, rfl, hM6, hS6, hd6, hI6, hcv6, htv6, rfl, rfl⟩  -- slots [1, 4, 5, 6, 8, 9, 11]
              refine x_seq (x_region ?_)
              refine tl_y rfl (y_assign rfl) ?_
              refine tl_nil (.then_normal ?_)
              refine x_block ?_
              refine x_loop (I := fun m' F D M7 L7 => ∃ (i : Nat), m' = K - i ∧ i ≤ K ∧ Le M6 M7 ∧ D = [] ∧ L7 = dL p rd6 S6 (tabs b1 b2 cv6 tv6 R) ∧ F = [(1, .slice (some ⟨g, o, none⟩) n c), (4, .bool false), (5, .int .i64 K), (6, .pointer (some ⟨p, 0, none⟩)), (8, .slice (some ⟨b1, 0, none⟩) K K), (9, .slice (some ⟨b2, 0, none⟩) K K), (11, .int .i64 m), (16, .int .i64 i)]) (K) (F0 := [(1, _), (4, _), (5, _), (6, _), (8, _), (9, _), (11, _), (16, _)]) ?_ (.cons rfl (.cons rfl (.cons rfl (.cons rfl (.cons rfl (.cons rfl (.cons rfl (.cons rfl .nil)))))))) ?_  -- slots [1, 4, 5, 6, 8, 9, 11, 16], written [4, 16]
              · exact ⟨0, rfl, by omega, Le.refl _, rfl, rfl, rfl⟩
              rintro m _ _ M7 L7 ⟨j, rfl, hj, hM7, rfl, rfl, rfl⟩
              refine x_seq (x_seq (x_region ?_))
              refine tl_y rfl (y_move (v := .int _ _) rfl) ?_
              refine tl_y rfl (y_move (v := .int _ _) rfl) ?_
              refine tl_y rfl (y_lss rfl rfl) ?_
              refine tl_nil (.then_normal ?_)
              refine x_cond rfl (fun hc6 => ?_) (fun hc6 => ?_)
              ·
                refine x_skip (.then_normal ?_)
                refine x_seq ?_
                refine x_block ?_
                refine x_seq (x_region ?_)
                refine tl_y rfl (y_move (v := .pointer _) rfl) ?_
                refine tl_y rfl (y_move (v := .int _ _) rfl) ?_
                refine tl_e rfl (e_call' rfl (Read_spec (hd6.mono hM7) j) ?_)
                rintro _ M8 L8 hM8 ⟨rfl, A8, n8, c8, rfl, hA8⟩
                have hf := read_fact (S := S6) (j := j) (by rw [hI6.kl]; omega)
                refine tl_y rfl (y_move (v := .tuple _) rfl) ?_
                refine tl_y rfl (y_extract rfl) ?_
                refine tl_y rfl (y_extract rfl) ?_
                refine tl_y rfl (y_assign (v := .slice _ _ _) rfl) ?_
                refine tl_y rfl (y_assign (v := .int _ _) rfl) ?_
                refine tl_nil (.then_normal ?_)
                refine .sub (F' := [(1, _), (4, _), (5, _), (6, _), (8, _), (9, _), (11, _), (16, _), (17, _), (18, _)]) (.cons rfl (.cons rfl (.cons rfl (.cons rfl (.cons rfl (.cons rfl (.cons rfl (.cons rfl (.cons rfl (.cons rfl .nil)))))))))) ?_
                refine x_seq (x_region ?_)
                refine tl_y rfl (y_move (v := .int _ _) rfl) ?_
                refine tl_y rfl (y_eql rfl rfl) ?_
                refine tl_y rfl (y_move (v := .bool _) rfl) ?_
                refine tl_cases (s := 194) rfl (fun hk4 => ?_) (fun hk4 => ?_)
                ·
                  obtain ⟨_, hb⟩ := hf.resolve_right (by omega)
                  obtain ⟨A9, n9, c9, hv9, hb9⟩ := (htv6.mono (hM7.trans hM8)).get j (by rw [hI6.ll]; omega)
                  have heq : (readRes S6 j).1 = last6.getD j [] := hb.trans (hI6.l j (by omega)).symm
                  refine tl_y rfl (y_move (v := .slice _ _ _) rfl) ?_
                  refine tl_y rfl (y_move (v := .slice _ _ _) rfl) ?_
                  refine tl_y rfl (y_move (v := .int _ _) rfl) ?_
                  refine tl_y rfl (y_indexAddr rfl rfl (by omega)) ?_
                  refine tl_y rfl (y_load rfl rfl (.ownAt (c := tv6) inferInstance (by simpa using hv9))) ?_
                  refine tl_e rfl (e_call' rfl (same_spec hA8 hb9) ?_)
                  rintro _ M9 L9 hM9 ⟨rfl, rfl, rfl⟩
                  refine tl_y rfl (y_not rfl) ?_
                  refine tl_y rfl (y_pickT rfl rfl) ?_
                  refine tl_y rfl (y_move (v := .bool _) rfl) ?_
                  refine tl_set (s := 203) (u := .bool false) rfl (by simp [heq]) ?_
                  refine tl_y rfl (y_move (v := .int _ _) rfl) ?_
                  refine tl_y rfl (y_neq rfl rfl) ?_
                  refine tl_y rfl (y_move (v := .bool _) rfl) ?_
                  refine tl_set (s := 206) (u := .bool false) rfl (by congr 1; rw [decide_eq_false]; omega) ?_
                  refine tl_skip rfl ?_
                  refine tl_skip rfl ?_
                  refine tl_y rfl (y_pickF rfl rfl) ?_
                  refine tl_y rfl (y_pickF rfl rfl) ?_
                  refine tl_nil (.then_normal ?_)
                  refine .sub (F' := [(1, _), (4, _), (5, _), (6, _), (8, _), (9, _), (11, _), (16, _), (210, _)]) (.cons rfl (.cons rfl (.cons rfl (.cons rfl (.cons rfl (.cons rfl (.cons rfl (.cons rfl (.cons rfl .nil))))))))) ?_
                  refine x_false rfl rfl ?_
                  refine x_skip (.block_normal (.then_normal ?_))
                  refine x_region ?_
                  refine tl_y rfl (y_move (v := .int _ _) rfl) ?_
                  refine tl_y rfl (y_addI rfl rfl (by omega)) ?_
                  refine tl_y rfl (y_assign (v := .int _ _) rfl) ?_
                  refine tl_nil (.loop_next (m' := K - (j + 1)) (by omega) (F' := [(1, _), (4, _), (5, _), (6, _), (8, _), (9, _), (11, _), (16, _)]) (.cons rfl (.cons rfl (.cons rfl (.cons rfl (.cons rfl (.cons rfl (.cons rfl (.cons rfl .nil)))))))) ?_)
                  exact ⟨j + 1, rfl, by omega, hM7.trans hM8, rfl, rfl, rfl⟩
                ·
                  refine tl_skip rfl ?_
                  refine tl_skip rfl ?_
                  refine tl_skip rfl ?_
                  refine tl_skip rfl ?_
                  refine tl_skip rfl ?_
                  refine tl_skip rfl ?_
                  refine tl_skip rfl ?_
                  refine tl_y rfl (y_pickF rfl rfl) ?_
                  refine tl_y rfl (y_move (v := .bool _) rfl) ?_
                  refine tl_y rfl (y_move (v := .int _ _) rfl) ?_
                  refine tl_y rfl (y_neq rfl rfl) ?_
                  refine tl_y rfl (y_move (v := .bool _) rfl) ?_
                  refine tl_set (s := 206) (u := .bool true) rfl (by congr 1; rw [decide_eq_true]; exact hk4) ?_
                  refine tl_y rfl (y_move (v := .int _ _) rfl) ?_
                  refine tl_y rfl (y_neq rfl rfl) ?_
                  refine tl_y rfl (y_pickT rfl rfl) ?_
                  refine tl_y rfl (y_pickF rfl rfl) ?_
                  refine tl_nil (.then_normal ?_)
                  refine .sub (F' := [(1, _), (4, _), (5, _), (6, _), (8, _), (9, _), (11, _), (16, _), (210, _)]) (.cons rfl (.cons rfl (.cons rfl (.cons rfl (.cons rfl (.cons rfl (.cons rfl (.cons rfl (.cons rfl .nil))))))))) ?_
                  refine x_false rfl (by rw [decide_eq_false]; exact fun h => h (hf.resolve_left (fun h' => hk4 h'.1))) ?_
                  refine x_skip (.block_normal (.then_normal ?_))
                  refine x_region ?_
                  refine tl_y rfl (y_move (v := .int _ _) rfl) ?_
                  refine tl_y rfl (y_addI rfl rfl (by omega)) ?_
                  refine tl_y rfl (y_assign (v := .int _ _) rfl) ?_
                  refine tl_nil (.loop_next (m' := K - (j + 1)) (by omega) (F' := [(1, _), (4, _), (5, _), (6, _), (8, _), (9, _), (11, _), (16, _)]) (.cons rfl (.cons rfl (.cons rfl (.cons rfl (.cons rfl (.cons rfl (.cons rfl (.cons rfl .nil)))))))) ?_)
                  exact ⟨j + 1, rfl, by omega, hM7.trans hM8, rfl, rfl, rfl⟩
              ·
                refine x_exit (.then_exit (.loop_exit (.block_exit (.block_normal (.then_normal ?_)))))
                refine .sub (F' := [(1, _), (4, _), (5, _), (6, _), (8, _), (9, _), (11, _)]) (.cons rfl (.cons rfl (.cons rfl (.cons rfl (.cons rfl (.cons rfl (.cons rfl .nil))))))) ?_
                refine x_region ?_
                refine tl_y rfl (y_move (v := .int _ _) rfl) ?_
                refine tl_y rfl (y_addI rfl rfl (by omega)) ?_
                refine tl_y rfl (y_assign (v := .int _ _) rfl) ?_
                refine tl_nil (.loop_next (m' := 80 - (m + 1)) (by omega) (F' := [(1, _), (4, _), (5, _), (6, _), (8, _), (9, _), (11, _)]) (.cons rfl (.cons rfl (.cons rfl (.cons rfl (.cons rfl (.cons rfl (.cons rfl .nil))))))) ?_)
                exact ⟨m + 1, S6, rd6, calm6, last6, cv6, tv6, rfl, by omega, hm4.trans (hM6.trans hM7), hS6, hd6.mono hM7, hI6, hcv6.mono hM7, htv6.mono hM7, rfl, rfl, rfl⟩
            ·
              refine x_seq (x_region ?_)
              refine tl_y rfl (y_fieldAddr rfl) ?_
              refine tl_y rfl (y_load rfl rfl (.own inferInstance inferInstance)) ?_
              refine tl_nil (.then_normal ?_)
              refine x_block ?_
              refine x_seq (x_region ?_)
              refine tl_y rfl (y_eql rfl rfl) ?_
              refine tl_y rfl (y_assign (v := .bool _) rfl) ?_
              refine tl_nil (.then_normal ?_)
              refine x_cond rfl (fun hc8 => ?_) (fun hc8 => ?_)
              ·
                refine x_seq ?_
                refine x_draw0 10 ([(b5, .cells (List.toArray (acells a Ac nc cc Af nf cf)) 51 (0, 0))]) Keeps.mem hmix rfl ?_
                refine to_p 0 rfl (by kernel_rfl) rfl (y_move (v := .pointer _) rfl) ?_
                refine to_p 1 rfl (by kernel_rfl) rfl (y_fieldAddr rfl) ?_
                refine to_y 2 rfl (by kernel_rfl) rfl (y_load rfl rfl (.own inferInstance inferInstance)) ?_
                refine to_p 3 rfl (by kernel_rfl) rfl (y_fieldAddr rfl) ?_
                refine to_y 4 rfl (by kernel_rfl) rfl (y_load rfl rfl (.own inferInstance inferInstance)) ?_
                refine to_p 5 rfl (by kernel_rfl) rfl (y_fieldAddr rfl) ?_
                refine to_y 6 rfl (by kernel_rfl) rfl (y_load rfl rfl (.own inferInstance inferInstance)) ?_
                refine to_e 7 rfl (by kernel_rfl) rfl (e_call' rfl (row_spec a.c a.short) ?_)
                rintro _ M8 L8 hM8 ⟨rfl, A8, rfl, hA8⟩
                refine ⟨⟨(by first | exact Le.refl _ | assumption), Keeps.mem⟩, ?_⟩
                refine to_e 8 rfl (by kernel_rfl) rfl (e_call' rfl (Con.to (dL p rd S ((b5, .cells (List.toArray (acells a Ac nc cc Af nf cf)) 51 (0, 0)) :: tabs b1 b2 cv tv R)) inferInstance (Write_spec (hd.mono hM8) (by omega) (by omega) hA8)) ?_)
                rintro _ M9 L9 hM9 ⟨⟨r9, hd9, rfl⟩, rfl⟩
                refine ⟨⟨hM8.trans hM9, Keeps.mem⟩, ?_⟩
                refine to_p 9 rfl (by kernel_rfl) rfl (y_eql rfl rfl) ?_
                refine to_nil (by kernel_rfl) (.then_normal ?_)
                refine .sub (F' := [(1, _), (4, _), (5, _), (6, _), (8, _), (9, _), (11, _), (12, _), (91, _)]) (.cons rfl (.cons rfl (.cons rfl (.cons rfl (.cons rfl (.cons rfl (.cons rfl (.cons rfl (.cons rfl .nil))))))))) ?_
                refine x_cond rfl (fun hc9 => ?_) (fun hc9 => ?_)
                ·
                  obtain ⟨hi9, hl9, hs9, hp9⟩ := write_ok hc9
                  have hsh : a.short = false := by
                    cases hx : a.short with
                    | false => rfl
                    | true => rw [rowB_length, hx] at hl9; simp at hl9
                  have hro : rowOf a = rowB a.c 64 := by simp [rowOf, hsh]
                  have hcast : ((a.i.toNat : Nat) : Int) = a.i := by omega
                  have hIw := hI.write (i := a.i.toNat) (by omega) (rowB a.c 64)
                  rw [hcast, ← hro, ← hs9, ← hp9] at hIw
                  refine x_seq (x_region ?_)
                  refine tl_y rfl (y_move (v := .slice _ _ _) rfl) ?_
                  refine tl_y rfl (y_fieldAddr rfl) ?_
                  refine tl_y rfl (y_load rfl rfl (.own inferInstance inferInstance)) ?_
                  refine tl_y rfl (y_indexAddr rfl rfl (by omega)) ?_
                  refine tl_e rfl (e_storeAt (c := cv) rfl rfl rfl inferInstance (by omega) inferInstance ?_)
                  simp only [Nat.zero_add, Nat.mul_one]
                  refine tl_nil (.then_normal ?_)
                  refine .sub (F' := [(1, _), (4, _), (5, _), (6, _), (8, _), (9, _), (11, _), (12, _)]) (.cons rfl (.cons rfl (.cons rfl (.cons rfl (.cons rfl (.cons rfl (.cons rfl (.cons rfl .nil)))))))) ?_
                  refine x_draw 7 hmix rfl ?_
                  refine to_p 0 rfl (by kernel_rfl) rfl (y_move (v := .slice _ _ _) rfl) ?_
                  refine to_p 1 rfl (by kernel_rfl) rfl (y_fieldAddr rfl) ?_
                  refine to_y 2 rfl (by kernel_rfl) rfl (y_load rfl rfl (.own inferInstance inferInstance)) ?_
                  refine to_p 3 rfl (by kernel_rfl) rfl (y_fieldAddr rfl) ?_
                  refine to_y 4 rfl (by kernel_rfl) rfl (y_load rfl rfl (.own inferInstance inferInstance)) ?_
                  refine to_e 5 rfl (by kernel_rfl) rfl (e_call' rfl (row64_spec _ a.c rfl) ?_)
                  rintro _ M10 L10 hM10 ⟨rfl, A10, rfl, hA10⟩
                  refine ⟨⟨(by first | exact Le.refl _ | assumption), Keeps.mem⟩, ?_⟩
                  refine to_p 6 rfl (by kernel_rfl) rfl (y_indexAddr rfl rfl (by omega)) ?_
                  refine to_t 7 rfl (by kernel_rfl) (by kernel_rfl) rfl (e_storeAt (c := tv) rfl rfl rfl inferInstance (by omega) inferInstance ?_)
                  simp only [Nat.zero_add, Nat.mul_one]
                  refine to_nil (by kernel_rfl) (.block_normal (.then_normal (.dropTo (dL p r9 (writeRes S a.i (rowOf a)).1 (tabs b1 b2 (cv.set a.i.toNat (.slice none 0 0)) (tv.set a.i.toNat (.slice A10 64 64)) R)) inferInstance <| .sub (F' := [(1, _), (4, _), (5, _), (6, _), (8, _), (9, _), (11, _)]) (.cons rfl (.cons rfl (.cons rfl (.cons rfl (.cons rfl (.cons rfl (.cons rfl .nil))))))) (Jj2 _ _ _ _ ?_))))
                  exact ⟨(writeRes S a.i (rowOf a)).1, r9, _, _, _, _, rfl, hM8.trans (hM9.trans hM10), within_write hS _ _, hd9.mono hM10, hIw, (hcv.mono (hM8.trans (hM9.trans hM10))).set (Row.nil _ _) _, by rw [hro]; exact (htv.mono (hM8.trans (hM9.trans hM10))).set hA10 _, rfl, rfl⟩
                ·
                  refine x_skip (.block_normal (.then_normal (.dropTo (dL p r9 (writeRes S a.i (rowOf a)).1 (tabs b1 b2 cv tv R)) inferInstance <| .sub (F' := [(1, _), (4, _), (5, _), (6, _), (8, _), (9, _), (11, _)]) (.cons rfl (.cons rfl (.cons rfl (.cons rfl (.cons rfl (.cons rfl (.cons rfl .nil))))))) (Jj2 _ _ _ _ ?_))))
                  exact ⟨(writeRes S a.i (rowOf a)).1, r9, calm, last, cv, tv, rfl, hM8.trans hM9, within_write hS _ _, hd9, by rw [(write_no hc9).1, (write_no hc9).2]; exact hI, hcv.mono (hM8.trans hM9), htv.mono (hM8.trans hM9), rfl, rfl⟩
              ·
                refine x_seq (x_region ?_)
                refine tl_y rfl (y_eql rfl rfl) ?_
                refine tl_y rfl (y_assign (v := .bool _) rfl) ?_
                refine tl_nil (.then_normal ?_)
                refine .sub (F' := [(1, _), (4, _), (5, _), (6, _), (8, _), (9, _), (11, _), (12, _), (79, _), (103, _)]) (.cons rfl (.cons rfl (.cons rfl (.cons rfl (.cons rfl (.cons rfl (.cons rfl (.cons rfl (.cons rfl (.cons rfl .nil)))))))))) ?_
                refine x_cond rfl (fun hc10 => ?_) (fun hc10 => ?_)
                ·
                  refine x_seq (x_region ?_)
                  refine tl_y rfl (y_move (v := .pointer _) rfl) ?_
                  refine tl_e rfl (e_call' rfl (Con.to (dL p rd S ((b5, .cells (List.toArray (acells a Ac nc cc Af nf cf)) 51 (0, 0)) :: tabs b1 b2 cv tv R)) inferInstance (Flush_spec hd (by omega) (by omega))) ?_)
                  rintro _ M9 L9 hM9 ⟨⟨r9, hd9, rfl⟩, rfl⟩
                  refine tl_y rfl (y_eql rfl rfl) ?_
                  refine tl_nil (.then_normal ?_)
                  refine .sub (F' := [(1, _), (4, _), (5, _), (6, _), (8, _), (9, _), (11, _), (107, _)]) (.cons rfl (.cons rfl (.cons rfl (.cons rfl (.cons rfl (.cons rfl (.cons rfl (.cons rfl .nil)))))))) ?_
                  refine x_cond rfl (fun hc11 => ?_) (fun hc11 => ?_)
                  ·
                    refine x_seq (x_region ?_)
                    refine tl_y rfl (y_assign rfl) ?_
                    refine tl_nil (.then_normal ?_)
                    refine x_block ?_
                    refine x_loop (I := fun m' F D M7 L7 => ∃ (j : Nat) (cv' : List Value), m' = K - j ∧ j ≤ K ∧ M9 = M7 ∧ BRows M9 cv' (last.take j ++ calm.drop j) ∧ D = [] ∧ L7 = dL p r9 (flushRes S).1 ((b5, .cells (List.toArray (acells a Ac nc cc Af nf cf)) 51 (0, 0)) :: tabs b1 b2 cv' tv R) ∧ F = [(1, .slice (some ⟨g, o, none⟩) n c), (4, .bool false), (5, .int .i64 K), (6, .pointer (some ⟨p, 0, none⟩)), (8, .slice (some ⟨b1, 0, none⟩) K K), (9, .slice (some ⟨b2, 0, none⟩) K K), (11, .int .i64 m), (13, .int .i64 j)]) (K) (F0 := [(1, _), (4, _), (5, _), (6, _), (8, _), (9, _), (11, _), (13, _)]) ?_ (.cons rfl (.cons rfl (.cons rfl (.cons rfl (.cons rfl (.cons rfl (.cons rfl (.cons rfl .nil)))))))) ?_  -- slots [1, 4, 5, 6, 8, 9, 11, 13], written [13]
                    · exact ⟨0, cv, rfl, by omega, rfl, by simpa using hcv.mono hM9, rfl, rfl, rfl⟩
                    rintro m _ _ M10 L10 ⟨j, cv', rfl, hj, rfl, hcv', rfl, rfl, rfl⟩
                    refine x_seq (x_seq (x_region ?_))
                    refine tl_y rfl (y_move (v := .int _ _) rfl) ?_
                    refine tl_y rfl (y_move (v := .int _ _) rfl) ?_
                    refine tl_y rfl (y_lss rfl rfl) ?_
                    refine tl_nil (.then_normal ?_)
                    refine x_cond rfl (fun hc12 => ?_) (fun hc12 => ?_)
                    ·
                      have hjK : j < K := by omega
                      have hcl5 := hcv'.len
                      rw [mix_len hI.ll hI.cl hj] at hcl5
                      obtain ⟨A9, n9, c9, hv9, hb9⟩ := (htv.mono hM9).get j (by rw [hI.ll]; omega)
                      refine x_skip (.then_normal ?_)
                      refine x_seq ?_
                      refine x_block ?_
                      refine x_region ?_
                      refine tl_y rfl (y_move (v := .slice _ _ _) rfl) ?_
                      refine tl_y rfl (y_move (v := .int _ _) rfl) ?_
                      refine tl_y rfl (y_move (v := .slice _ _ _) rfl) ?_
                      refine tl_y rfl (y_move (v := .int _ _) rfl) ?_
                      refine tl_y rfl (y_indexAddr rfl rfl (by omega)) ?_
                      refine tl_y rfl (y_load rfl rfl (.ownAt (c := tv) inferInstance (by simpa using hv9))) ?_
                      refine tl_y rfl (y_indexAddr rfl rfl (by omega)) ?_
                      refine tl_e rfl (e_storeAt (c := cv') rfl rfl rfl inferInstance (by omega) inferInstance ?_)
                      simp only [Nat.zero_add, Nat.mul_one, Int.toNat_natCast]
                      refine tl_nil (.block_normal (.then_normal ?_))
                      refine .sub (F' := [(1, _), (4, _), (5, _), (6, _), (8, _), (9, _), (11, _), (13, _)]) (.cons rfl (.cons rfl (.cons rfl (.cons rfl (.cons rfl (.cons rfl (.cons rfl (.cons rfl .nil)))))))) ?_
                      refine x_region ?_
                      refine tl_y rfl (y_move (v := .int _ _) rfl) ?_
                      refine tl_y rfl (y_addI rfl rfl (by omega)) ?_
                      refine tl_y rfl (y_assign (v := .int _ _) rfl) ?_
                      refine tl_nil (.loop_next (m' := K - (j + 1)) (by omega) (F' := [(1, _), (4, _), (5, _), (6, _), (8, _), (9, _), (11, _), (13, _)]) (.cons rfl (.cons rfl (.cons rfl (.cons rfl (.cons rfl (.cons rfl (.cons rfl (.cons rfl .nil)))))))) ?_)
                      exact ⟨j + 1, _, rfl, by omega, rfl, by rw [← mix_step hI.ll hI.cl hjK]; exact hcv'.set hb9 j, rfl, rfl, rfl⟩
                    ·
                      have hjK : j = K := by omega
                      rw [hjK, mix_end hI.ll hI.cl] at hcv'
                      obtain ⟨f1, f2⟩ := flush_ok hc11
                      refine x_exit (.then_exit (.loop_exit (.block_exit (.block_normal (.then_normal (.dropTo (dL p r9 (flushRes S).1 (tabs b1 b2 cv' tv R)) inferInstance <| .sub (F' := [(1, _), (4, _), (5, _), (6, _), (8, _), (9, _), (11, _)]) (.cons rfl (.cons rfl (.cons rfl (.cons rfl (.cons rfl (.cons rfl (.cons rfl .nil))))))) (Jj2 _ _ _ _ ?_)))))))
                      exact ⟨(flushRes S).1, r9, last, last, cv', tv, rfl, hM9, within_flush hS, hd9, by rw [f1, f2]; exact hI.flush (fun q hq => (hd.pl q hq).2.1), hcv', htv.mono hM9, rfl, rfl⟩
                  ·
                    refine x_skip (.block_normal (.then_normal (.dropTo (dL p r9 (flushRes S).1 (tabs b1 b2 cv tv R)) inferInstance <| .sub (F' := [(1, _), (4, _), (5, _), (6, _), (8, _), (9, _), (11, _)]) (.cons rfl (.cons rfl (.cons rfl (.cons rfl (.cons rfl (.cons rfl (.cons rfl .nil))))))) (Jj2 _ _ _ _ ?_))))
                    exact ⟨(flushRes S).1, r9, calm, last, cv, tv, rfl, hM9, within_flush hS, hd9, by rw [(flush_no hc11).1, (flush_no hc11).2]; exact hI, hcv.mono hM9, htv.mono hM9, rfl, rfl⟩
                ·
                  refine x_seq (x_region ?_)
                  refine tl_y rfl (y_eql rfl rfl) ?_
                  refine tl_y rfl (y_assign (v := .bool _) rfl) ?_
                  refine tl_nil (.then_normal ?_)
                  refine x_cond rfl (fun hc13 => ?_) (fun hc13 => ?_)
                  ·
                    refine x_seq (x_region ?_)
                    refine tl_y rfl (y_move (v := .pointer _) rfl) ?_
                    refine tl_y rfl (y_fieldAddr rfl) ?_
                    refine tl_y rfl (y_load rfl rfl (.own inferInstance inferInstance)) ?_
                    refine tl_y rfl (y_fieldAddr rfl) ?_
                    refine tl_y rfl (y_loadAgg rfl rfl (.own inferInstance inferInstance)) ?_
                    refine tl_e rfl (e_call' rfl (Con.to (dL p rd S ((b5, .cells (List.toArray (acells a Ac nc cc Af nf cf)) 51 (0, 0)) :: tabs b1 b2 cv tv R)) inferInstance (Up_spec hd (by omega) hcs hfs (by omega) a.stop)) ?_)
                    rintro _ M9 L9 hM9 ⟨r9, hd9, rfl⟩
                    refine tl_nil (.then_normal ?_)
                    refine .sub (F' := [(1, _), (4, _), (5, _), (6, _), (8, _), (9, _), (11, _)]) (.cons rfl (.cons rfl (.cons rfl (.cons rfl (.cons rfl (.cons rfl (.cons rfl .nil))))))) ?_
                    refine x_seq (x_region ?_)
                    refine tl_y rfl (y_move (v := .pointer _) rfl) ?_
                    refine tl_e rfl (e_call' rfl (Sure_spec hd9) ?_)
                    rintro _ M10 L10 hM10 ⟨rfl, A10, n10, c10, vs10, rfl, hr10, hb10⟩
                    have hsl : (upped S a.choices a.fail a.stop).sure.length = K := by show (upGo _ _ _ _).length = K; rw [upGo_length]; exact hI.kl
                    have hn10 : n10 = K := by have h1 := hr10.len; have h2 := hb10.len; omega
                    have hkp := fun (j : Nat) (hj : j < K) (hne : calm.getD j [] ≠ []) => hI.kept (fun q hq => (hd.pl q hq).2.1) a.choices hj hne
                    obtain ⟨s5, hs5⟩ : ∃ s5, s5 = (upped S a.choices a.fail a.stop).sure := ⟨_, rfl⟩
                    rw [← hs5] at hb10 hsl
                    replace hkp : ∀ j, j < K → calm.getD j [] ≠ [] → s5.getD j [] = calm.getD j [] := fun j hj hne => by rw [hs5]; exact hkp j hj hne
                    obtain ⟨g10, o10, rfl, hc10⟩ := hr10.addr (by omega)
                    refine tl_y rfl (y_assign (v := .slice _ _ _) rfl) ?_
                    refine tl_nil (.then_normal ?_)
                    refine x_seq (x_seq (x_region ?_))
                    refine tl_y rfl (y_move (v := .slice _ _ _) rfl) ?_
                    refine tl_y rfl (y_len rfl) ?_
                    refine tl_y rfl (y_move (v := .int _ _) rfl) ?_
                    refine tl_y rfl (y_neq rfl rfl) ?_
                    refine tl_nil (.then_normal ?_)
                    refine .sub (F' := [(1, _), (4, _), (5, _), (6, _), (8, _), (9, _), (11, _), (14, _), (133, _)]) (.cons rfl (.cons rfl (.cons rfl (.cons rfl (.cons rfl (.cons rfl (.cons rfl (.cons rfl (.cons rfl .nil))))))))) ?_
                    refine x_false rfl (by rw [decide_eq_false]; omega) ?_
                    refine x_skip (.then_normal ?_)
                    refine x_seq (x_region ?_)
                    refine tl_y rfl (y_assign rfl) ?_
                    refine tl_nil (.then_normal ?_)
                    refine x_block ?_
                    refine x_loop (I := fun m' F D M7 L7 => ∃ (j : Nat) (cv' tv' : List Value), m' = K - j ∧ j ≤ K ∧ M10 = M7 ∧ BRows M10 cv' (s5.take j ++ calm.drop j) ∧ BRows M10 tv' (s5.take j ++ last.drop j) ∧ D = [] ∧ L7 = dL p r9 (upped S a.choices a.fail a.stop) ((b5, .cells (List.toArray (acells a Ac nc cc Af nf cf)) 51 (0, 0)) :: tabs b1 b2 cv' tv' R) ∧ F = [(1, .slice (some ⟨g, o, none⟩) n c), (4, .bool false), (5, .int .i64 K), (6, .pointer (some ⟨p, 0, none⟩)), (8, .slice (some ⟨b1, 0, none⟩) K K), (9, .slice (some ⟨b2, 0, none⟩) K K), (11, .int .i64 m), (14, .slice (some ⟨g10, o10, none⟩) n10 c10), (15, .int .i64 j)]) (K) (F0 := [(1, _), (4, _), (5, _), (6, _), (8, _), (9, _), (11, _), (14, _), (15, _)]) ?_ (.cons rfl (.cons rfl (.cons rfl (.cons rfl (.cons rfl (.cons rfl (.cons rfl (.cons rfl (.cons rfl .nil))))))))) ?_  -- slots [1, 4, 5, 6, 8, 9, 11, 14, 15], written [4, 15]
                    · exact ⟨0, cv, tv, rfl, by omega, rfl, by simpa using hcv.mono (hM9.trans hM10), by simpa using htv.mono (hM9.trans hM10), rfl, rfl, rfl⟩
                    rintro m _ _ M11 L11 ⟨j, cv', tv', rfl, hj, rfl, hcv', htv', rfl, rfl, rfl⟩
                    refine x_seq (x_seq (x_region ?_))
                    refine tl_y rfl (y_move (v := .int _ _) rfl) ?_
                    refine tl_y rfl (y_move (v := .int _ _) rfl) ?_
                    refine tl_y rfl (y_lss rfl rfl) ?_
                    refine tl_nil (.then_normal ?_)
                    refine x_cond rfl (fun hc15 => ?_) (fun hc15 => ?_)
                    ·
                      have hjK : j < K := by omega
                      have hcl5 := hcv'.len
                      rw [mix_len hsl hI.cl hj] at hcl5
                      have htl5 := htv'.len
                      rw [mix_len hsl hI.ll hj] at htl5
                      obtain ⟨A7, n7, c7, hv7, hb7⟩ := hcv'.get j (by rw [mix_len hsl hI.cl hj]; omega)
                      rw [mix_at hsl hI.cl hjK] at hb7
                      obtain ⟨A8, n8, c8, hv8, hb8⟩ := hb10.get j (by omega)
                      have hn7 := hb7.size
                      have hc10j := fun L => hc10 L j _ hv8
                      refine x_skip (.then_normal ?_)
                      refine x_seq ?_
                      refine x_block ?_
                      refine x_seq (x_seq ?_)
                      refine x_draw 18 hmix rfl ?_
                      refine to_p 0 rfl (by kernel_rfl) rfl (y_move (v := .slice _ _ _) rfl) ?_
                      refine to_p 1 rfl (by kernel_rfl) rfl (y_move (v := .int _ _) rfl) ?_
                      refine to_p 2 rfl (by kernel_rfl) rfl (y_indexAddr rfl rfl (by omega)) ?_
                      refine to_y 3 rfl (by kernel_rfl) rfl (y_load rfl rfl (.ownAt (c := cv') inferInstance (by simpa using hv7))) ?_
                      refine to_p 4 rfl (by kernel_rfl) rfl (y_len rfl) ?_
                      refine to_p 5 rfl (by kernel_rfl) rfl (y_gtr rfl rfl) ?_
                      refine to_p 6 rfl (by kernel_rfl) rfl (y_move (v := .bool _) rfl) ?_
                      refine to_cases (s := 145) rfl (fun hk8 => ?_) (fun hk8 => ?_)
                      ·
                        refine to_p 7 rfl (by kernel_rfl) rfl (y_move (v := .slice _ _ _) rfl) ?_
                        refine to_p 8 rfl (by kernel_rfl) rfl (y_move (v := .int _ _) rfl) ?_
                        refine to_p 9 rfl (by kernel_rfl) rfl (y_indexAddr rfl rfl (by omega)) ?_
                        refine to_y 10 rfl (by kernel_rfl) rfl (y_load rfl rfl (.at_ (hc10j _) (by omega))) ?_
                        refine to_p 11 rfl (by kernel_rfl) rfl (y_move (v := .slice _ _ _) rfl) ?_
                        refine to_p 12 rfl (by kernel_rfl) rfl (y_move (v := .int _ _) rfl) ?_
                        refine to_p 13 rfl (by kernel_rfl) rfl (y_indexAddr rfl rfl (by omega)) ?_
                        refine to_y 14 rfl (by kernel_rfl) rfl (y_load rfl rfl (.ownAt (c := cv') inferInstance (by simpa using hv7))) ?_
                        refine to_e 15 rfl (by kernel_rfl) rfl (e_call' rfl (same_spec hb8 hb7) ?_)
                        rintro _ M12 L12 hM12 ⟨rfl, rfl, rfl⟩
                        have hnz : calm.getD j [] ≠ [] := fun hz => by rw [hz] at hn7; simp at hn7; omega
                        have hsame := hkp j hjK hnz
                        refine ⟨⟨(by first | exact Le.refl _ | assumption), Keeps.mem⟩, ?_⟩
                        refine to_p 16 rfl (by kernel_rfl) rfl (y_not rfl) ?_
                        refine to_p 17 rfl (by kernel_rfl) rfl (y_pickT rfl rfl) ?_
                        refine to_nil (by kernel_rfl) (.then_normal ?_)
                        refine .sub (F' := [(1, _), (4, _), (5, _), (6, _), (8, _), (9, _), (11, _), (14, _), (15, _), (156, _)]) (.cons rfl (.cons rfl (.cons rfl (.cons rfl (.cons rfl (.cons rfl (.cons rfl (.cons rfl (.cons rfl (.cons rfl .nil)))))))))) ?_
                        refine x_false rfl (by rw [decide_eq_true hsame]; rfl) ?_
                        refine x_skip (.then_normal ?_)
                        refine x_seq (x_region ?_)
                        refine tl_y rfl (y_move (v := .slice _ _ _) rfl) ?_
                        refine tl_y rfl (y_move (v := .int _ _) rfl) ?_
                        refine tl_y rfl (y_move (v := .slice _ _ _) rfl) ?_
                        refine tl_y rfl (y_move (v := .int _ _) rfl) ?_
                        refine tl_y rfl (y_indexAddr rfl rfl (by omega)) ?_
                        refine tl_y rfl (y_load rfl rfl (.at_ (hc10j _) (by omega))) ?_
                        refine tl_y rfl (y_indexAddr rfl rfl (by omega)) ?_
                        refine tl_e rfl (e_storeAt (c := cv') rfl rfl rfl inferInstance (by omega) inferInstance ?_)
                        simp only [Nat.zero_add, Nat.mul_one, Int.toNat_natCast]
                        refine tl_nil (.then_normal ?_)
                        refine .sub (F' := [(1, _), (4, _), (5, _), (6, _), (8, _), (9, _), (11, _), (14, _), (15, _)]) (.cons rfl (.cons rfl (.cons rfl (.cons rfl (.cons rfl (.cons rfl (.cons rfl (.cons rfl (.cons rfl .nil))))))))) ?_
                        refine x_region ?_
                        refine tl_y rfl (y_move (v := .slice _ _ _) rfl) ?_
                        refine tl_y rfl (y_move (v := .int _ _) rfl) ?_
                        refine tl_y rfl (y_move (v := .slice _ _ _) rfl) ?_
                        refine tl_y rfl (y_move (v := .int _ _) rfl) ?_
                        refine tl_y rfl (y_indexAddr rfl rfl (by omega)) ?_
                        refine tl_y rfl (y_load rfl rfl (.at_ (hc10j _) (by omega))) ?_
                        refine tl_y rfl (y_indexAddr rfl rfl (by omega)) ?_
                        refine tl_e rfl (e_storeAt (c := tv') rfl rfl rfl inferInstance (by omega) inferInstance ?_)
                        simp only [Nat.zero_add, Nat.mul_one, Int.toNat_natCast]
                        refine tl_nil (.block_normal (.then_normal ?_))
                        refine .sub (F' := [(1, _), (4, _), (5, _), (6, _), (8, _), (9, _), (11, _), (14, _), (15, _)]) (.cons rfl (.cons rfl (.cons rfl (.cons rfl (.cons rfl (.cons rfl (.cons rfl (.cons rfl (.cons rfl .nil))))))))) ?_
                        refine x_region ?_
                        refine tl_y rfl (y_move (v := .int _ _) rfl) ?_
                        refine tl_y rfl (y_addI rfl rfl (by omega)) ?_
                        refine tl_y rfl (y_assign (v := .int _ _) rfl) ?_
                        refine tl_nil (.loop_next (m' := K - (j + 1)) (by omega) (F' := [(1, _), (4, _), (5, _), (6, _), (8, _), (9, _), (11, _), (14, _), (15, _)]) (.cons rfl (.cons rfl (.cons rfl (.cons rfl (.cons rfl (.cons rfl (.cons rfl (.cons rfl (.cons rfl .nil))))))))) ?_)
                        exact ⟨j + 1, _, _, rfl, by omega, rfl, by rw [← mix_step hsl hI.cl hjK]; exact hcv'.set hb8 j, by rw [← mix_step hsl hI.ll hjK]; exact htv'.set hb8 j, rfl, rfl, rfl⟩
                      ·
                        refine to_skip 7 rfl (by kernel_rfl) rfl ?_
                        refine to_skip 8 rfl (by kernel_rfl) rfl ?_
                        refine to_skip 9 rfl (by kernel_rfl) rfl ?_
                        refine to_skip 10 rfl (by kernel_rfl) rfl ?_
                        refine to_skip 11 rfl (by kernel_rfl) rfl ?_
                        refine to_skip 12 rfl (by kernel_rfl) rfl ?_
                        refine to_skip 13 rfl (by kernel_rfl) rfl ?_
                        refine to_skip 14 rfl (by kernel_rfl) rfl ?_
                        refine to_skip 15 rfl (by kernel_rfl) rfl ?_
                        refine to_skip 16 rfl (by kernel_rfl) rfl ?_
                        refine to_p 17 rfl (by kernel_rfl) rfl (y_pickF rfl rfl) ?_
                        refine to_nil (by kernel_rfl) (.then_normal ?_)
                        refine .sub (F' := [(1, _), (4, _), (5, _), (6, _), (8, _), (9, _), (11, _), (14, _), (15, _), (156, _)]) (.cons rfl (.cons rfl (.cons rfl (.cons rfl (.cons rfl (.cons rfl (.cons rfl (.cons rfl (.cons rfl (.cons rfl .nil)))))))))) ?_
                        refine x_false rfl rfl ?_
                        refine x_skip (.then_normal ?_)
                        refine x_seq (x_region ?_)
                        refine tl_y rfl (y_move (v := .slice _ _ _) rfl) ?_
                        refine tl_y rfl (y_move (v := .int _ _) rfl) ?_
                        refine tl_y rfl (y_move (v := .slice _ _ _) rfl) ?_
                        refine tl_y rfl (y_move (v := .int _ _) rfl) ?_
                        refine tl_y rfl (y_indexAddr rfl rfl (by omega)) ?_
                        refine tl_y rfl (y_load rfl rfl (.at_ (hc10j _) (by omega))) ?_
                        refine tl_y rfl (y_indexAddr rfl rfl (by omega)) ?_
                        refine tl_e rfl (e_storeAt (c := cv') rfl rfl rfl inferInstance (by omega) inferInstance ?_)
                        simp only [Nat.zero_add, Nat.mul_one, Int.toNat_natCast]
                        refine tl_nil (.then_normal ?_)
                        refine .sub (F' := [(1, _), (4, _), (5, _), (6, _), (8, _), (9, _), (11, _), (14, _), (15, _)]) (.cons rfl (.cons rfl (.cons rfl (.cons rfl (.cons rfl (.cons rfl (.cons rfl (.cons rfl (.cons rfl .nil))))))))) ?_
                        refine x_region ?_
                        refine tl_y rfl (y_move (v := .slice _ _ _) rfl) ?_
                        refine tl_y rfl (y_move (v := .int _ _) rfl) ?_
                        refine tl_y rfl (y_move (v := .slice _ _ _) rfl) ?_
                        refine tl_y rfl (y_move (v := .int _ _) rfl) ?_
                        refine tl_y rfl (y_indexAddr rfl rfl (by omega)) ?_
                        refine tl_y rfl (y_load rfl rfl (.at_ (hc10j _) (by omega))) ?_
                        refine tl_y rfl (y_indexAddr rfl rfl (by omega)) ?_
                        refine tl_e rfl (e_storeAt (c := tv') rfl rfl rfl inferInstance (by omega) inferInstance ?_)
                        simp only [Nat.zero_add, Nat.mul_one, Int.toNat_natCast]
                        refine tl_nil (.block_normal (.then_normal ?_))
                        refine .sub (F' := [(1, _), (4, _), (5, _), (6, _), (8, _), (9, _), (11, _), (14, _), (15, _)]) (.cons rfl (.cons rfl (.cons rfl (.cons rfl (.cons rfl (.cons rfl (.cons rfl (.cons rfl (.cons rfl .nil))))))))) ?_
                        refine x_region ?_
                        refine tl_y rfl (y_move (v := .int _ _) rfl) ?_
                        refine tl_y rfl (y_addI rfl rfl (by omega)) ?_
                        refine tl_y rfl (y_assign (v := .int _ _) rfl) ?_
                        refine tl_nil (.loop_next (m' := K - (j + 1)) (by omega) (F' := [(1, _), (4, _), (5, _), (6, _), (8, _), (9, _), (11, _), (14, _), (15, _)]) (.cons rfl (.cons rfl (.cons rfl (.cons rfl (.cons rfl (.cons rfl (.cons rfl (.cons rfl (.cons rfl .nil))))))))) ?_)
                        exact ⟨j + 1, _, _, rfl, by omega, rfl, by rw [← mix_step hsl hI.cl hjK]; exact hcv'.set hb8 j, by rw [← mix_step hsl hI.ll hjK]; exact htv'.set hb8 j, rfl, rfl, rfl⟩
                    ·
                      have hjK : j = K := by omega
                      rw [hjK, mix_end hsl hI.cl] at hcv'
                      rw [hjK, mix_end hsl hI.ll] at htv'
                      refine x_exit (.then_exit (.loop_exit (.block_exit (.block_normal (.then_normal (.dropTo (dL p r9 (upped S a.choices a.fail a.stop) (tabs b1 b2 cv' tv' R)) inferInstance <| .sub (F' := [(1, _), (4, _), (5, _), (6, _), (8, _), (9, _), (11, _)]) (.cons rfl (.cons rfl (.cons rfl (.cons rfl (.cons rfl (.cons rfl (.cons rfl .nil))))))) (Jj2 _ _ _ _ ?_)))))))
                      exact ⟨(upped S a.choices a.fail a.stop), r9, s5, s5, cv', tv', rfl, hM9.trans hM10, within_up _ _ _, hd9.mono hM10, by rw [← hs5]; exact SInv.up hsl, hcv', htv', rfl, rfl⟩
                  ·
                    refine x_seq (x_region ?_)
                    refine tl_y rfl (y_eql rfl rfl) ?_
                    refine tl_y rfl (y_assign (v := .bool _) rfl) ?_
                    refine tl_nil (.then_normal ?_)
                    refine .sub (F' := [(1, _), (4, _), (5, _), (6, _), (8, _), (9, _), (11, _), (12, _), (79, _), (171, _)]) (.cons rfl (.cons rfl (.cons rfl (.cons rfl (.cons rfl (.cons rfl (.cons rfl (.cons rfl (.cons rfl (.cons rfl .nil)))))))))) ?_
                    refine x_cond rfl (fun hc17 => ?_) (fun hc17 => ?_)
                    ·
                      refine x_region ?_
                      refine tl_y rfl (y_move (v := .pointer _) rfl) ?_
                      refine tl_e rfl (e_call' rfl (Con.to (dL p rd S ((b5, .cells (List.toArray (acells a Ac nc cc Af nf cf)) 51 (0, 0)) :: tabs b1 b2 cv tv R)) inferInstance (Stop_spec hd)) ?_)
                      rintro _ M9 L9 hM9 ⟨rfl, r9, hd9, rfl⟩
                      refine tl_nil (.block_normal (.then_normal (.dropTo (dL p r9 { S with down := true } (tabs b1 b2 cv tv R)) inferInstance <| .sub (F' := [(1, _), (4, _), (5, _), (6, _), (8, _), (9, _), (11, _)]) (.cons rfl (.cons rfl (.cons rfl (.cons rfl (.cons rfl (.cons rfl (.cons rfl .nil))))))) (Jj2 _ _ _ _ ?_))))
                      exact ⟨{ S with down := true }, r9, calm, last, cv, tv, rfl, Le.refl _, ⟨q1, by show S.count ≤ _; omega, by show S.pend.length ≤ _; omega⟩, hd9, hI, hcv, htv, rfl, rfl⟩
                    ·
                      refine x_seq (x_region ?_)
                      refine tl_y rfl (y_eql rfl rfl) ?_
                      refine tl_y rfl (y_assign (v := .bool _) rfl) ?_
                      refine tl_nil (.then_normal ?_)
                      refine x_cond rfl (fun hc18 => ?_) (fun hc18 => ?_)
                      ·
                        refine x_region ?_
                        refine tl_y rfl (y_move (v := .pointer _) rfl) ?_
                        refine tl_y rfl (y_fieldAddr rfl) ?_
                        refine tl_y rfl (y_loadAgg rfl rfl (.own inferInstance inferInstance)) ?_
                        refine tl_e rfl (e_call' rfl (Con.to (dL p rd S ((b5, .cells (List.toArray (acells a Ac nc cc Af nf cf)) 51 (0, 0)) :: tabs b1 b2 cv tv R)) inferInstance (Plan_spec hd hfs (by omega) a.stop)) ?_)
                        rintro _ M9 L9 hM9 ⟨r9, hd9, rfl⟩
                        refine tl_nil (.block_normal (.then_normal (.dropTo (dL p r9 { S with fail := a.fail, stop := a.stop } (tabs b1 b2 cv tv R)) inferInstance <| .sub (F' := [(1, _), (4, _), (5, _), (6, _), (8, _), (9, _), (11, _)]) (.cons rfl (.cons rfl (.cons rfl (.cons rfl (.cons rfl (.cons rfl (.cons rfl .nil))))))) (Jj2 _ _ _ _ ?_))))
                        exact ⟨{ S with fail := a.fail, stop := a.stop }, r9, calm, last, cv, tv, rfl, hM9, ⟨q1, by show S.count ≤ _; omega, by show S.pend.length ≤ _; omega⟩, hd9, hI, hcv.mono hM9, htv.mono hM9, rfl, rfl⟩
                      ·
                        refine x_skip (.block_normal (.then_normal (.dropTo (dL p rd S (tabs b1 b2 cv tv R)) inferInstance <| .sub (F' := [(1, _), (4, _), (5, _), (6, _), (8, _), (9, _), (11, _)]) (.cons rfl (.cons rfl (.cons rfl (.cons rfl (.cons rfl (.cons rfl (.cons rfl .nil))))))) (Jj2 _ _ _ _ ?_))))
                        exact ⟨S, rd, calm, last, cv, tv, rfl, Le.refl _, ⟨q1, by show S.count ≤ _; omega, by show S.pend.length ≤ _; omega⟩, hd, hI, hcv, htv, rfl, rfl⟩
      ·
        refine x_exit (.then_exit (.loop_exit (.block_exit (.then_normal ?_))))
        refine .sub (F' := []) .nil ?_
        refine x_seq (x_region ?_)
        refine tl_y rfl (y_assign rfl) ?_
        refine tl_nil (.then_normal ?_)
        refine x_ret (ret1 rfl rfl hm4 rfl)
    ·
      refine tl_skip rfl ?_
      refine tl_skip rfl ?_
      refine tl_y rfl (y_pickF rfl rfl) ?_
      refine tl_nil (.then_normal ?_)
      refine .sub (F' := [(1, _), (4, _), (5, _), (6, _), (8, _), (9, _), (11, _), (60, _)]) (.cons rfl (.cons rfl (.cons rfl (.cons rfl (.cons rfl (.cons rfl (.cons rfl (.cons rfl .nil)))))))) ?_
      refine x_false rfl rfl ?_
      refine x_exit (.then_exit (.loop_exit (.block_exit (.then_normal ?_))))
      refine .sub (F' := []) .nil ?_
      refine x_seq (x_region ?_)
      refine tl_y rfl (y_assign rfl) ?_
      refine tl_nil (.then_normal ?_)
      refine x_ret (ret1 rfl rfl hm4 rfl)
end
end Go.Proofs.Ytlednbmmchalkaa
