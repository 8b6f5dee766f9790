/-
Contracts of functions, each proved by a walk through its code.
-/
import Derived.Test.YtbgdjdhbejbhkaaDoorSlots2
set_option linter.unusedVariables false
set_option linter.unusedSimpArgs false
namespace Go.Proofs.YtbgdjdhbejbhkaaDoor
open Go Go.Eng
section
variable {G : World} {M : Mem} {L R : Own} {p d : Nat} {r : DRep} {S : DS} {s : SS} {A0 : Option Addr} {l0 c0 : Nat}
def SK (p d : Nat) (S : DS) (s : SS) (R : Own) (M' : Mem) (L' : Own) : Prop := ∃ r' A l c, IsDisk M' r' S ∧ Bytes M' A l c s.b ∧ L' = dL d r' S (sL p d s A l c :: R)
theorem areaLen (h : IsDisk M r S) (ok : OkS S s) (hd : S.down = false) (i : Nat) (hi : i ≤ 1) : (areaB S (s.first + i * s.n) s.n).length = 64 * s.n :=
  areaB_length hd h.sl h.pl s.n (by have := ok.in_; have := Nat.mul_le_mul_right s.n hi; omega)
theorem load_spec (hg : ShaG M) (h : IsDisk M r S) (ok : OkS S s) (hb : Bytes M A0 l0 c0 s.b) :
    Con Tryd.prog 79 #[.pointer (some ⟨p, 0, none⟩)] G M (dL d r S (sL p d s A0 l0 c0 :: R))
      (fun v M' L' => (loadRes S s).2 = 0 ∧ SK p d S (loadRes S s).1 R M' L') (fun ch M' L' => ch = wrongs (loadRes S s).2 ∧ SK p d S (loadRes S s).1 R M' L') := by
  have hn := ok.n
  refine enter (args := [_]) (fn := Tryd.f79) ⟨Tryd.func79, rfl, by kernel_rfl, by kernel_rfl⟩ 49 rfl ?_
  refine x_seq (x_region ?_)
  refine tl_y rfl (y_move (v := .pointer _) rfl) ?_
  refine tl_e rfl (e_call rfl (area_spec h ok 0 (by omega)) (by
  rintro _ M1 _ hM1 ⟨hd, rfl, rfl⟩
  refine .retA rfl hM1 ?_
  rw [show loadRes S s = (s, 6) by rw [loadRes, if_pos hd]]
  exact ⟨rfl, r, A0, l0, c0, h.mono hM1, hb.mono hM1, rfl⟩) ?_)
  rintro _ M1 _ hM1 ⟨hd, rfl, A1, c1, rfl, hA1⟩
  refine tl_y rfl (y_move (v := .pointer _) rfl) ?_
  refine tl_e rfl (e_call rfl (area_spec (h.mono hM1) ok 1 (by omega)) (by
  rintro _ M2 _ hM2 ⟨hd', rfl, rfl⟩
  rw [hd] at hd'; cases hd') ?_)
  rintro _ M2 _ hM2 ⟨_, rfl, A2, c2, rfl, hA2⟩
  replace hA1 := hA1.mono hM2
  have hl1 : (areaB S s.first s.n).length = 64 * s.n := by simpa using areaLen h ok hd 0 (by omega)
  have hl2 : (areaB S (s.first + s.n) s.n).length = 64 * s.n := by simpa using areaLen h ok hd 1 (by omega)
  rw [show s.first + 0 * s.n = s.first by omega] at hA1
  rw [show s.first + 1 * s.n = s.first + s.n by omega] at hA2
  have hres : loadRes S s = loaded s (areaB S s.first s.n) (areaB S (s.first + s.n) s.n) := by rw [loadRes, if_neg (by simp [hd])]
  generalize areaB S s.first s.n = one at *
  generalize areaB S (s.first + s.n) s.n = two at *
  have hm := hM1.trans hM2
  refine tl_y rfl (y_assign (v := .slice _ _ _) rfl) ?_
  refine tl_y rfl (y_assign (v := .slice _ _ _) rfl) ?_
  refine tl_nil (.then_normal ?_)
  refine .sub (F' := [(0, _), (2, _), (3, _)]) (.cons rfl (.cons rfl (.cons rfl .nil))) ?_
  refine x_seq (x_region ?_)
  refine tl_y rfl (y_move (v := .pointer _) rfl) ?_
  refine tl_y rfl (y_move (v := .slice _ _ _) rfl) ?_
  refine tl_e rfl (e_call' rfl (Con.to (sL p d s A0 l0 c0 :: (d, .cells (List.toArray (dcells r S)) 134 (0, 0)) :: (r.E1 ++ (r.E2 ++ R))) inferInstance (read_spec (hg.mono hm) hn hA1 rfl)) ?_)
  rintro _ M3 _ hM3 ⟨rfl, A3, n3, c3, rfl, hA3⟩
  refine tl_y rfl (y_move (v := .pointer _) rfl) ?_
  refine tl_y rfl (y_move (v := .slice _ _ _) rfl) ?_
  refine tl_e rfl (e_call' rfl (read_spec (hg.mono (hm.trans hM3)) hn (hA2.mono hM3) rfl) ?_)
  rintro _ M4 _ hM4 ⟨rfl, A4, n4, c4, rfl, hA4⟩
  replace hA3 := hA3.mono hM4
  replace hm := hm.trans (hM3.trans hM4)
  replace hA1 := hA1.mono (hM3.trans hM4)
  replace hA2 := hA2.mono (hM3.trans hM4)
  refine tl_e rfl (e_alloc (fun b1 => ?_))
  refine tl_e rfl (e_alloc (fun b2 => ?_))
  refine tl_e rfl (e_store rfl rfl (by rfl) (by rfl) inferInstance inferInstance inferInstance ?_)
  refine tl_e rfl (e_store rfl rfl (by rfl) (by rfl) inferInstance inferInstance inferInstance ?_)
  refine tl_nil (.then_normal ?_)
  refine .sub (F' := [(0, _), (2, _), (3, _), (4, _), (5, _)]) (.cons rfl (.cons rfl (.cons rfl (.cons rfl (.cons rfl .nil))))) ?_
  refine x_seq ?_
  refine x_draw0 9 ([(b1, .cells (List.toArray [.int .u64 ((readRec s.n one).1.toNat : Int), .slice A3 n3 c3]) 136 (0, 0))]) Keeps.mem hmix rfl ?_
  refine to_p 0 rfl (by kernel_rfl) rfl (y_move (v := .pointer _) rfl) ?_
  refine to_p 1 rfl (by kernel_rfl) rfl (y_move (v := .pointer _) rfl) ?_
  refine to_y 2 rfl (by kernel_rfl) rfl (y_loadAgg rfl rfl (.own inferInstance inferInstance)) ?_
  refine to_p 3 rfl (by kernel_rfl) rfl (y_nilCheck rfl) ?_
  refine to_p 4 rfl (by kernel_rfl) rfl (y_fieldAddr rfl) ?_
  refine to_e 5 rfl (by kernel_rfl) rfl (e_store rfl rfl (by rfl) (by rfl) inferInstance inferInstance inferInstance ?_)
  refine ⟨⟨(by first | exact Le.refl _ | assumption), Keeps.mem⟩, ?_⟩
  refine to_p 6 rfl (by kernel_rfl) rfl (y_nilCheck rfl) ?_
  refine to_p 7 rfl (by kernel_rfl) rfl (y_fieldAddr rfl) ?_
  refine to_e 8 rfl (by kernel_rfl) rfl (e_store rfl rfl (by rfl) (by rfl) inferInstance inferInstance inferInstance ?_)
  refine ⟨⟨(by first | exact Le.refl _ | assumption), Keeps.mem⟩, ?_⟩
  refine to_nil (by kernel_rfl) (.then_normal ?_)
  refine .sub (F' := [(0, _), (2, _), (3, _), (4, _), (5, _)]) (.cons rfl (.cons rfl (.cons rfl (.cons rfl (.cons rfl .nil))))) ?_
  refine x_block ?_
  refine x_seq (x_region ?_)
  refine tl_y rfl (y_fieldAddr rfl) ?_
  refine tl_y rfl (y_load rfl rfl (.own inferInstance inferInstance)) ?_
  refine tl_y rfl (y_fieldAddr rfl) ?_
  refine tl_y rfl (y_load rfl rfl (.own inferInstance inferInstance)) ?_
  refine tl_y rfl (y_gtr rfl rfl) ?_
  refine tl_y rfl (y_assign (v := .bool _) rfl) ?_
  refine tl_nil (.then_normal ?_)
  refine .sub (F' := [(0, _), (2, _), (3, _), (4, _), (5, _), (24, _)]) (.cons rfl (.cons rfl (.cons rfl (.cons rfl (.cons rfl (.cons rfl .nil)))))) ?_
  refine x_cond rfl (fun hc1 => ?_) (fun hc1 => ?_)
  ·
    refine x_draw0 9 ([(b2, .cells (List.toArray [.int .u64 ((readRec s.n two).1.toNat : Int), .slice A4 n4 c4]) 136 (0, 0))]) Keeps.mem hmix rfl ?_
    refine to_p 0 rfl (by kernel_rfl) rfl (y_move (v := .pointer _) rfl) ?_
    refine to_p 1 rfl (by kernel_rfl) rfl (y_move (v := .pointer _) rfl) ?_
    refine to_y 2 rfl (by kernel_rfl) rfl (y_loadAgg rfl rfl (.own inferInstance inferInstance)) ?_
    refine to_p 3 rfl (by kernel_rfl) rfl (y_nilCheck rfl) ?_
    refine to_p 4 rfl (by kernel_rfl) rfl (y_fieldAddr rfl) ?_
    refine to_e 5 rfl (by kernel_rfl) rfl (e_store rfl rfl (by rfl) (by rfl) inferInstance inferInstance inferInstance ?_)
    refine ⟨⟨(by first | exact Le.refl _ | assumption), Keeps.mem⟩, ?_⟩
    refine to_p 6 rfl (by kernel_rfl) rfl (y_nilCheck rfl) ?_
    refine to_p 7 rfl (by kernel_rfl) rfl (y_fieldAddr rfl) ?_
    refine to_e 8 rfl (by kernel_rfl) rfl (e_store rfl rfl (by rfl) (by rfl) inferInstance inferInstance inferInstance ?_)
    refine ⟨⟨(by first | exact Le.refl _ | assumption), Keeps.mem⟩, ?_⟩
    refine to_nil (by kernel_rfl) (.block_normal (.dropTo (dL d r S (sL p d { s with at_ := 1, num := (readRec s.n two).1, b := (readRec s.n two).2 } A4 n4 c4 :: R)) inferInstance (end0 rfl hm (by
  rw [hres, loaded, if_pos (by omega)]
  exact ⟨rfl, r, _, _, _, h.mono hm, hA4, rfl⟩))))
  ·
    refine x_seq (x_region ?_)
    refine tl_y rfl (y_fieldAddr rfl) ?_
    refine tl_y rfl (y_load rfl rfl (.own inferInstance inferInstance)) ?_
    refine tl_y rfl (y_gtr rfl rfl) ?_
    refine tl_y rfl (y_assign (v := .bool _) rfl) ?_
    refine tl_nil (.then_normal ?_)
    refine .sub (F' := [(2, _), (3, _), (37, _)]) (.cons rfl (.cons rfl (.cons rfl .nil))) ?_
    refine x_cond rfl (fun hc2 => ?_) (fun hc2 => ?_)
    ·
      refine x_skip (.block_normal (.dropTo (dL d r S (sL p d { s with at_ := 0, num := (readRec s.n one).1, b := (readRec s.n one).2 } A3 n3 c3 :: R)) inferInstance (end0 rfl hm (by
  rw [hres, loaded, if_neg (by omega), if_pos (by omega)]
  exact ⟨rfl, r, _, _, _, h.mono hm, hA3, rfl⟩))))
    ·
      refine x_seq (x_region ?_)
      refine tl_y rfl (y_move (v := .slice _ _ _) rfl) ?_
      refine tl_e rfl (e_call' rfl (blank_spec hA1) ?_)
      rintro _ _ _ _ ⟨rfl, rfl, rfl⟩
      refine tl_y rfl (y_move (v := .bool _) rfl) ?_
      refine tl_casesb (s := 44) rfl (fun hk1 => ?_) (fun hk1 => ?_)
      ·
        refine tl_skip rfl ?_
        refine tl_skip rfl ?_
        refine tl_y rfl (y_pickT rfl rfl) ?_
        refine tl_y rfl (y_assign (v := .bool _) rfl) ?_
        refine tl_nil (.then_normal ?_)
        refine .sub (F' := [(41, _)]) (.cons rfl .nil) ?_
        refine x_true rfl rfl ?_
        refine x_region ?_
        refine tl_e rfl (e_call rfl (well_spec 11) (by
  rintro _ _ _ _ ⟨rfl, rfl, rfl, _⟩
  refine .dropTo (dL d r S (sL p d { s with at_ := 0, num := (readRec s.n one).1, b := (readRec s.n one).2 } A3 n3 c3 :: R)) inferInstance (.retA rfl hm ?_)
  rw [hres, loaded, if_neg (by omega), if_neg (by omega), if_pos (.inl hk1)]
  exact ⟨rfl, r, _, _, _, h.mono hm, hA3, rfl⟩) ?_)
        rintro _ _ _ _ ⟨rfl, rfl, hz⟩
        refine tl_nil (.block_normal (end0 rfl hm (absurd hz (by decide))))
      ·
        refine tl_y rfl (y_move (v := .slice _ _ _) rfl) ?_
        refine tl_e rfl (e_call' rfl (blank_spec hA2) ?_)
        rintro _ _ _ _ ⟨rfl, rfl, rfl⟩
        refine tl_y rfl (y_pickF rfl rfl) ?_
        refine tl_y rfl (y_assign (v := .bool _) rfl) ?_
        refine tl_nil (.then_normal ?_)
        refine .sub (F' := [(41, _)]) (.cons rfl .nil) ?_
        refine x_condb rfl (fun hc3 => ?_) (fun hc3 => ?_)
        ·
          refine x_region ?_
          refine tl_e rfl (e_call rfl (well_spec 11) (by
  rintro _ _ _ _ ⟨rfl, rfl, rfl, _⟩
  refine .dropTo (dL d r S (sL p d { s with at_ := 0, num := (readRec s.n one).1, b := (readRec s.n one).2 } A3 n3 c3 :: R)) inferInstance (.retA rfl hm ?_)
  rw [hres, loaded, if_neg (by omega), if_neg (by omega), if_pos (.inr hc3)]
  exact ⟨rfl, r, _, _, _, h.mono hm, hA3, rfl⟩) ?_)
          rintro _ _ _ _ ⟨rfl, rfl, hz⟩
          refine tl_nil (.block_normal (end0 rfl hm (absurd hz (by decide))))
        ·
          refine x_region ?_
          refine tl_e rfl (e_call rfl (well_spec 8) (by
  rintro _ _ _ _ ⟨rfl, rfl, rfl, _⟩
  refine .dropTo (dL d r S (sL p d { s with at_ := 0, num := (readRec s.n one).1, b := (readRec s.n one).2 } A3 n3 c3 :: R)) inferInstance (.retA rfl hm ?_)
  rw [hres, loaded, if_neg (by omega), if_neg (by omega), if_neg (by rw [hk1, hc3]; simp)]
  exact ⟨rfl, r, _, _, _, h.mono hm, hA3, rfl⟩) ?_)
          rintro _ _ _ _ ⟨rfl, rfl, hz⟩
          refine tl_nil (.block_normal (end0 rfl hm (absurd hz (by decide))))
theorem Now_spec (hb : Bytes M A0 l0 c0 s.b) (hbl : s.b.length ≤ 140737488355328) :
    Con Tryd.prog 32 #[.pointer (some ⟨p, 0, none⟩)] G M (sL p d s A0 l0 c0 :: R) (fun v M' L' => L' = sL p d s A0 l0 c0 :: R ∧ ∃ A c, v = .tuple #[.slice A l0 c, .int .u64 (s.num.toNat : Int)] ∧ Bytes M' A l0 c s.b) noPanic := by
  have hl := hb.size
  refine enter (args := [_]) (fn := Tryd.f32) ⟨Tryd.func32, rfl, by kernel_rfl, by kernel_rfl⟩ 15 rfl ?_
  refine x_seq (x_region ?_)
  refine tl_y rfl (y_assign rfl) ?_
  refine tl_y rfl (y_assign rfl) ?_
  refine tl_nil (.then_normal ?_)
  refine x_seq ?_
  refine x_draw 13 hmix rfl ?_
  refine to_p 0 rfl (by kernel_rfl) rfl (y_move (v := .pointer _) rfl) ?_
  refine to_p 1 rfl (by kernel_rfl) rfl (y_nilCheck rfl) ?_
  refine to_p 2 rfl (by kernel_rfl) rfl (y_fieldAddr rfl) ?_
  refine to_p 3 rfl (by kernel_rfl) rfl (y_fieldAddr rfl) ?_
  refine to_y 4 rfl (by kernel_rfl) rfl (y_load rfl rfl (.own inferInstance inferInstance)) ?_
  refine to_p 6 rfl (by kernel_rfl) rfl (y_move (v := .pointer _) rfl) ?_
  refine to_p 7 rfl (by kernel_rfl) rfl (y_nilCheck rfl) ?_
  refine to_p 8 rfl (by kernel_rfl) rfl (y_fieldAddr rfl) ?_
  refine to_p 9 rfl (by kernel_rfl) rfl (y_fieldAddr rfl) ?_
  refine to_y 10 rfl (by kernel_rfl) rfl (y_load rfl rfl (.own inferInstance inferInstance)) ?_
  refine to_e 5 rfl (by kernel_rfl) rfl (e_call' rfl (bytesClone_spec hb (by omega)) ?_)
  rintro _ M1 _ hM1 ⟨rfl, A1, c1, rfl, hA1⟩
  refine ⟨⟨(by first | exact Le.refl _ | assumption), Keeps.mem⟩, ?_⟩
  refine to_p 11 rfl (by kernel_rfl) rfl (y_assign (v := .slice _ _ _) rfl) ?_
  refine to_p 12 rfl (by kernel_rfl) rfl (y_assign (v := .int _ _) rfl) ?_
  refine to_nil (by kernel_rfl) (.then_normal ?_)
  refine .sub (F' := [(2, _), (3, _)]) (.cons rfl (.cons rfl .nil)) ?_
  refine x_ret (ret2 rfl rfl rfl hM1 ⟨rfl, A1, c1, rfl, hA1⟩)
/-- What 'Load' tells. -/
def loadTold (S : DS) (s : SS) : List UInt8 × UInt64 := if (loadRes S s).2 = 0 then ((loadRes S s).1.b, (loadRes S s).1.num) else ([], 0)
theorem Load_spec (hg : ShaG M) (h : IsDisk M r S) (ok : OkS S s) (hb : Bytes M A0 l0 c0 s.b) :
    Con Tryd.prog 29 #[.pointer (some ⟨p, 0, none⟩)] G M (dL d r S (sL p d s A0 l0 c0 :: R))
      (fun v M' L' => SK p d S (loadRes S s).1 R M' L' ∧ ∃ A n c, v = .tuple #[.slice A n c, .int .u64 ((loadTold S s).2.toNat : Int), .int .i64 (loadRes S s).2] ∧ Bytes M' A n c (loadTold S s).1) noPanic := by
  have hok := loadRes_ok ok
  refine enter (args := [_]) (fn := Tryd.f29) ⟨Tryd.func29, rfl, by kernel_rfl, by kernel_rfl⟩ 21 rfl ?_
  refine x_seq (x_region ?_)
  refine tl_y rfl (y_assign rfl) ?_
  refine tl_y rfl (y_assign rfl) ?_
  refine tl_y rfl (y_assign rfl) ?_
  refine tl_nil (.then_normal ?_)
  refine x_seq (x_seq (x_region ?_))
  refine tl_y rfl (y_move (v := .pointer _) rfl) ?_
  refine tl_y rfl (y_makeFunc rfl rfl) ?_
  refine tl_e rfl (e_call' rfl (caught_spec (first := [.pointer (some ⟨p, 0, none⟩)]) (cap := []) (K := fun M' L' => (loadRes S s).2 = 0 ∧ SK p d S (loadRes S s).1 R M' L') (Kc := fun e M' L' => e = (loadRes S s).2 ∧ SK p d S (loadRes S s).1 R M' L') (fun b o => (Con.to (dL d r S (sL p d s A0 l0 c0 :: (b, o) :: R)) inferInstance (load_spec hg h ok hb)).postP
  (fun v M' L' _ ⟨h0, r', A', l', c', k1, k2, e⟩ => ⟨(b, o) :: dL d r' S (sL p d (loadRes S s).1 A' l' c' :: R), by rw [e]; infer_instance, _, rfl, h0, r', A', l', c', k1, k2, rfl⟩)
  (fun ch M' L' _ ⟨h0, r', A', l', c', k1, k2, e⟩ => ⟨(b, o) :: dL d r' S (sL p d (loadRes S s).1 A' l' c' :: R), by rw [e]; infer_instance, _, _, h0, rfl, rfl, r', A', l', c', k1, k2, rfl⟩))) ?_)
  rintro v1 M1 L1 hM1 hv
  obtain ⟨e, rfl, he, r1, A1, l1, c1, hd1, hb1, rfl⟩ : ∃ e, v1 = Value.int .i64 e ∧ e = (loadRes S s).2 ∧ SK p d S (loadRes S s).1 R M1 L1 := by
    rcases hv with ⟨rfl, h0, hk⟩ | ⟨e, rfl, h0, hk⟩
    · exact ⟨0, rfl, h0.symm, hk⟩
    · exact ⟨e, rfl, h0, hk⟩
  subst he
  have hl1 := hb1.size
  refine tl_y rfl (y_assign (v := .int _ _) rfl) ?_
  refine tl_nil (.then_normal ?_)
  refine .sub (F' := [(0, _), (5, _)]) (.cons rfl (.cons rfl .nil)) ?_
  refine x_seq (x_region ?_)
  refine tl_y rfl (y_move (v := .int _ _) rfl) ?_
  refine tl_y rfl (y_neq rfl rfl) ?_
  refine tl_nil (.then_normal ?_)
  refine x_cond rfl (fun hc1 => ?_) (fun hc1 => ?_)
  ·
    refine x_seq (x_region ?_)
    refine tl_y rfl (y_move (v := .int _ _) rfl) ?_
    refine tl_y rfl (y_assign rfl) ?_
    refine tl_y rfl (y_assign rfl) ?_
    refine tl_y rfl (y_assign (v := .int _ _) rfl) ?_
    refine tl_nil (.then_normal ?_)
    refine .sub (F' := [(2, _), (3, _), (4, _)]) (.cons rfl (.cons rfl (.cons rfl .nil))) ?_
    refine x_ret (.then_ret (ret3 rfl rfl rfl rfl hM1 ⟨⟨r1, A1, l1, c1, hd1, hb1, rfl⟩, none, 0, 0, by rw [show loadTold S s = ([], 0) by rw [loadTold, if_neg hc1]]; rfl, by rw [show loadTold S s = ([], 0) by rw [loadTold, if_neg hc1]]; exact Row.nil _ _⟩))
  ·
    refine x_skip (.then_normal ?_)
    refine x_seq (x_region ?_)
    refine tl_y rfl (y_move (v := .pointer _) rfl) ?_
    refine tl_e rfl (e_call' rfl (Con.to (sL p d (loadRes S s).1 A1 l1 c1 :: (d, .cells (List.toArray (dcells r1 S)) 134 (0, 0)) :: (r1.E1 ++ (r1.E2 ++ R))) inferInstance (Now_spec hb1 (by have := hok.b; have := hok.n; omega))) ?_)
    rintro _ M2 _ hM2 ⟨rfl, A2, c2, rfl, hA2⟩
    refine tl_y rfl (y_move (v := .tuple _) rfl) ?_
    refine tl_y rfl (y_extract rfl) ?_
    refine tl_y rfl (y_extract rfl) ?_
    refine tl_y rfl (y_assign (v := .slice _ _ _) rfl) ?_
    refine tl_y rfl (y_assign (v := .int _ _) rfl) ?_
    refine tl_nil (.then_normal ?_)
    refine .sub (F' := [(6, _), (7, _)]) (.cons rfl (.cons rfl .nil)) ?_
    refine x_seq (x_region ?_)
    refine tl_y rfl (y_move (v := .slice _ _ _) rfl) ?_
    refine tl_y rfl (y_move (v := .int _ _) rfl) ?_
    refine tl_y rfl (y_assign (v := .slice _ _ _) rfl) ?_
    refine tl_y rfl (y_assign (v := .int _ _) rfl) ?_
    refine tl_y rfl (y_assign rfl) ?_
    refine tl_nil (.then_normal ?_)
    refine .sub (F' := [(2, _), (3, _), (4, _)]) (.cons rfl (.cons rfl (.cons rfl .nil))) ?_
    refine x_ret (.dropTo (dL d r1 S (sL p d (loadRes S s).1 A1 l1 c1 :: R)) inferInstance (ret3 rfl rfl rfl rfl (hM1.trans hM2) (by
  have h0 : (loadRes S s).2 = 0 := by omega
  rw [show loadTold S s = ((loadRes S s).1.b, (loadRes S s).1.num) by rw [loadTold, if_pos h0], h0]
  exact ⟨⟨r1, A1, l1, c1, hd1.mono hM2, hb1.mono hM2, rfl⟩, A2, l1, c2, rfl, hA2⟩)))
end
end Go.Proofs.YtbgdjdhbejbhkaaDoor
