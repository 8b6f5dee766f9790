/-
Contracts of functions, each proved by a walk through its code.
-/
import Derived.Test.YtbgdjdhbejbhkaaDoorLaw20b
set_option linter.unusedVariables false
set_option linter.unusedSimpArgs false
namespace Go.Proofs.YtbgdjdhbejbhkaaDoor
open Go Go.Eng
def nz (a : List UInt8) (i : Nat) : UInt8 := UInt8.ofNat (1 + (a.getD (i % a.length) 0).toNat % 255)
theorem nz_toNat (a : List UInt8) (i : Nat) : (nz a i).toNat = 1 + (a.getD (i % a.length) 0).toNat % 255 := by rw [nz, UInt8.toNat_ofNat']; omega
def xsOf (a : List UInt8) (k : Nat) : List UInt8 := (List.range k).map (nz a)
theorem xsOf_length (a : List UInt8) (k : Nat) : (xsOf a k).length = k := by simp [xsOf]
theorem xsOf_step (a : List UInt8) (k : Nat) (h : k < 64) : ((xsOf a k ++ List.replicate (64 - k) 0).map bv).set k (bv (nz a k)) = (xsOf a (k + 1) ++ List.replicate (64 - (k + 1)) 0).map bv := by
  obtain ⟨d, hd⟩ : ∃ d, 64 = k + 1 + d := ⟨63 - k, by omega⟩
  rw [hd, show k + 1 + d - k = d + 1 by omega, show k + 1 + d - (k + 1) = d by omega, List.replicate_succ]
  have hl := xsOf_length a k
  rw [List.map_append, List.set_append_right _ _ (by simp [hl])]
  simp [hl, xsOf, List.range_succ]
def bS1 (x : List UInt8) : DS := { sure := List.replicate 4 zeros, pend := [(1, x)], fail := [], stop := 0, count := 1, down := false }
def bS2 (x y : List UInt8) : DS := { sure := List.replicate 4 zeros, pend := [(1, x), (2, y)], fail := [], stop := 0, count := 2, down := false }
theorem bl1 {x : List UInt8} (hx : x.length = 64) : writeRes (fresh 4) 1 x = (bS1 x, 0) := by simp [writeRes, doingRes, fresh, added, hx, bS1]
theorem bl3 {x y : List UInt8} (hy : y.length = 64) : writeRes (bS1 x) 2 y = (bS2 x y, 0) := by simp [writeRes, doingRes, added, hy, bS1, bS2]
theorem rr_zx (x : List UInt8) : readRec 2 (zeros ++ x) = (0, []) := by
  rw [readRec, if_pos (.inl (by rw [numOf, List.take_append_of_le_length (by simp [zeros]), zeros, List.take_replicate, getB_zeros]))]
theorem rr_yz (b : List UInt8) : readRec 2 (xsOf b 64 ++ zeros) = (0, []) := by
  have hc : 64 * 2 - 28 < cntOf (xsOf b 64 ++ zeros) := by
    have h : ((xsOf b 64 ++ zeros).drop 8).take 4 = [nz b 8, nz b 9, nz b 10, nz b 11] := rfl
    have h8 := nz_toNat b 8
    rw [cntOf, h]
    simp only [getB, List.foldl_cons, List.foldl_nil]
    omega
  rw [readRec, if_pos (.inr hc)]
theorem bl2 (x : List UInt8) : loadRes (bS1 x) (s0 0 2) = (s0 0 2, 11) := by
  have h1 : areaB (bS1 x) 0 2 = zeros ++ x := by simp [areaB, readRes, lastW, bS1]
  have h2 : areaB (bS1 x) (0 + 2) 2 = List.replicate 128 0 := by simp [areaB, readRes, lastW, bS1, zeros]
  rw [loadRes, if_neg (by simp [bS1])]
  show loaded (s0 0 2) (areaB (bS1 x) 0 2) (areaB (bS1 x) (0 + 2) 2) = _
  rw [h1, h2, loaded]
  show (if (readRec 2 (zeros ++ x)).1.toNat < (readRec 2 (List.replicate 128 0)).1.toNat then _ else ({ s0 0 2 with at_ := 0, num := (readRec 2 (zeros ++ x)).1, b := (readRec 2 (zeros ++ x)).2 }, if 0 < (readRec 2 (zeros ++ x)).1.toNat then (0 : Int) else if isBlank (zeros ++ x) = true ∨ isBlank (List.replicate 128 0) = true then 11 else 8) : SS × Int) = _
  rw [rr_zx, readRec_zeros, if_neg (by decide), if_neg (by decide), if_pos (.inr (by decide))]
  rfl
theorem notBlank (a : List UInt8) (l r : List UInt8) : isBlank (l ++ (xsOf a 64 ++ r)) = false := by
  rw [Bool.eq_false_iff]
  intro h
  have h1 := List.all_eq_true.1 h (nz a 0) (List.mem_append_right _ (List.mem_append_left _ (List.mem_map.2 ⟨0, by simp, rfl⟩)))
  have h2 := nz_toNat a 0
  have h3 : nz a 0 = 0 := by simpa using h1
  rw [h3] at h2
  have : (0 : UInt8).toNat = 0 := rfl
  omega
theorem bl4 (a b : List UInt8) : loadRes (bS2 (xsOf a 64) (xsOf b 64)) (s0 0 2) = (s0 0 2, 8) := by
  have h1 : areaB (bS2 (xsOf a 64) (xsOf b 64)) 0 2 = zeros ++ xsOf a 64 := by simp [areaB, readRes, lastW, bS2]
  have h2 : areaB (bS2 (xsOf a 64) (xsOf b 64)) (0 + 2) 2 = xsOf b 64 ++ zeros := by simp [areaB, readRes, lastW, bS2]
  have n1 : isBlank (zeros ++ xsOf a 64) = false := by have := notBlank a zeros []; rwa [List.append_nil] at this
  have n2 : isBlank (xsOf b 64 ++ zeros) = false := notBlank b [] zeros
  rw [loadRes, if_neg (by simp [bS2])]
  show loaded (s0 0 2) (areaB (bS2 (xsOf a 64) (xsOf b 64)) 0 2) (areaB (bS2 (xsOf a 64) (xsOf b 64)) (0 + 2) 2) = _
  rw [h1, h2, loaded]
  show (if (readRec 2 (zeros ++ xsOf a 64)).1.toNat < (readRec 2 (xsOf b 64 ++ zeros)).1.toNat then _ else ({ s0 0 2 with at_ := 0, num := (readRec 2 (zeros ++ xsOf a 64)).1, b := (readRec 2 (zeros ++ xsOf a 64)).2 }, if 0 < (readRec 2 (zeros ++ xsOf a 64)).1.toNat then (0 : Int) else if isBlank (zeros ++ xsOf a 64) = true ∨ isBlank (xsOf b 64 ++ zeros) = true then 11 else 8) : SS × Int) = _
  rw [rr_zx, rr_yz, if_neg (by decide), if_neg (by decide), if_neg (by rw [n1, n2]; decide)]
  rfl
section
variable {G : World} {M : Mem} {L R : Own}
theorem SlotsBlank_spec (hg : ShaG M) {A B : Option Addr} {n c m e : Nat} {a b : List UInt8} (ha : Bytes M A n c a) (hb : Bytes M B m e b) :
    Con Tryd.prog 6 #[.slice A n c, .slice B m e] G M L (fun v M' L' => v = .bool true) noPanic := by
  have hal := ha.size
  have hbl := hb.size
  refine enter (args := [_, _]) (fn := Tryd.f6) ⟨Tryd.func6, rfl, by kernel_rfl, by kernel_rfl⟩ 144 rfl ?_
  refine x_seq (x_region ?_)
  refine tl_y rfl (y_assign rfl) ?_
  refine tl_nil (.then_normal ?_)
  refine x_seq (x_seq (x_region ?_))
  refine tl_e rfl (e_call' rfl (awake20_spec hg) ?_)
  rintro _ M1 _ hM1 ⟨rfl, rfl⟩
  have hm := hM1
  refine tl_y rfl (y_not rfl) ?_
  refine tl_nil (.then_normal ?_)
  refine x_false rfl (rfl) ?_
  refine x_skip (.then_normal ?_)
  refine x_seq (x_seq (x_region ?_))
  refine tl_y rfl (y_move (v := .slice _ _ _) rfl) ?_
  refine tl_y rfl (y_len rfl) ?_
  refine tl_y rfl (y_gtr rfl rfl) ?_
  refine tl_y rfl (y_move (v := .bool _) rfl) ?_
  refine tl_cases (s := 30) rfl (fun hk1 => ?_) (fun hk1 => ?_)
  ·
    refine tl_skip rfl ?_
    refine tl_skip rfl ?_
    refine tl_skip rfl ?_
    refine tl_y rfl (y_pickT rfl rfl) ?_
    refine tl_y rfl (y_move (v := .bool _) rfl) ?_
    refine tl_skip rfl ?_
    refine tl_skip rfl ?_
    refine tl_skip rfl ?_
    refine tl_y rfl (y_pickT rfl rfl) ?_
    refine tl_y rfl (y_move (v := .bool _) rfl) ?_
    refine tl_skip rfl ?_
    refine tl_skip rfl ?_
    refine tl_skip rfl ?_
    refine tl_y rfl (y_pickT rfl rfl) ?_
    refine tl_nil (.then_normal ?_)
    refine .sub (F' := [(0, _), (1, _), (44, _)]) (.cons rfl (.cons rfl (.cons rfl .nil))) ?_
    refine x_true rfl rfl ?_
    refine x_seq (x_region ?_)
    refine tl_y rfl (y_assign rfl) ?_
    refine tl_nil (.then_normal ?_)
    refine x_ret (.then_ret (ret1 rfl rfl hm rfl))
  ·
    refine tl_y rfl (y_move (v := .slice _ _ _) rfl) ?_
    refine tl_y rfl (y_len rfl) ?_
    refine tl_y rfl (y_gtr rfl rfl) ?_
    refine tl_y rfl (y_pickF rfl rfl) ?_
    refine tl_y rfl (y_move (v := .bool _) rfl) ?_
    refine tl_cases (s := 35) rfl (fun hk2 => ?_) (fun hk2 => ?_)
    ·
      refine tl_skip rfl ?_
      refine tl_skip rfl ?_
      refine tl_skip rfl ?_
      refine tl_y rfl (y_pickT rfl rfl) ?_
      refine tl_y rfl (y_move (v := .bool _) rfl) ?_
      refine tl_skip rfl ?_
      refine tl_skip rfl ?_
      refine tl_skip rfl ?_
      refine tl_y rfl (y_pickT rfl rfl) ?_
      refine tl_nil (.then_normal ?_)
      refine .sub (F' := [(0, _), (1, _), (44, _)]) (.cons rfl (.cons rfl (.cons rfl .nil))) ?_
      refine x_true rfl rfl ?_
      refine x_seq (x_region ?_)
      refine tl_y rfl (y_assign rfl) ?_
      refine tl_nil (.then_normal ?_)
      refine x_ret (.then_ret (ret1 rfl rfl hm rfl))
    ·
      refine tl_y rfl (y_move (v := .slice _ _ _) rfl) ?_
      refine tl_y rfl (y_len rfl) ?_
      refine tl_y rfl (y_eql rfl rfl) ?_
      refine tl_y rfl (y_pickF rfl rfl) ?_
      refine tl_y rfl (y_move (v := .bool _) rfl) ?_
      refine tl_cases (s := 40) rfl (fun hk3 => ?_) (fun hk3 => ?_)
      ·
        refine tl_skip rfl ?_
        refine tl_skip rfl ?_
        refine tl_skip rfl ?_
        refine tl_y rfl (y_pickT rfl rfl) ?_
        refine tl_nil (.then_normal ?_)
        refine .sub (F' := [(0, _), (1, _), (44, _)]) (.cons rfl (.cons rfl (.cons rfl .nil))) ?_
        refine x_true rfl rfl ?_
        refine x_seq (x_region ?_)
        refine tl_y rfl (y_assign rfl) ?_
        refine tl_nil (.then_normal ?_)
        refine x_ret (.then_ret (ret1 rfl rfl hm rfl))
      ·
        refine tl_y rfl (y_move (v := .slice _ _ _) rfl) ?_
        refine tl_y rfl (y_len rfl) ?_
        refine tl_y rfl (y_eql rfl rfl) ?_
        refine tl_y rfl (y_pickF rfl rfl) ?_
        refine tl_nil (.then_normal ?_)
        refine .sub (F' := [(0, _), (1, _), (44, _)]) (.cons rfl (.cons rfl (.cons rfl .nil))) ?_
        refine x_cond rfl (fun hc2 => ?_) (fun hc2 => ?_)
        ·
          refine x_seq (x_region ?_)
          refine tl_y rfl (y_assign rfl) ?_
          refine tl_nil (.then_normal ?_)
          refine x_ret (.then_ret (ret1 rfl rfl hm rfl))
        ·
          refine x_skip (.then_normal ?_)
          refine x_seq (x_region ?_)
          refine tl_e rfl (e_call' rfl (New_spec 4) ?_)
          intro _ M2 L2 hM2 hv
          replace hm := hm.trans hM2
          rw [if_neg (by omega)] at hv
          obtain ⟨d, ⟨r2, hd2, rfl⟩, rfl⟩ := hv
          refine tl_y rfl (y_move (v := .tuple _) rfl) ?_
          refine tl_y rfl (y_extract rfl) ?_
          refine tl_y rfl (y_extract rfl) ?_
          refine tl_y rfl (y_assign (v := .pointer _) rfl) ?_
          refine tl_y rfl (y_assign (v := .int _ _) rfl) ?_
          refine tl_nil (.then_normal ?_)
          refine .sub (F' := [(0, _), (1, _), (5, _)]) (.cons rfl (.cons rfl (.cons rfl .nil))) ?_
          refine x_seq (x_seq (x_region ?_))
          refine tl_y rfl (y_move (v := .pointer _) rfl) ?_
          refine tl_y rfl (y_eqNilPtr rfl rfl) ?_
          refine tl_nil (.then_normal ?_)
          refine x_false rfl (rfl) ?_
          refine x_skip (.then_normal ?_)
          refine x_seq (x_region ?_)
          refine tl_y rfl (y_move (v := .pointer _) rfl) ?_
          refine tl_e rfl (e_call' rfl (sNew_ok (S := fresh 4) hd2 0 2 (by omega) (by rw [fresh_len]; omega)) ?_)
          rintro _ M3 _ hM3 ⟨p, rfl, r3, A3, l3, c3, hd3, hb3, rfl⟩
          replace hm := hm.trans hM3
          have hok0 : OkS (fresh 4) (s0 0 2) := okS0 (by omega) (by rw [fresh_len]; omega)
          refine tl_y rfl (y_move (v := .tuple _) rfl) ?_
          refine tl_y rfl (y_extract rfl) ?_
          refine tl_y rfl (y_extract rfl) ?_
          refine tl_y rfl (y_assign (v := .pointer _) rfl) ?_
          refine tl_y rfl (y_assign (v := .int _ _) rfl) ?_
          refine tl_nil (.then_normal ?_)
          refine .sub (F' := [(0, _), (1, _), (5, _), (7, _)]) (.cons rfl (.cons rfl (.cons rfl (.cons rfl .nil)))) ?_
          refine x_seq (x_seq (x_region ?_))
          refine tl_y rfl (y_move (v := .pointer _) rfl) ?_
          refine tl_y rfl (y_eqNilPtr rfl rfl) ?_
          refine tl_nil (.then_normal ?_)
          refine x_false rfl (rfl) ?_
          refine x_skip (.then_normal ?_)
          refine x_seq (x_region ?_)
          refine tl_y rfl (y_move (v := .pointer _) rfl) ?_
          refine tl_e rfl (e_call' rfl (Load_spec (hg.mono hm) hd3 hok0 hb3) ?_)
          rintro _ M4 _ hM4 ⟨⟨r4, A4, l4, c4, hd4, hb4, rfl⟩, A5, n5, c5, rfl, hA5⟩
          rw [a20_1]
          rw [a20_2] at hb4 ⊢
          replace hm := hm.trans hM4
          refine tl_y rfl (y_move (v := .tuple _) rfl) ?_
          refine tl_y rfl (y_extract rfl) ?_
          refine tl_y rfl (y_extract rfl) ?_
          refine tl_y rfl (y_extract rfl) ?_
          refine tl_y rfl (y_assign (v := .slice _ _ _) rfl) ?_
          refine tl_y rfl (y_assign (v := .int _ _) rfl) ?_
          refine tl_y rfl (y_assign (v := .int _ _) rfl) ?_
          refine tl_nil (.then_normal ?_)
          refine .sub (F' := [(0, _), (1, _), (5, _), (7, _), (11, _)]) (.cons rfl (.cons rfl (.cons rfl (.cons rfl (.cons rfl .nil))))) ?_
          refine x_seq (x_region ?_)
          refine tl_e rfl (e_make1 rfl rfl (by omega) (by omega) (by omega) (by omega) (fun b1 => ?_))
          refine tl_y rfl (y_assign (v := .slice _ _ _) rfl) ?_
          refine tl_nil (.then_normal ?_)
          refine x_seq (x_region ?_)
          refine tl_e rfl (e_make1 rfl rfl (by omega) (by omega) (by omega) (by omega) (fun b2 => ?_))
          refine tl_y rfl (y_assign (v := .slice _ _ _) rfl) ?_
          refine tl_nil (.then_normal ?_)
          refine x_seq (x_seq (x_region ?_))
          refine tl_y rfl (y_assign rfl) ?_
          refine tl_nil (.then_normal ?_)
          refine x_block ?_
          refine x_loop (I := fun m' F D M5 L1 => ∃ (k : Nat), m' = 64 - k ∧ k ≤ 64 ∧ M4 = M5 ∧ D = [] ∧ L1 = (b2, .cells ((xsOf b k ++ List.replicate (64 - k) 0).map bv).toArray 5 (0, 0)) :: (b1, .cells ((xsOf a k ++ List.replicate (64 - k) 0).map bv).toArray 5 (0, 0)) :: dL d r4 (fresh 4) (sL p d (s0 0 2) A4 l4 c4 :: L) ∧ F = [(0, .slice A n c), (1, .slice B m e), (5, .pointer (some ⟨d, 0, none⟩)), (7, .pointer (some ⟨p, 0, none⟩)), (11, .int .i64 11), (12, .slice (some ⟨b1, 0, none⟩) 64 64), (13, .slice (some ⟨b2, 0, none⟩) 64 64), (14, .int .i64 k)]) (64) (F0 := [(0, _), (1, _), (5, _), (7, _), (11, _), (12, _), (13, _), (14, _)]) ?_ (.cons rfl (.cons rfl (.cons rfl (.cons rfl (.cons rfl (.cons rfl (.cons rfl (.cons rfl .nil)))))))) ?_  -- slots [0, 1, 5, 7, 11, 12, 13, 14], written [14]
          · exact ⟨0, rfl, by omega, rfl, rfl, rfl, rfl⟩
          rintro m _ _ M5 L5 ⟨k, rfl, hk, rfl, rfl, rfl, rfl⟩
          refine x_seq (x_seq (x_region ?_))
          refine tl_y rfl (y_move (v := .int _ _) rfl) ?_
          refine tl_y rfl (y_lss rfl rfl) ?_
          refine tl_nil (.then_normal ?_)
          refine x_cond rfl (fun hc5 => ?_) (fun hc5 => ?_)
          ·
            have hkn : k < 64 := by omega
            obtain ⟨i1, hi1⟩ : ∃ i, i = k % n := ⟨_, rfl⟩
            obtain ⟨i2, hi2⟩ : ∃ i, i = k % m := ⟨_, rfl⟩
            have hi1n : i1 < n := by rw [hi1]; exact Nat.mod_lt _ (by omega)
            have hi2n : i2 < m := by rw [hi2]; exact Nat.mod_lt _ (by omega)
            have hz1 : (1 + ((a.getD i1 0).toNat : Int) % 255) = ((nz a k).toNat : Int) := by rw [nz_toNat, hal, ← hi1]; omega
            have hz2 : (1 + ((b.getD i2 0).toNat : Int) % 255) = ((nz b k).toNat : Int) := by rw [nz_toNat, hbl, ← hi2]; omega
            obtain ⟨g1, o1, rfl, hc1'⟩ := (ha.mono hm).byte (by omega)
            obtain ⟨g2, o2, rfl, hc2'⟩ := (hb.mono hm).byte (by omega)
            refine x_skip (.then_normal ?_)
            refine x_seq ?_
            refine x_block ?_
            refine x_seq (x_region ?_)
            refine tl_y rfl (y_move (v := .slice _ _ _) rfl) ?_
            refine tl_y rfl (y_move (v := .int _ _) rfl) ?_
            refine tl_y rfl (y_move (v := .slice _ _ _) rfl) ?_
            refine tl_y rfl (y_move (v := .int _ _) rfl) ?_
            refine tl_y rfl (y_move (v := .slice _ _ _) rfl) ?_
            refine tl_y rfl (y_len rfl) ?_
            refine tl_y rfl (y_remI rfl rfl (by omega)) ?_
            rw [show ((k : Int) % (n : Int)) = (i1 : Int) by simp [hi1]]
            refine tl_y rfl (y_indexAddr rfl rfl (by omega)) ?_
            refine tl_y rfl (y_load rfl rfl (.at_ (hc1' _ i1 hi1n) (by omega))) ?_
            refine tl_y rfl (y_remI rfl rfl (by omega)) ?_
            refine tl_y rfl (y_addN8 rfl rfl (by omega)) ?_
            rw [hz1]
            refine tl_y rfl (y_indexAddr rfl rfl (by omega)) ?_
            refine tl_e rfl (e_storeAt (c := (xsOf a k ++ List.replicate (64 - k) 0).map bv) (v := bv (nz a k)) (o := k) (by show some (Value.pointer (some ⟨b1, _, none⟩)) = _; congr 4; omega) rfl rfl inferInstance (by simp [xsOf_length]; omega) inferInstance ?_)
            rw [xsOf_step a k hkn]
            refine tl_nil (.then_normal ?_)
            refine .sub (F' := [(0, _), (1, _), (5, _), (7, _), (11, _), (12, _), (13, _), (14, _)]) (.cons rfl (.cons rfl (.cons rfl (.cons rfl (.cons rfl (.cons rfl (.cons rfl (.cons rfl .nil)))))))) ?_
            refine x_region ?_
            refine tl_y rfl (y_move (v := .slice _ _ _) rfl) ?_
            refine tl_y rfl (y_move (v := .int _ _) rfl) ?_
            refine tl_y rfl (y_move (v := .slice _ _ _) rfl) ?_
            refine tl_y rfl (y_move (v := .int _ _) rfl) ?_
            refine tl_y rfl (y_move (v := .slice _ _ _) rfl) ?_
            refine tl_y rfl (y_len rfl) ?_
            refine tl_y rfl (y_remI rfl rfl (by omega)) ?_
            rw [show ((k : Int) % (m : Int)) = (i2 : Int) by simp [hi2]]
            refine tl_y rfl (y_indexAddr rfl rfl (by omega)) ?_
            refine tl_y rfl (y_load rfl rfl (.at_ (hc2' _ i2 hi2n) (by omega))) ?_
            refine tl_y rfl (y_remI rfl rfl (by omega)) ?_
            refine tl_y rfl (y_addN8 rfl rfl (by omega)) ?_
            rw [hz2]
            refine tl_y rfl (y_indexAddr rfl rfl (by omega)) ?_
            refine tl_e rfl (e_storeAt (c := (xsOf b k ++ List.replicate (64 - k) 0).map bv) (v := bv (nz b k)) (o := k) (by show some (Value.pointer (some ⟨b2, _, none⟩)) = _; congr 4; omega) rfl rfl inferInstance (by simp [xsOf_length]; omega) inferInstance ?_)
            rw [xsOf_step b k hkn]
            refine tl_nil (.block_normal (.then_normal ?_))
            refine .sub (F' := [(0, _), (1, _), (5, _), (7, _), (11, _), (12, _), (13, _), (14, _)]) (.cons rfl (.cons rfl (.cons rfl (.cons rfl (.cons rfl (.cons rfl (.cons rfl (.cons rfl .nil)))))))) ?_
            refine x_region ?_
            refine tl_y rfl (y_move (v := .int _ _) rfl) ?_
            refine tl_y rfl (y_addI rfl rfl (by omega)) ?_
            refine tl_y rfl (y_assign (v := .int _ _) rfl) ?_
            refine tl_nil (.loop_next (m' := 64 - (k + 1)) (by omega) (F' := [(0, _), (1, _), (5, _), (7, _), (11, _), (12, _), (13, _), (14, _)]) (.cons rfl (.cons rfl (.cons rfl (.cons rfl (.cons rfl (.cons rfl (.cons rfl (.cons rfl .nil)))))))) ?_)
            exact ⟨k + 1, rfl, by omega, rfl, rfl, rfl, rfl⟩
          ·
            obtain rfl : k = 64 := by omega
            refine .pub b1 inferInstance (fun M6 hM6 hx6 => ?_)
            refine .pub b2 inferInstance (fun M7 hM7 hy7 => ?_)
            rw [Nat.sub_self, List.replicate_zero, List.append_nil] at hx6 hy7
            have hX : Bytes M7 (some ⟨b1, 0, none⟩) 64 64 (xsOf a 64) := Row.mono (Row.whole hx6 (by simp [xsOf_length]) (by omega)) hM7
            have hY : Bytes M7 (some ⟨b2, 0, none⟩) 64 64 (xsOf b 64) := Row.whole hy7 (by simp [xsOf_length]) (by omega)
            replace hm := hm.trans (hM6.trans hM7)
            refine x_exit (.then_exit (.loop_exit (.block_exit (.then_normal ?_))))
            refine .sub (F' := [(5, _), (7, _), (11, _), (12, _), (13, _)]) (.cons rfl (.cons rfl (.cons rfl (.cons rfl (.cons rfl .nil))))) ?_
            refine x_seq (x_region ?_)
            refine tl_y rfl (y_move (v := .pointer _) rfl) ?_
            refine tl_y rfl (y_move (v := .slice _ _ _) rfl) ?_
            refine tl_e rfl (e_call' rfl (Write_spec (S := fresh 4) (hd4.mono (hM6.trans hM7)) (by simp [fresh]) (by simp [fresh]) hX) ?_)
            rintro _ M8 _ hM8 ⟨⟨r8, hd8, rfl⟩, rfl⟩
            replace hm := hm.trans hM8
            rw [bl1 (xsOf_length a 64)] at hd8 ⊢
            have hok1 : OkS (bS1 (xsOf a 64)) (s0 0 2) := okS0 (by omega) (by show 0 + 2 * 2 ≤ 4; omega)
            refine tl_y rfl (y_assign (v := .int _ _) rfl) ?_
            refine tl_nil (.then_normal ?_)
            refine .sub (F' := [(5, _), (7, _), (11, _), (13, _), (15, _)]) (.cons rfl (.cons rfl (.cons rfl (.cons rfl (.cons rfl .nil))))) ?_
            refine x_seq (x_region ?_)
            refine tl_y rfl (y_move (v := .pointer _) rfl) ?_
            refine tl_e rfl (e_call' rfl (Load_spec (S := bS1 (xsOf a 64)) (hg.mono hm) hd8 hok1 (hb4.mono (hM6.trans (hM7.trans hM8)))) ?_)
            rintro _ M9 _ hM9 ⟨⟨r9, A9, l9, c9, hd9, hb9, rfl⟩, A10, n10, c10, rfl, hA10⟩
            replace hm := hm.trans hM9
            rw [bl2] at hb9 ⊢
            refine .eqL (L' := dL d r9 (bS1 (xsOf a 64)) (sL p d (s0 0 2) A9 l9 c9 :: L)) rfl ?_
            refine tl_y rfl (y_move (v := .tuple _) rfl) ?_
            refine tl_y rfl (y_extract rfl) ?_
            refine tl_y rfl (y_extract rfl) ?_
            refine tl_y rfl (y_extract rfl) ?_
            refine tl_y rfl (y_assign (v := .slice _ _ _) rfl) ?_
            refine tl_y rfl (y_assign (v := .int _ _) rfl) ?_
            refine tl_y rfl (y_assign (v := .int _ _) rfl) ?_
            refine tl_nil (.then_normal ?_)
            refine .sub (F' := [(5, _), (7, _), (11, _), (13, _), (15, _), (18, _)]) (.cons rfl (.cons rfl (.cons rfl (.cons rfl (.cons rfl (.cons rfl .nil)))))) ?_
            refine x_seq (x_region ?_)
            refine tl_y rfl (y_move (v := .pointer _) rfl) ?_
            refine tl_y rfl (y_move (v := .slice _ _ _) rfl) ?_
            refine tl_e rfl (e_call' rfl (Write_spec (S := bS1 (xsOf a 64)) hd9 (by simp [bS1]) (by simp [bS1]) (hY.mono (hM8.trans hM9))) ?_)
            rintro _ M11 _ hM11 ⟨⟨r11, hd11, rfl⟩, rfl⟩
            replace hm := hm.trans hM11
            rw [bl3 (xsOf_length b 64)] at hd11 ⊢
            have hok2 : OkS (bS2 (xsOf a 64) (xsOf b 64)) (s0 0 2) := okS0 (by omega) (by show 0 + 2 * 2 ≤ 4; omega)
            refine tl_y rfl (y_assign (v := .int _ _) rfl) ?_
            refine tl_nil (.then_normal ?_)
            refine .sub (F' := [(7, _), (11, _), (15, _), (18, _), (19, _)]) (.cons rfl (.cons rfl (.cons rfl (.cons rfl (.cons rfl .nil))))) ?_
            refine x_seq (x_region ?_)
            refine tl_y rfl (y_move (v := .pointer _) rfl) ?_
            refine tl_e rfl (e_call' rfl (Load_spec (S := bS2 (xsOf a 64) (xsOf b 64)) (s := s0 0 2) (hg.mono hm) hd11 hok2 (hb9.mono hM11)) ?_)
            rintro _ M12 _ hM12 ⟨⟨r12, A12, l12, c12, hd12, hb12, rfl⟩, A13, n13, c13, rfl, hA13⟩
            replace hm := hm.trans hM12
            rw [bl4] at hb12 ⊢
            have hl12 := hb12.size
            change 0 = l12 at hl12
            subst hl12
            refine .eqL (L' := dL d r12 (bS2 (xsOf a 64) (xsOf b 64)) (sL p d (s0 0 2) A12 0 c12 :: L)) rfl ?_
            refine tl_y rfl (y_move (v := .tuple _) rfl) ?_
            refine tl_y rfl (y_extract rfl) ?_
            refine tl_y rfl (y_extract rfl) ?_
            refine tl_y rfl (y_extract rfl) ?_
            refine tl_y rfl (y_assign (v := .slice _ _ _) rfl) ?_
            refine tl_y rfl (y_assign (v := .int _ _) rfl) ?_
            refine tl_y rfl (y_assign (v := .int _ _) rfl) ?_
            refine tl_nil (.then_normal ?_)
            refine .sub (F' := [(7, _), (11, _), (15, _), (18, _), (19, _), (22, _)]) (.cons rfl (.cons rfl (.cons rfl (.cons rfl (.cons rfl (.cons rfl .nil)))))) ?_
            refine x_seq (x_region ?_)
            refine tl_y rfl (y_move (v := .pointer _) rfl) ?_
            refine tl_e rfl (e_call' rfl (Con.to (sL p d (s0 0 2) A12 0 c12 :: (d, .cells (List.toArray (dcells r12 (bS2 (xsOf a 64) (xsOf b 64)))) 134 (0, 0)) :: (r12.E1 ++ (r12.E2 ++ L))) inferInstance (Now_spec (s := s0 0 2) hb12 (by show 0 ≤ _; omega))) ?_)
            rintro _ M14 _ hM14 ⟨rfl, A14, c14, rfl, hA14⟩
            replace hm := hm.trans hM14
            refine tl_y rfl (y_move (v := .tuple _) rfl) ?_
            refine tl_y rfl (y_extract rfl) ?_
            refine tl_y rfl (y_extract rfl) ?_
            refine tl_y rfl (y_assign (v := .slice _ _ _) rfl) ?_
            refine tl_y rfl (y_assign (v := .int _ _) rfl) ?_
            refine tl_nil (.then_normal ?_)
            refine .sub (F' := [(11, _), (15, _), (18, _), (19, _), (22, _), (23, _), (24, _)]) (.cons rfl (.cons rfl (.cons rfl (.cons rfl (.cons rfl (.cons rfl (.cons rfl .nil))))))) ?_
            refine x_seq (x_region ?_)
            refine tl_y rfl (y_move (v := .int _ _) rfl) ?_
            refine tl_y rfl (y_eql rfl rfl) ?_
            refine tl_y rfl (y_move (v := .bool _) rfl) ?_
            refine tl_set (s := 119) (u := .bool true) rfl (rfl) ?_
            refine tl_y rfl (y_move (v := .int _ _) rfl) ?_
            refine tl_y rfl (y_eql rfl rfl) ?_
            refine tl_y rfl (y_pickT rfl rfl) ?_
            refine tl_y rfl (y_move (v := .bool _) rfl) ?_
            refine tl_set (s := 123) (u := .bool true) rfl (rfl) ?_
            refine tl_y rfl (y_move (v := .int _ _) rfl) ?_
            refine tl_y rfl (y_eql rfl rfl) ?_
            refine tl_y rfl (y_pickT rfl rfl) ?_
            refine tl_y rfl (y_move (v := .bool _) rfl) ?_
            refine tl_set (s := 127) (u := .bool true) rfl (rfl) ?_
            refine tl_y rfl (y_move (v := .int _ _) rfl) ?_
            refine tl_y rfl (y_eql rfl rfl) ?_
            refine tl_y rfl (y_pickT rfl rfl) ?_
            refine tl_y rfl (y_move (v := .bool _) rfl) ?_
            refine tl_set (s := 131) (u := .bool true) rfl (rfl) ?_
            refine tl_y rfl (y_move (v := .int _ _) rfl) ?_
            refine tl_y rfl (y_eql rfl rfl) ?_
            refine tl_y rfl (y_pickT rfl rfl) ?_
            refine tl_y rfl (y_move (v := .bool _) rfl) ?_
            refine tl_set (s := 135) (u := .bool true) rfl (rfl) ?_
            refine tl_y rfl (y_move (v := .slice _ _ _) rfl) ?_
            refine tl_y rfl (y_len rfl) ?_
            refine tl_y rfl (y_eql rfl rfl) ?_
            refine tl_y rfl (y_pickT rfl rfl) ?_
            refine tl_y rfl (y_move (v := .bool _) rfl) ?_
            refine tl_set (s := 140) (u := .bool true) rfl (rfl) ?_
            refine tl_y rfl (y_move (v := .int _ _) rfl) ?_
            refine tl_y rfl (y_eql rfl rfl) ?_
            refine tl_y rfl (y_pickT rfl rfl) ?_
            refine tl_y rfl (y_assign (v := .bool _) rfl) ?_
            refine tl_nil (.then_normal ?_)
            refine .sub (F' := [(4, _)]) (.cons rfl .nil) ?_
            refine x_ret (ret1 rfl rfl hm rfl)
end
end Go.Proofs.YtbgdjdhbejbhkaaDoor
