/-
Contracts of functions, each proved by a walk through its code.
-/
import Derived.Test.YtbjnjedfoiedeaaDoorOnce1Etc
import Derived.Test.YtbjnjedfoiedeaaDoorMerkle3Etc
set_option linter.unusedVariables false
set_option linter.unusedSimpArgs false
set_option linter.constructorNameAsVariable false
namespace Go.Proofs.YtbjnjedfoiedeaaDoor
open Go Go.Eng
/-- The set of a signature. -/
def sigC (bs : List UInt8) : UInt32 := UInt32.ofNat (getB (bs.take 4))
def ofV (bs : List UInt8) : OtsV × Int :=
  if bs.length < 4 then (ots0, 2) else if otsE (sigC bs) ≠ 0 then (ots0, otsE (sigC bs)) else if bs.length ≠ sizeN (otsV (sigC bs)) then (ots0, 5) else (otsV (sigC bs), 0)
theorem otsV_code {c : UInt32} (h : otsE c = 0) : (otsV c).code = c ∧ okO (otsV c) := by
  obtain ⟨k, hk, e1, e2, e3⟩ := otsE_some h
  have hc : (otsV c).code = c := by
    rw [e2]
    apply UInt32.toNat_inj.1
    show (UInt32.ofNat (k + 1)).toNat = c.toNat
    rw [UInt32.toNat_ofNat', e3, Nat.mod_eq_of_lt (by omega)]
  exact ⟨hc, by rw [okO, hc]; exact ⟨h, rfl⟩⟩
theorem OF.size {o : OtsV} {n w p : Nat} (h : OF o n w p) : sizeN o = 4 + n * (p + 1) ∧ n * (p + 1) = n * p + n ∧ n * p ≤ 32 * 265 := by
  refine ⟨by rw [sizeN, h.hn, h.hp, Int.toNat_natCast, Int.toNat_natCast], Nat.mul_succ n p, Nat.mul_le_mul h.n32.2 h.p2⟩
section
variable {G : World} {M : Mem} {L : Own} {NA SA TA YA : Option Addr} {nl nc sl sc tl tc yl yc : Nat} {name sec text y : List UInt8}
theorem oSize_spec (o : OtsV) {n w p : Nat} (ho : OF o n w p) :
    Con Tryd.prog 34 #[.agg (List.toArray o.cells)] G M L (fun v M' L' => M = M' ∧ L = L' ∧ v = .int .i64 ((sizeN o : Nat) : Int)) noPanic := by
  obtain ⟨h1, h2, h3⟩ := ho.size
  have hn32 := ho.n32
  have hp2 := ho.p2
  have hm : (n : Int) * ((p : Int) + 1) = ((n * (p + 1) : Nat) : Int) := by push_cast; rfl
  refine enter (args := [_]) (fn := Tryd.f34) ⟨Tryd.func34, rfl, by kernel_rfl, by kernel_rfl⟩ 10 rfl ?_
  refine x_seq (x_region ?_)
  refine tl_e rfl (e_box rfl (fun b1 => ?_))
  refine tl_y rfl (y_assign rfl) ?_
  refine tl_nil (.then_normal ?_)
  refine x_seq (x_region ?_)
  refine tl_y rfl (y_fieldAddr rfl) ?_
  refine tl_y rfl (y_load (v := .int .i64 (n : Int)) rfl rfl (by rw [← ho.hn]; exact .own inferInstance inferInstance)) ?_
  refine tl_y rfl (y_fieldAddr rfl) ?_
  refine tl_y rfl (y_load (v := .int .i64 (p : Int)) rfl rfl (by rw [← ho.hp]; exact .own inferInstance inferInstance)) ?_
  refine tl_y rfl (y_addI rfl rfl (by omega)) ?_
  have hmb : -9223372036854775808 ≤ (n : Int) * ((p : Int) + 1) ∧ (n : Int) * ((p : Int) + 1) ≤ 9223372036854775807 := by rw [hm]; omega
  refine tl_y rfl (y_mulI rfl rfl hmb) ?_
  rw [hm]
  refine tl_y rfl (y_addI rfl rfl (by omega)) ?_
  refine tl_y rfl (y_assign (v := .int _ _) rfl) ?_
  refine tl_nil (.then_normal ?_)
  refine .sub (F' := [(2, _)]) (.cons rfl .nil) ?_
  refine x_ret (.dropTo L inferInstance (ret1 rfl rfl (Le.refl _) ⟨rfl, rfl, by rw [h1]; congr 1⟩))
theorem oof_spec (hs : SetG M) {A : Option Addr} {m c : Nat} {bs : List UInt8} (h : Bytes M A m c bs) :
    Con Tryd.prog 65 #[.slice A m c] G M L (fun v M' L' => L = L' ∧ v = .tuple #[.agg (List.toArray (ofV bs).1.cells), .int .i64 (ofV bs).2]) noPanic := by
  have hm := h.size
  have hc := h.le
  refine enter (args := [_]) (fn := Tryd.f65) ⟨Tryd.func65, rfl, by kernel_rfl, by kernel_rfl⟩ 37 rfl ?_
  refine x_seq (x_region ?_)
  refine tl_e rfl (e_alloc (fun b1 => ?_))
  refine tl_y rfl (y_assign rfl) ?_
  refine tl_nil (.then_normal ?_)
  refine x_seq (x_seq (x_region ?_))
  refine tl_y rfl (y_move (v := .slice _ _ _) rfl) ?_
  refine tl_y rfl (y_len rfl) ?_
  refine tl_y rfl (y_lss rfl rfl) ?_
  refine tl_nil (.then_normal ?_)
  refine x_cond rfl (fun hc1 => ?_) (fun hc1 => ?_)
  ·
    refine x_seq (x_region ?_)
    refine tl_y rfl (y_build rfl) ?_
    refine tl_e rfl (e_store rfl rfl (by rfl) (by rfl) inferInstance inferInstance inferInstance ?_)
    refine tl_y rfl (y_assign rfl) ?_
    refine tl_nil (.then_normal ?_)
    refine .sub (F' := [(2, _), (3, _)]) (.cons rfl (.cons rfl .nil)) ?_
    refine x_ret (.then_ret (retRV (L' := L) (rv2 rfl (rc_cellAgg (by rfl) rfl (.own inferInstance inferInstance)) (rc_tmp (by rfl))) inferInstance (Le.refl _) ⟨rfl, by rw [ofV, if_pos (by omega)]; rfl⟩))
  ·
    have h4 : 4 ≤ m := by omega
    refine x_skip (.then_normal ?_)
    refine .sub (F' := [(0, _), (2, _)]) (.cons rfl (.cons rfl .nil)) ?_
    refine x_seq (x_region ?_)
    refine tl_y rfl (y_move (v := .slice _ _ _) rfl) ?_
    refine tl_y rfl (y_sliceH rfl rfl (by omega) (by omega)) ?_
    refine tl_e rfl (e_call' rfl (Get8_spec (Bytes.take h 4 h4) (by omega)) ?_)
    rintro _ _ _ _ ⟨rfl, rfl, x, hx, rfl⟩
    have hgl := getB_lt (bs.take 4)
    rw [List.length_take, Nat.min_eq_left (by omega)] at hgl
    have hcv : ((sigC bs).toNat : Int) = (x.toNat : Int) := by rw [sigC, UInt32.toNat_ofNat', hx, Nat.mod_eq_of_lt (by omega)]
    refine tl_y rfl (y_move (v := .tuple _) rfl) ?_
    refine tl_y rfl (y_extract rfl) ?_
    refine tl_y rfl (y_extract rfl) ?_
    refine tl_y rfl (y_assign (v := .int _ _) rfl) ?_
    refine tl_y rfl (y_assign (v := .bool _) rfl) ?_
    refine tl_nil (.then_normal ?_)
    refine .sub (F' := [(0, _), (2, _), (4, _)]) (.cons rfl (.cons rfl (.cons rfl .nil))) ?_
    refine x_seq (x_region ?_)
    refine tl_y rfl (y_move (v := .int _ _) rfl) ?_
    refine tl_y rfl (y_convE (b := ((sigC bs).toNat : Int)) rfl (by rw [wrapU32, hcv]; omega)) ?_
    refine tl_e rfl (e_call' rfl (Ots_spec hs (sigC bs)) ?_)
    rintro _ M1 _ hM1 ⟨rfl, rfl⟩
    refine tl_y rfl (y_move (v := .tuple _) rfl) ?_
    refine tl_y rfl (y_extract rfl) ?_
    refine tl_y rfl (y_extract rfl) ?_
    refine tl_e rfl (e_alloc (fun b2 => ?_))
    refine tl_e rfl (e_store rfl rfl (by rfl) (by rfl) inferInstance inferInstance inferInstance ?_)
    refine tl_y rfl (y_assign (v := .int _ _) rfl) ?_
    refine tl_nil (.then_normal ?_)
    refine .sub (F' := [(0, _), (2, _), (6, _), (7, _)]) (.cons rfl (.cons rfl (.cons rfl (.cons rfl .nil)))) ?_
    refine x_seq ?_
    refine x_block ?_
    refine x_seq (x_region ?_)
    refine tl_y rfl (y_move (v := .int _ _) rfl) ?_
    refine tl_y rfl (y_neq rfl rfl) ?_
    refine tl_y rfl (y_assign (v := .bool _) rfl) ?_
    refine tl_nil (.then_normal ?_)
    refine x_cond rfl (fun hc2 => ?_) (fun hc2 => ?_)
    ·
      refine x_seq (x_region ?_)
      refine tl_y rfl (y_build rfl) ?_
      refine tl_y rfl (y_move (v := .int _ _) rfl) ?_
      refine tl_e rfl (e_store rfl rfl (by rfl) (by rfl) inferInstance inferInstance inferInstance ?_)
      refine tl_y rfl (y_assign (v := .int _ _) rfl) ?_
      refine tl_nil (.then_normal ?_)
      refine .sub (F' := [(2, _), (3, _), (6, _)]) (.cons rfl (.cons rfl (.cons rfl .nil))) ?_
      refine x_ret (.block_ret (.then_ret (retRV (L' := L) (rv2 rfl (rc_cellAgg (by rfl) rfl (.own inferInstance inferInstance)) (rc_tmp (by rfl))) inferInstance hM1 ⟨rfl, by rw [ofV, if_neg (by omega), if_pos hc2]; rfl⟩)))
    ·
      have he0 : otsE (sigC bs) = 0 := Classical.not_not.1 hc2
      obtain ⟨n, w, p, ho⟩ := okO_facts (otsV_code he0).2
      refine x_seq (x_region ?_)
      refine tl_y rfl (y_move (v := .slice _ _ _) rfl) ?_
      refine tl_y rfl (y_len rfl) ?_
      refine tl_y rfl (y_loadAgg rfl rfl (.own inferInstance inferInstance)) ?_
      refine tl_e rfl (e_call' rfl (oSize_spec _ ho) ?_)
      rintro _ _ _ _ ⟨rfl, rfl, rfl⟩
      refine tl_y rfl (y_neq rfl rfl) ?_
      refine tl_y rfl (y_assign (v := .bool _) rfl) ?_
      refine tl_nil (.then_normal ?_)
      refine .sub (F' := [(2, _), (6, _), (29, _)]) (.cons rfl (.cons rfl (.cons rfl .nil))) ?_
      refine x_cond rfl (fun hc3 => ?_) (fun hc3 => ?_)
      ·
        refine x_seq (x_region ?_)
        refine tl_y rfl (y_build rfl) ?_
        refine tl_e rfl (e_store rfl rfl (by rfl) (by rfl) inferInstance inferInstance inferInstance ?_)
        refine tl_y rfl (y_assign rfl) ?_
        refine tl_nil (.then_normal ?_)
        refine x_ret (.block_ret (.then_ret (retRV (L' := L) (rv2 rfl (rc_cellAgg (by rfl) rfl (.own inferInstance inferInstance)) (rc_tmp (by rfl))) inferInstance hM1 ⟨rfl, by rw [ofV, if_neg (by omega), if_neg hc2, if_pos (by omega)]; rfl⟩)))
      ·
        refine x_skip (.block_normal (.then_normal ?_))
        refine x_seq (x_region ?_)
        refine tl_y rfl (y_loadAgg rfl rfl (.own inferInstance inferInstance)) ?_
        refine tl_e rfl (e_store rfl rfl (by rfl) (by rfl) inferInstance inferInstance inferInstance ?_)
        refine tl_y rfl (y_assign rfl) ?_
        refine tl_nil (.then_normal ?_)
        refine x_ret (retRV (L' := L) (rv2 rfl (rc_cellAgg (by rfl) rfl (.own inferInstance inferInstance)) (rc_tmp (by rfl))) inferInstance hM1 ⟨rfl, by rw [ofV, if_neg (by omega), if_neg hc2, if_neg (by omega)]⟩)
theorem oStands1_spec (hg : ChG M) (o : OtsV) {n w p : Nat} (ho : OF o n w p) (hname : Bytes M NA nl nc name) (q : UInt32) {DA : Option Addr} {dc : Nat} {d : List Nat} (hd : Row M 1 DA p dc (intsL d)) (hy : Bytes M YA yl yc y) (hyl : yl = n * p) (i : Nat) (hi : i < p) {bo bn bq bd by_ : Nat}
    [i1 : Has L bo (.cells (List.toArray o.cells) 62 (0, 0))] [i2 : Has L bn (.cells (List.toArray [.slice NA nl nc]) 22 (0, 0))] [i3 : Has L bq (.cells (List.toArray [.int .u32 (q.toNat : Int)]) 28 (0, 0))] [i4 : Has L bd (.cells (List.toArray [.slice DA p dc]) 47 (0, 0))] [i5 : Has L by_ (.cells (List.toArray [.slice YA yl yc]) 22 (0, 0))] :
    Con Tryd.prog 66 #[.int .i64 (i : Int), .pointer (some ⟨bo, 0, none⟩), .pointer (some ⟨bn, 0, none⟩), .pointer (some ⟨bq, 0, none⟩), .pointer (some ⟨bd, 0, none⟩), .pointer (some ⟨by_, 0, none⟩)] G M L (fun v M' L' => L = L' ∧ ∃ A m c, v = .slice A m c ∧ Bytes M' A m c (staR o name q.toNat d y i)) noPanic := by
  have hp2 := ho.p2
  have hn32 := ho.n32
  have hdl : d.length = p := by have := hd.len; simpa [intsL] using this
  obtain ⟨g, oo, rfl, hcell⟩ := hd.addr (by omega)
  have hyc := hy.le
  have hin : i * n + n ≤ n * p := by
    have := Nat.mul_le_mul_left n (show i + 1 ≤ p from hi)
    rw [Nat.mul_succ, Nat.mul_comm n i] at this
    omega
  have hin2 : n * p ≤ 32 * 265 := Nat.mul_le_mul hn32.2 hp2
  have hm1 : (i : Int) * (n : Int) = ((i * n : Nat) : Int) := by push_cast; rfl
  have hm2 : ((i : Int) + 1) * (n : Int) = ((i * n + n : Nat) : Int) := by rw [Int.add_mul, Int.one_mul, hm1]; push_cast; rfl
  have hsub := Bytes.sub hy (i * n) (i * n + n) (by omega) (by omega)
  rw [show i * n + n - i * n = n by omega] at hsub
  refine enter (args := [_, _, _, _, _, _]) (fn := Tryd.f66) ⟨Tryd.func66, rfl, by kernel_rfl, by kernel_rfl⟩ 30 rfl ?_
  refine x_seq (x_region ?_)
  refine tl_y rfl (y_assign rfl) ?_
  refine tl_nil (.then_normal ?_)
  refine x_seq ?_
  have he : Le M M := Le.refl _
  refine x_draw 23 hmix rfl ?_
  refine to_y 0 rfl (by kernel_rfl) rfl (y_loadAgg rfl rfl (.own inferInstance inferInstance)) ?_
  refine to_y 1 rfl (by kernel_rfl) rfl (y_load rfl rfl (.own inferInstance inferInstance)) ?_
  refine to_y 2 rfl (by kernel_rfl) rfl (y_load rfl rfl (.own inferInstance inferInstance)) ?_
  refine to_p 3 rfl (by kernel_rfl) rfl (y_move (v := .int _ _) rfl) ?_
  refine to_y 4 rfl (by kernel_rfl) rfl (y_load rfl rfl (.own inferInstance inferInstance)) ?_
  refine to_p 5 rfl (by kernel_rfl) rfl (y_move (v := .int _ _) rfl) ?_
  refine to_p 6 rfl (by kernel_rfl) rfl (y_indexAddrK i rfl rfl (by omega)) ?_
  refine to_y 7 rfl (by kernel_rfl) rfl (y_load rfl rfl (.at_ (hcell _ i _ (intsL_at (by omega))) (by omega))) ?_
  refine to_y 8 rfl (by kernel_rfl) rfl (y_loadAgg rfl rfl (.own inferInstance inferInstance)) ?_
  refine to_y 10 rfl (by kernel_rfl) rfl (y_load rfl rfl (.own inferInstance inferInstance)) ?_
  refine to_p 11 rfl (by kernel_rfl) rfl (y_move (v := .int _ _) rfl) ?_
  refine to_p 12 rfl (by kernel_rfl) rfl (y_fieldAddr rfl) ?_
  refine to_y 13 rfl (by kernel_rfl) rfl (y_load (v := .int .i64 (n : Int)) rfl rfl (by rw [← ho.hn]; exact .own inferInstance inferInstance)) ?_
  refine to_p 14 rfl (by kernel_rfl) rfl (y_mulI rfl rfl (by rw [hm1]; omega)) ?_
  rw [hm1]
  refine to_p 15 rfl (by kernel_rfl) rfl (y_move (v := .int _ _) rfl) ?_
  refine to_p 16 rfl (by kernel_rfl) rfl (y_addI rfl rfl (by omega)) ?_
  refine to_p 17 rfl (by kernel_rfl) rfl (y_fieldAddr rfl) ?_
  refine to_y 18 rfl (by kernel_rfl) rfl (y_load (v := .int .i64 (n : Int)) rfl rfl (by rw [← ho.hn]; exact .own inferInstance inferInstance)) ?_
  refine to_p 19 rfl (by kernel_rfl) rfl (y_mulI rfl rfl (by rw [hm2]; omega)) ?_
  rw [hm2]
  refine to_p 20 rfl (by kernel_rfl) rfl (y_sliceLH rfl rfl rfl (by omega) (by omega)) ?_
  rw [Int.toNat_natCast, Int.toNat_natCast, show i * n + n - i * n = n by omega]
  refine to_e 9 rfl (by kernel_rfl) rfl (e_call' rfl (otop_spec o ho) ?_)
  rintro _ _ _ _ ⟨rfl, rfl, rfl⟩
  refine ⟨⟨(by first | exact Le.refl _ | assumption), Keeps.mem⟩, ?_⟩
  refine to_e 21 rfl (by kernel_rfl) rfl (e_call' rfl (Up_spec' hg.sha hg.kec hg.set o hname hsub q i ((d.getD i 0 : Nat) : Int) (topN o)) ?_)
  rintro _ M3 _ hM3 ⟨rfl, A3, m3, c3, rfl, hA3⟩
  replace he := he.trans hM3
  refine ⟨⟨(by first | exact Le.refl _ | assumption), Keeps.mem⟩, ?_⟩
  refine to_p 22 rfl (by kernel_rfl) rfl (y_assign (v := .slice _ _ _) rfl) ?_
  refine to_nil (by kernel_rfl) (.then_normal ?_)
  refine .sub (F' := [(7, _)]) (.cons rfl .nil) ?_
  refine x_ret (ret1 rfl rfl he ⟨rfl, _, _, _, rfl, by rw [staR, ho.hn, Int.toNat_natCast]; exact hA3⟩)
/-- What a signature stands for, and with which code. -/
def staE (nl tl : Nat) (sig : List UInt8) : Int := if nl ≠ 16 ∨ tl > 65536 then 1 else (ofV sig).2
def staV (nl tl : Nat) (name : List UInt8) (q : Nat) (text sig : List UInt8) : List UInt8 := if staE nl tl sig = 0 then staB (ofV sig).1 name q text sig else []
theorem ofV_ok {bs : List UInt8} (h : (ofV bs).2 = 0) : okO (ofV bs).1 ∧ bs.length = sizeN (ofV bs).1 ∧ otsE (sigC bs) = 0 ∧ (ofV bs).1 = otsV (sigC bs) := by
  unfold ofV at h ⊢
  split at h
  · cases h
  · rename_i h1
    split at h
    · rename_i h2; exact absurd h h2
    · rename_i h2
      split at h
      · cases h
      · rename_i h3
        rw [if_neg h1, if_neg h2, if_neg h3]
        exact ⟨(otsV_code (Classical.not_not.1 h2)).2, Classical.not_not.1 h3, Classical.not_not.1 h2, rfl⟩
theorem oStands_spec (hg : ChG M) (hname : Bytes M NA nl nc name) (q : UInt32) (htext : Bytes M TA tl tc text) {A : Option Addr} {m c : Nat} {sig : List UInt8} (hsig : Bytes M A m c sig) :
    Con Tryd.prog 33 #[.slice NA nl nc, .int .u32 (q.toNat : Int), .slice TA tl tc, .slice A m c] G M L (fun v M' L' => L = L' ∧ ∃ A' m' c', v = .tuple #[.slice A' m' c', .int .i64 (staE nl tl sig)] ∧ Bytes M' A' m' c' (staV nl tl name q.toNat text sig)) noPanic := by
  have hsl := hsig.size
  have hsc := hsig.le
  refine enter (args := [_, _, _, _]) (fn := Tryd.f33) ⟨Tryd.func33, rfl, by kernel_rfl, by kernel_rfl⟩ 60 rfl ?_
  refine x_seq (x_region ?_)
  refine tl_e rfl (e_box rfl (fun b1 => ?_))
  refine tl_e rfl (e_box rfl (fun b2 => ?_))
  refine tl_y rfl (y_assign rfl) ?_
  refine tl_y rfl (y_assign rfl) ?_
  refine tl_nil (.then_normal ?_)
  refine .sub (F' := [(2, _), (3, _), (4, _), (5, _)]) (.cons rfl (.cons rfl (.cons rfl (.cons rfl .nil)))) ?_
  refine x_seq (x_seq (x_region ?_))
  refine tl_y rfl (y_load rfl rfl (.own inferInstance inferInstance)) ?_
  refine tl_y rfl (y_len rfl) ?_
  refine tl_y rfl (y_neq rfl rfl) ?_
  refine tl_y rfl (y_move (v := .bool _) rfl) ?_
  refine tl_cases (s := 19) rfl (fun hk1 => ?_) (fun hk1 => ?_)
  ·
    have hE1 : staE nl tl sig = 1 := by rw [staE, if_pos (.inl (by omega))]
    refine tl_skip rfl ?_
    refine tl_skip rfl ?_
    refine tl_skip rfl ?_
    refine tl_y rfl (y_pickT rfl rfl) ?_
    refine tl_nil (.then_normal ?_)
    refine .sub (F' := [(2, _), (3, _), (4, _), (5, _), (23, _)]) (.cons rfl (.cons rfl (.cons rfl (.cons rfl (.cons rfl .nil))))) ?_
    refine x_true rfl rfl ?_
    refine x_seq (x_region ?_)
    refine tl_y rfl (y_assign rfl) ?_
    refine tl_y rfl (y_assign rfl) ?_
    refine tl_nil (.then_normal ?_)
    refine .sub (F' := [(8, _), (9, _)]) (.cons rfl (.cons rfl .nil)) ?_
    refine x_ret (.then_ret (.dropTo L inferInstance (ret2 rfl rfl rfl (Le.refl _) ⟨rfl, none, 0, 0, by rw [hE1], by rw [staV, hE1, if_neg (by decide)]; exact Row.nil _ _⟩)))
  ·
    refine tl_y rfl (y_move (v := .slice _ _ _) rfl) ?_
    refine tl_y rfl (y_len rfl) ?_
    refine tl_y rfl (y_gtr rfl rfl) ?_
    refine tl_y rfl (y_pickF rfl rfl) ?_
    refine tl_nil (.then_normal ?_)
    refine .sub (F' := [(2, _), (3, _), (4, _), (5, _), (23, _)]) (.cons rfl (.cons rfl (.cons rfl (.cons rfl (.cons rfl .nil))))) ?_
    refine x_cond rfl (fun hc1 => ?_) (fun hc1 => ?_)
    ·
      have hE1 : staE nl tl sig = 1 := by rw [staE, if_pos (.inr (by omega))]
      refine x_seq (x_region ?_)
      refine tl_y rfl (y_assign rfl) ?_
      refine tl_y rfl (y_assign rfl) ?_
      refine tl_nil (.then_normal ?_)
      refine .sub (F' := [(8, _), (9, _)]) (.cons rfl (.cons rfl .nil)) ?_
      refine x_ret (.then_ret (.dropTo L inferInstance (ret2 rfl rfl rfl (Le.refl _) ⟨rfl, none, 0, 0, by rw [hE1], by rw [staV, hE1, if_neg (by decide)]; exact Row.nil _ _⟩)))
    ·
      have hn16 : nl = 16 := by omega
      have htl : tl ≤ 65536 := by omega
      have hE : staE nl tl sig = (ofV sig).2 := by rw [staE, if_neg (by omega)]
      refine x_skip (.then_normal ?_)
      refine x_seq (x_region ?_)
      refine tl_y rfl (y_move (v := .slice _ _ _) rfl) ?_
      refine tl_e rfl (e_call' rfl (oof_spec hg.set hsig) ?_)
      rintro _ M1 _ hM1 ⟨rfl, rfl⟩
      refine tl_y rfl (y_move (v := .tuple _) rfl) ?_
      refine tl_y rfl (y_extract rfl) ?_
      refine tl_y rfl (y_extract rfl) ?_
      refine tl_e rfl (e_alloc (fun b3 => ?_))
      refine tl_e rfl (e_store rfl rfl (by rfl) (by rfl) inferInstance inferInstance inferInstance ?_)
      refine tl_y rfl (y_assign (v := .int _ _) rfl) ?_
      refine tl_nil (.then_normal ?_)
      refine .sub (F' := [(2, _), (3, _), (4, _), (5, _), (10, _), (11, _)]) (.cons rfl (.cons rfl (.cons rfl (.cons rfl (.cons rfl (.cons rfl .nil)))))) ?_
      refine x_seq (x_seq (x_region ?_))
      refine tl_y rfl (y_move (v := .int _ _) rfl) ?_
      refine tl_y rfl (y_neq rfl rfl) ?_
      refine tl_nil (.then_normal ?_)
      refine x_cond rfl (fun hc2 => ?_) (fun hc2 => ?_)
      ·
        refine x_seq (x_region ?_)
        refine tl_y rfl (y_move (v := .int _ _) rfl) ?_
        refine tl_y rfl (y_assign rfl) ?_
        refine tl_y rfl (y_assign (v := .int _ _) rfl) ?_
        refine tl_nil (.then_normal ?_)
        refine .sub (F' := [(8, _), (9, _)]) (.cons rfl (.cons rfl .nil)) ?_
        refine x_ret (.then_ret (.dropTo L inferInstance (ret2 rfl rfl rfl hM1 ⟨rfl, none, 0, 0, by rw [hE], by rw [staV, hE, if_neg hc2]; exact Row.nil _ _⟩)))
      ·
        have he0 : (ofV sig).2 = 0 := Classical.not_not.1 hc2
        obtain ⟨hok, hlen, _, _⟩ := ofV_ok he0
        obtain ⟨o, hoe⟩ : ∃ o, o = (ofV sig).1 := ⟨_, rfl⟩
        rw [← hoe] at hok hlen ⊢
        obtain ⟨n, w, p, ho⟩ := okO_facts hok
        obtain ⟨hz1, hz2, hz3⟩ := ho.size
        have hn32 := ho.n32
        have hp2 := ho.p2
        have hsalt := Bytes.sub hsig 4 (4 + n) (by omega) (by omega)
        rw [show 4 + n - 4 = n by omega] at hsalt
        have hyy := Bytes.sub hsig (4 + n) m (by omega) (by omega)
        rw [List.take_of_length_le (by rw [List.length_drop]; omega)] at hyy
        have hts := htext.size
        refine x_skip (.then_normal ?_)
        refine x_seq ?_
        refine x_draw 12 hmix rfl ?_
        refine to_p 0 rfl (by kernel_rfl) rfl (y_move (v := .slice _ _ _) rfl) ?_
        refine to_p 1 rfl (by kernel_rfl) rfl (y_fieldAddr rfl) ?_
        refine to_y 2 rfl (by kernel_rfl) rfl (y_load (v := .int .i64 (n : Int)) rfl rfl (by rw [← ho.hn]; exact .own inferInstance inferInstance)) ?_
        refine to_p 3 rfl (by kernel_rfl) rfl (y_addI rfl rfl (by omega)) ?_
        refine to_p 4 rfl (by kernel_rfl) rfl (y_sliceLH rfl rfl rfl (by omega) (by omega)) ?_
        rw [show ((4 : Int) + (n : Int)).toNat = 4 + n by omega, show (4 : Int).toNat = 4 from rfl, show 4 + n - 4 = n by omega]
        refine to_p 5 rfl (by kernel_rfl) rfl (y_move (v := .slice _ _ _) rfl) ?_
        refine to_p 6 rfl (by kernel_rfl) rfl (y_fieldAddr rfl) ?_
        refine to_y 7 rfl (by kernel_rfl) rfl (y_load (v := .int .i64 (n : Int)) rfl rfl (by rw [← ho.hn]; exact .own inferInstance inferInstance)) ?_
        refine to_p 8 rfl (by kernel_rfl) rfl (y_addI rfl rfl (by omega)) ?_
        refine to_p 9 rfl (by kernel_rfl) rfl (y_sliceL rfl rfl (by omega)) ?_
        rw [show ((4 : Int) + (n : Int)).toNat = 4 + n by omega]
        refine to_e 10 rfl (by kernel_rfl) rfl (e_alloc (fun b4 => ?_))
        refine ⟨⟨(by first | exact Le.refl _ | assumption), Keeps.mem⟩, ?_⟩
        refine to_p 11 rfl (by kernel_rfl) rfl (y_assign (v := .slice _ _ _) rfl) ?_
        refine to_t 12 rfl (by kernel_rfl) (by kernel_rfl) rfl (e_store rfl rfl (by rfl) (by rfl) inferInstance inferInstance inferInstance ?_)
        refine to_nil (by kernel_rfl) (.then_normal ?_)
        refine .sub (F' := [(2, _), (4, _), (5, _), (10, _), (12, _), (13, _)]) (.cons rfl (.cons rfl (.cons rfl (.cons rfl (.cons rfl (.cons rfl .nil)))))) ?_
        refine x_seq (x_region ?_)
        refine tl_y rfl (y_loadAgg rfl rfl (.own inferInstance inferInstance)) ?_
        refine tl_y rfl (y_load rfl rfl (.own inferInstance inferInstance)) ?_
        refine tl_y rfl (y_load rfl rfl (.own inferInstance inferInstance)) ?_
        refine tl_y rfl (y_move (v := .slice _ _ _) rfl) ?_
        refine tl_y rfl (y_move (v := .slice _ _ _) rfl) ?_
        refine tl_e rfl (e_call' rfl (osum_spec (hg.mono hM1) o ho (hname.mono hM1) hn16 q (hsalt.mono hM1) (htext.mono hM1) (by omega) (by omega)) ?_)
        rintro _ M3 _ hM3 ⟨rfl, A3, c3, rfl, hr3⟩
        have hd := hM1.trans hM3
        obtain ⟨ds, hds⟩ : ∃ ds, ds = digO o name q.toNat ((sig.drop 4).take n) text := ⟨_, rfl⟩
        rw [← hds] at hr3
        refine tl_e rfl (e_alloc (fun b5 => ?_))
        refine tl_e rfl (e_store rfl rfl (by rfl) (by rfl) inferInstance inferInstance inferInstance ?_)
        refine tl_nil (.then_normal ?_)
        refine .sub (F' := [(4, _), (5, _), (10, _), (13, _), (14, _)]) (.cons rfl (.cons rfl (.cons rfl (.cons rfl (.cons rfl .nil))))) ?_
        refine x_seq (x_region ?_)
        refine tl_y rfl (y_loadAgg rfl rfl (.own inferInstance inferInstance)) ?_
        refine tl_y rfl (y_makeFunc rfl rfl) ?_
        refine tl_e rfl (e_call' rfl (oall_spec o ho.hp (by omega) (rows := staR o name q.toNat ds (sig.drop (4 + n))) (staR_le ho name q.toNat ds (sig.drop (4 + n))) (fun i M2 X hi hM2 hX => by
          haveI i1 : Has X b3 (.cells (List.toArray o.cells) 62 (0, 0)) := ⟨hX _ (Has.mem)⟩
          haveI i2 : Has X b1 (.cells (List.toArray [.slice NA nl nc]) 22 (0, 0)) := ⟨hX _ (Has.mem)⟩
          haveI i3 : Has X b2 (.cells (List.toArray [.int .u32 (q.toNat : Int)]) 28 (0, 0)) := ⟨hX _ (Has.mem)⟩
          haveI i4 : Has X b5 (.cells (List.toArray [.slice A3 p c3]) 47 (0, 0)) := ⟨hX _ (Has.mem)⟩
          haveI i5 : Has X b4 (.cells (List.toArray [.slice (sl A (4 + n) c 1) (m - (4 + n)) (c - (4 + n))]) 22 (0, 0)) := ⟨hX _ (Has.mem)⟩
          exact oStands1_spec ((hg.mono hd).mono hM2) o ho ((hname.mono hd).mono hM2) q (hr3.mono hM2) ((hyy.mono hd).mono hM2) (by omega) i hi)) ?_)
        rintro _ M4 _ hM4 ⟨rfl, A4, m4, c4, rfl, hA4⟩
        replace hd := hd.trans hM4
        have hm4 := hA4.size
        have hle := catR_le (staR_le ho name q.toNat ds (sig.drop (4 + n))) p
        refine tl_y rfl (y_assign (v := .slice _ _ _) rfl) ?_
        refine tl_nil (.then_normal ?_)
        refine .sub (F' := [(4, _), (5, _), (10, _), (15, _)]) (.cons rfl (.cons rfl (.cons rfl (.cons rfl .nil)))) ?_
        refine x_seq (x_region ?_)
        refine tl_y rfl (y_fieldAddr rfl) ?_
        refine tl_y rfl (y_load rfl rfl (.own inferInstance inferInstance)) ?_
        refine tl_y rfl (y_fieldAddr rfl) ?_
        refine tl_y rfl (y_load rfl rfl (.own inferInstance inferInstance)) ?_
        refine tl_y rfl (y_load rfl rfl (.own inferInstance inferInstance)) ?_
        refine tl_y rfl (y_load rfl rfl (.own inferInstance inferInstance)) ?_
        refine tl_y rfl (y_move (v := .slice _ _ _) rfl) ?_
        refine tl_e rfl (e_buildSlice rfl (by decide) (fun b7 => ?_))
        refine .pub b7 inferInstance (fun M5 hM5 hb7 => ?_)
        replace hd := hd.trans hM5
        refine tl_e rfl (e_call' rfl (Part_spec (hg.mono hd).sha (hg.mono hd).kec o.kind o.n (hname.mono hd) q 32896 (by omega) (Row.whole hb7 rfl (by omega)) (.cons (hA4.mono hM5) .nil) (by simp only [List.flatten_cons, List.flatten_nil, List.length_append, List.length_nil]; omega)) ?_)
        rintro _ M6 _ hM6 ⟨rfl, A6, m6, c6, rfl, hA6⟩
        rw [show [catR (staR o name q.toNat ds (sig.drop (4 + n))) p].flatten = catR (staR o name q.toNat ds (sig.drop (4 + n))) p by simp] at hA6
        refine tl_y rfl (y_assign (v := .slice _ _ _) rfl) ?_
        refine tl_y rfl (y_assign rfl) ?_
        refine tl_nil (.then_normal ?_)
        refine .sub (F' := [(8, _), (9, _)]) (.cons rfl (.cons rfl .nil)) ?_
        refine x_ret (.dropTo L inferInstance (ret2 rfl rfl rfl (hd.trans hM6) ⟨rfl, _, _, _, by rw [hE, he0], by
          rw [staV, hE, if_pos he0, ← hoe, staB, show o.n.toNat = n by rw [ho.hn]; rfl, show o.p.toNat = p by rw [ho.hp]; rfl, ← hds]
          exact hA6⟩))
end
end Go.Proofs.YtbjnjedfoiedeaaDoor
set_option linter.unusedVariables false
set_option linter.unusedSimpArgs false
set_option linter.constructorNameAsVariable false
namespace Go.Proofs.YtbjnjedfoiedeaaDoor
open Go Go.Eng
section
variable {G : World} {M : Mem} {L : Own} {NA SA : Option Addr} {nl nc sl sc : Nat} {name sec : List UInt8}
theorem RoMay_spec (o : OtsV) :
    Con Tryd.prog 31 #[.agg (List.toArray o.cells), .agg (List.toArray (seedC NA nl nc SA sl sc))] G M L (fun v M' L' => M = M' ∧ L = L' ∧ v = .bool (decide (okY o nl sl))) noPanic := by
  refine enter (args := [_, _]) (fn := Tryd.f31) ⟨Tryd.func31, rfl, by kernel_rfl, by kernel_rfl⟩ 34 rfl ?_
  refine x_seq (x_region ?_)
  refine tl_e rfl (e_box rfl (fun b1 => ?_))
  refine tl_e rfl (e_box rfl (fun b2 => ?_))
  refine tl_y rfl (y_assign rfl) ?_
  refine tl_nil (.then_normal ?_)
  refine x_seq (x_region ?_)
  refine tl_y rfl (y_fieldAddr rfl) ?_
  refine tl_y rfl (y_load rfl rfl (.own inferInstance inferInstance)) ?_
  refine tl_e rfl (e_call' rfl (ROts_spec o.code) ?_)
  rintro _ _ _ _ ⟨rfl, rfl, rfl⟩
  refine tl_y rfl (y_move (v := .tuple _) rfl) ?_
  refine tl_y rfl (y_extract rfl) ?_
  refine tl_y rfl (y_extract rfl) ?_
  refine tl_e rfl (e_alloc (fun b3 => ?_))
  refine tl_e rfl (e_store rfl rfl (by rfl) (by rfl) inferInstance inferInstance inferInstance ?_)
  refine tl_y rfl (y_assign (v := .int _ _) rfl) ?_
  refine tl_nil (.then_normal ?_)
  refine .sub (F' := [(2, _), (3, _), (5, _), (6, _)]) (.cons rfl (.cons rfl (.cons rfl (.cons rfl .nil)))) ?_
  refine x_join (I := fun F D M2 L2 => ∃ b : Bool, (b = true ↔ okY o nl sl) ∧ D = [] ∧ M = M2 ∧ DropTo L2 L ∧ F = [(4, .bool b)]) ?_ (fun Jq2 => ?_)
  ·
    rintro _ _ _ L2 ⟨b, hb, rfl, rfl, hdr, rfl⟩  -- slots [4]
    refine x_ret (.dropTo L hdr (ret1 rfl rfl (Le.refl _) ⟨rfl, rfl, by rw [bool_iff hb]⟩))
  ·
    refine x_region ?_
    refine tl_y rfl (y_move (v := .int _ _) rfl) ?_
    refine tl_y rfl (y_eql rfl rfl) ?_
    refine tl_y rfl (y_move (v := .bool _) rfl) ?_
    refine tl_cases (s := 15) rfl (fun hk1 => ?_) (fun hk1 => ?_)
    ·
      refine tl_y rfl (y_loadAgg rfl rfl (.own inferInstance inferInstance)) ?_
      refine tl_y rfl (y_loadAgg rfl rfl (.own inferInstance inferInstance)) ?_
      refine tl_y rfl (y_eqlS rfl rfl eqs62) ?_
      refine tl_y rfl (y_pickT rfl rfl) ?_
      refine tl_y rfl (y_move (v := .bool _) rfl) ?_
      refine tl_cases (s := 20) rfl (fun hk2 => ?_) (fun hk2 => ?_)
      ·
        refine tl_y rfl (y_fieldAddr rfl) ?_
        refine tl_y rfl (y_load rfl rfl (.own inferInstance inferInstance)) ?_
        refine tl_y rfl (y_len rfl) ?_
        refine tl_y rfl (y_eql rfl rfl) ?_
        refine tl_y rfl (y_pickT rfl rfl) ?_
        refine tl_y rfl (y_move (v := .bool _) rfl) ?_
        refine tl_cases (s := 26) rfl (fun hk3 => ?_) (fun hk3 => ?_)
        ·
          refine tl_y rfl (y_fieldAddr rfl) ?_
          refine tl_y rfl (y_load rfl rfl (.own inferInstance inferInstance)) ?_
          refine tl_y rfl (y_len rfl) ?_
          refine tl_y rfl (y_fieldAddr rfl) ?_
          refine tl_y rfl (y_load rfl rfl (.own inferInstance inferInstance)) ?_
          refine tl_y rfl (y_eql rfl rfl) ?_
          refine tl_y rfl (y_pickT rfl rfl) ?_
          refine tl_y rfl (y_assign (v := .bool _) rfl) ?_
          refine tl_nil (.then_normal (.sub (F' := [(4, _)]) (.cons rfl .nil) (Jq2 _ _ _ _ ?_)))
          exact ⟨_, by
            constructor
            · intro ht
              first | (cases ht; done) | (simp at ht; exact ⟨⟨hk1, ots_eq hk2⟩, by omega, by omega⟩)
            · rintro ⟨⟨a1, a2⟩, a3, a4⟩
              first | exact absurd a1 hk1 | exact absurd (eq_ots a2) hk2 | (simp; omega) | omega, rfl, rfl, inferInstance, rfl⟩
        ·
          refine tl_skip rfl ?_
          refine tl_skip rfl ?_
          refine tl_skip rfl ?_
          refine tl_skip rfl ?_
          refine tl_skip rfl ?_
          refine tl_skip rfl ?_
          refine tl_y rfl (y_pickF rfl rfl) ?_
          refine tl_y rfl (y_assign (v := .bool _) rfl) ?_
          refine tl_nil (.then_normal (.sub (F' := [(4, _)]) (.cons rfl .nil) (Jq2 _ _ _ _ ?_)))
          exact ⟨_, by
            constructor
            · intro ht
              first | (cases ht; done) | (simp at ht; exact ⟨⟨hk1, ots_eq hk2⟩, by omega, by omega⟩)
            · rintro ⟨⟨a1, a2⟩, a3, a4⟩
              first | exact absurd a1 hk1 | exact absurd (eq_ots a2) hk2 | (simp; omega) | omega, rfl, rfl, inferInstance, rfl⟩
      ·
        refine tl_skip rfl ?_
        refine tl_skip rfl ?_
        refine tl_skip rfl ?_
        refine tl_skip rfl ?_
        refine tl_y rfl (y_pickF rfl rfl) ?_
        refine tl_y rfl (y_move (v := .bool _) rfl) ?_
        refine tl_skip rfl ?_
        refine tl_skip rfl ?_
        refine tl_skip rfl ?_
        refine tl_skip rfl ?_
        refine tl_skip rfl ?_
        refine tl_skip rfl ?_
        refine tl_y rfl (y_pickF rfl rfl) ?_
        refine tl_y rfl (y_assign (v := .bool _) rfl) ?_
        refine tl_nil (.then_normal (.sub (F' := [(4, _)]) (.cons rfl .nil) (Jq2 _ _ _ _ ?_)))
        exact ⟨_, by
          constructor
          · intro ht
            first | (cases ht; done) | (simp at ht; exact ⟨⟨hk1, ots_eq hk2⟩, by omega, by omega⟩)
          · rintro ⟨⟨a1, a2⟩, a3, a4⟩
            first | exact absurd a1 hk1 | exact absurd (eq_ots a2) hk2 | (simp; omega) | omega, rfl, rfl, inferInstance, rfl⟩
    ·
      refine tl_skip rfl ?_
      refine tl_skip rfl ?_
      refine tl_skip rfl ?_
      refine tl_y rfl (y_pickF rfl rfl) ?_
      refine tl_y rfl (y_move (v := .bool _) rfl) ?_
      refine tl_skip rfl ?_
      refine tl_skip rfl ?_
      refine tl_skip rfl ?_
      refine tl_skip rfl ?_
      refine tl_y rfl (y_pickF rfl rfl) ?_
      refine tl_y rfl (y_move (v := .bool _) rfl) ?_
      refine tl_skip rfl ?_
      refine tl_skip rfl ?_
      refine tl_skip rfl ?_
      refine tl_skip rfl ?_
      refine tl_skip rfl ?_
      refine tl_skip rfl ?_
      refine tl_y rfl (y_pickF rfl rfl) ?_
      refine tl_y rfl (y_assign (v := .bool _) rfl) ?_
      refine tl_nil (.then_normal (.sub (F' := [(4, _)]) (.cons rfl .nil) (Jq2 _ _ _ _ ?_)))
      exact ⟨_, by
        constructor
        · intro ht
          first | (cases ht; done) | (simp at ht; exact ⟨⟨hk1, ots_eq hk2⟩, by omega, by omega⟩)
        · rintro ⟨⟨a1, a2⟩, a3, a4⟩
          first | exact absurd a1 hk1 | exact absurd (eq_ots a2) hk2 | (simp; omega) | omega, rfl, rfl, inferInstance, rfl⟩
theorem RoLight_spec (o : OtsV) :
    Con Tryd.prog 30 #[.agg (List.toArray o.cells)] G M L (fun v M' L' => M = M' ∧ L = L' ∧ v = .bool (decide (o.w ≤ 4 ∧ o.p ≤ 140))) noPanic := by
  refine enter (args := [_]) (fn := Tryd.f30) ⟨Tryd.func30, rfl, by kernel_rfl, by kernel_rfl⟩ 11 rfl ?_
  refine x_seq (x_region ?_)
  refine tl_e rfl (e_box rfl (fun b1 => ?_))
  refine tl_y rfl (y_assign rfl) ?_
  refine tl_nil (.then_normal ?_)
  refine x_seq (x_region ?_)
  refine tl_y rfl (y_fieldAddr rfl) ?_
  refine tl_y rfl (y_load rfl rfl (.own inferInstance inferInstance)) ?_
  refine tl_y rfl (y_leq rfl rfl) ?_
  refine tl_y rfl (y_move (v := .bool _) rfl) ?_
  refine tl_cases (s := 6) rfl (fun hk1 => ?_) (fun hk1 => ?_)
  ·
    refine tl_y rfl (y_fieldAddr rfl) ?_
    refine tl_y rfl (y_load rfl rfl (.own inferInstance inferInstance)) ?_
    refine tl_y rfl (y_leq rfl rfl) ?_
    refine tl_y rfl (y_pickT rfl rfl) ?_
    refine tl_y rfl (y_assign (v := .bool _) rfl) ?_
    refine tl_nil (.then_normal ?_)
    refine .sub (F' := [(2, _)]) (.cons rfl .nil) ?_
    refine x_ret (.dropTo L inferInstance (ret1 rfl rfl (Le.refl _) ⟨rfl, rfl, by congr 1; rw [decide_eq_decide]; exact ⟨fun h => ⟨hk1, h⟩, fun h => h.2⟩⟩))
  ·
    refine tl_skip rfl ?_
    refine tl_skip rfl ?_
    refine tl_skip rfl ?_
    refine tl_y rfl (y_pickF rfl rfl) ?_
    refine tl_y rfl (y_assign (v := .bool _) rfl) ?_
    refine tl_nil (.then_normal ?_)
    refine .sub (F' := [(2, _)]) (.cons rfl .nil) ?_
    refine x_ret (.dropTo L inferInstance (ret1 rfl rfl (Le.refl _) ⟨rfl, rfl, by rw [decide_eq_false (fun h => hk1 h.1)]⟩))
theorem Rotop_spec (o : OtsV) {n w p : Nat} (ho : OF o n w p) :
    Con Tryd.prog 86 #[.agg (List.toArray o.cells)] G M L (fun v M' L' => M = M' ∧ L = L' ∧ v = .int .i64 (topN o)) noPanic := by
  have hw2 := ho.w2
  have hw8 : w ≤ 8 := by rcases ho.isw with rfl | rfl | rfl | rfl <;> omega
  refine enter (args := [_]) (fn := Tryd.f86) ⟨Tryd.func86, rfl, by kernel_rfl, by kernel_rfl⟩ 15 rfl ?_
  refine x_seq (x_region ?_)
  refine tl_e rfl (e_box rfl (fun b1 => ?_))
  refine tl_y rfl (y_assign rfl) ?_
  refine tl_nil (.then_normal ?_)
  refine x_seq (x_region ?_)
  refine tl_y rfl (y_assign rfl) ?_
  refine tl_nil (.then_normal ?_)
  refine x_seq (x_seq (x_region ?_))
  refine tl_y rfl (y_assign rfl) ?_
  refine tl_nil (.then_normal ?_)
  refine x_block ?_
  refine x_loop (I := fun m' F D M1 L1 => ∃ k : Nat, m' = w - k ∧ k ≤ w ∧ D = [] ∧ M = M1 ∧ (b1, .cells (List.toArray o.cells) 62 (0, 0)) :: L = L1 ∧ F = [(1, .pointer (some ⟨b1, 0, none⟩)), (3, .int .i64 ((pw2 k : Nat) : Int)), (4, .int .i64 (k : Int))]) (w) (F0 := [(1, _), (3, _), (4, _)]) ?_ (.cons rfl (.cons rfl (.cons rfl .nil))) ?_  -- slots [1, 3, 4], written [3, 4]
  · exact ⟨0, rfl, by omega, rfl, rfl, rfl, rfl⟩
  rintro m _ _ _ _ ⟨k, rfl, hk, rfl, rfl, rfl, rfl⟩
  refine x_seq (x_seq (x_region ?_))
  refine tl_y rfl (y_move (v := .int _ _) rfl) ?_
  refine tl_y rfl (y_fieldAddr rfl) ?_
  refine tl_y rfl (y_load (v := .int .i64 (w : Int)) rfl rfl (by rw [← ho.hw]; exact .own inferInstance inferInstance)) ?_
  refine tl_y rfl (y_lss rfl rfl) ?_
  refine tl_nil (.then_normal ?_)
  refine x_cond rfl (fun hc1 => ?_) (fun hc1 => ?_)
  ·
    have hkw : k < w := by omega
    have hp := pw2_le (j := k) (k := w) (by omega)
    refine x_skip (.then_normal ?_)
    refine .sub (F' := [(1, _), (3, _), (4, _)]) (.cons rfl (.cons rfl (.cons rfl .nil))) ?_
    refine x_seq ?_
    refine x_block ?_
    refine x_region ?_
    refine tl_y rfl (y_move (v := .int _ _) rfl) ?_
    refine tl_y rfl (y_mulI rfl rfl (by omega)) ?_
    rw [pw2_succ]
    refine tl_y rfl (y_assign (v := .int _ _) rfl) ?_
    refine tl_nil (.block_normal (.then_normal ?_))
    refine x_region ?_
    refine tl_y rfl (y_move (v := .int _ _) rfl) ?_
    refine tl_y rfl (y_addI rfl rfl (by omega)) ?_
    refine tl_y rfl (y_assign (v := .int _ _) rfl) ?_
    refine tl_nil (.loop_next (m' := w - (k + 1)) (by omega) (F' := [(1, _), (3, _), (4, _)]) (.cons rfl (.cons rfl (.cons rfl .nil))) ?_)
    exact ⟨k + 1, rfl, by omega, rfl, rfl, rfl, rfl⟩
  ·
    obtain rfl : k = w := by omega
    refine x_exit (.then_exit (.loop_exit (.block_exit (.then_normal ?_))))
    refine .sub (F' := [(3, _)]) (.cons rfl .nil) ?_
    refine x_seq (x_region ?_)
    refine tl_y rfl (y_move (v := .int _ _) rfl) ?_
    refine tl_y rfl (y_subI rfl rfl (by omega)) ?_
    refine tl_y rfl (y_assign (v := .int _ _) rfl) ?_
    refine tl_nil (.then_normal ?_)
    refine x_ret (.dropTo L inferInstance (ret1 rfl rfl (Le.refl _) ⟨rfl, rfl, by rw [topN, ho.hw, Int.toNat_natCast]⟩))
theorem RoSecret_spec (o : OtsV) (hname : Bytes M NA nl nc name) (hsec : Bytes M SA sl sc sec) (q : UInt32) (d : Nat) (hd : d ≤ 65535) :
    Con Tryd.prog 87 #[.agg (List.toArray o.cells), .agg (List.toArray (seedC NA nl nc SA sl sc)), .int .u32 (q.toNat : Int), .int .u16 (d : Int)] G M L (fun v M' L' => L = L' ∧ ∃ A m c, v = .slice A m c ∧ Bytes M' A m c (if okY o nl sl then hidB o name sec q.toNat d else [])) noPanic := by
  have hn1 := hname.size
  have hn2 := hsec.size
  have hq := q.toNat_lt
  refine enter (args := [_, _, _, _]) (fn := Tryd.f87) ⟨Tryd.func87, rfl, by kernel_rfl, by kernel_rfl⟩ 33 rfl ?_
  refine x_seq (x_region ?_)
  refine tl_e rfl (e_box rfl (fun b1 => ?_))
  refine tl_e rfl (e_box rfl (fun b2 => ?_))
  refine tl_y rfl (y_assign rfl) ?_
  refine tl_nil (.then_normal ?_)
  refine x_seq (x_seq (x_region ?_))
  refine tl_y rfl (y_loadAgg rfl rfl (.own inferInstance inferInstance)) ?_
  refine tl_y rfl (y_loadAgg rfl rfl (.own inferInstance inferInstance)) ?_
  refine tl_e rfl (e_call' rfl (RoMay_spec o) ?_)
  rintro _ _ _ _ ⟨rfl, rfl, rfl⟩
  refine tl_y rfl (y_notd rfl) ?_
  refine tl_nil (.then_normal ?_)
  refine .sub (F' := [(2, _), (3, _), (4, _), (5, _), (13, _)]) (.cons rfl (.cons rfl (.cons rfl (.cons rfl (.cons rfl .nil))))) ?_
  refine x_cond rfl (fun hc1 => ?_) (fun hc1 => ?_)
  ·
    refine x_seq (x_region ?_)
    refine tl_y rfl (y_assign rfl) ?_
    refine tl_nil (.then_normal ?_)
    refine .sub (F' := [(8, _)]) (.cons rfl .nil) ?_
    refine x_ret (.then_ret (.dropTo L inferInstance (ret1 rfl rfl (Le.refl _) ⟨rfl, _, _, _, rfl, by rw [if_neg hc1]; exact Row.nil _ _⟩)))
  ·
    have hok : okY o nl sl := Classical.not_not.1 hc1
    obtain ⟨n, w, p, ho⟩ := okO_facts hok.1
    have hn32 := ho.n32
    have hn := ho.hn
    have hsl := hok.2.2
    have hnl := hok.2.1
    refine x_skip (.then_normal ?_)
    refine x_seq ?_
    have he : Le M M := Le.refl _
    refine x_draw 14 hmix rfl ?_
    refine to_p 0 rfl (by kernel_rfl) rfl (y_fieldAddr rfl) ?_
    refine to_y 1 rfl (by kernel_rfl) rfl (y_load rfl rfl (.own inferInstance inferInstance)) ?_
    refine to_p 2 rfl (by kernel_rfl) rfl (y_move (v := .int _ _) rfl) ?_
    refine to_p 3 rfl (by kernel_rfl) rfl (y_convN64 rfl (by omega)) ?_
    refine to_p 5 rfl (by kernel_rfl) rfl (y_move (v := .int _ _) rfl) ?_
    refine to_p 6 rfl (by kernel_rfl) rfl (y_convN64 rfl (by omega)) ?_
    refine to_p 9 rfl (by kernel_rfl) rfl (y_fieldAddr rfl) ?_
    refine to_y 10 rfl (by kernel_rfl) rfl (y_load rfl rfl (.own inferInstance inferInstance)) ?_
    refine to_two 4 8 (by kernel_rfl) ?_ ?_
    ·
      refine two_e 4 rfl rfl (e_call' rfl (RPutV_spec q.toNat 4 (by omega) (by omega)) ?_)
      rintro _ M2 _ hM2 ⟨rfl, A2, c2, rfl, hA2⟩
      replace he := he.trans hM2
      refine ⟨⟨(by first | exact Le.refl _ | assumption), Keeps.mem⟩, ?_⟩
      refine to_two 7 8 (by kernel_rfl) ?_ ?_
      ·
        refine two_e 7 rfl rfl (e_call' rfl (RPutV_spec d 2 (by omega) (by omega)) ?_)
        rintro _ M3 _ hM3 ⟨rfl, A3, c3, rfl, hA3⟩
        replace he := he.trans hM3
        refine ⟨⟨(by first | exact Le.refl _ | assumption), Keeps.mem⟩, ?_⟩
        refine to_e 8 rfl (by kernel_rfl) rfl (e_buildSlice rfl (by decide) (fun b7 => ?_))
        refine ⟨⟨he, Keeps.mem⟩, ?_⟩
        refine .pub b7 inferInstance (fun M4 hM4 hb7 => ?_)
        replace he := he.trans hM4
        refine to_e 11 rfl (by kernel_rfl) rfl (e_buildSlice rfl (by decide) (fun b8 => ?_))
        refine ⟨⟨he, Keeps.mem⟩, ?_⟩
        refine .pub b8 inferInstance (fun M5 hM5 hb8 => ?_)
        replace he := he.trans hM5
        have hA4 : Bytes M4 (some ⟨b7, 0, none⟩) 1 1 [255] := Row.whole hb7 rfl (by omega)
        have hA2' : Bytes M5 A2 4 c2 (putB q.toNat 4) := hA2.mono (by first | exact hM3.trans (hM4.trans hM5) | exact hM4.trans (hM3.trans hM5) | exact hM3.trans hM5)
        have hA3' : Bytes M5 A3 2 c3 (putB d 2) := hA3.mono (by first | exact hM4.trans hM5 | exact hM5 | exact hM2.trans (hM4.trans hM5) | exact hM2.trans hM5)
        have hA4' : Bytes M5 (some ⟨b7, 0, none⟩) 1 1 [255] := hA4.mono (by first | exact hM5 | exact hM3.trans hM5 | exact hM2.trans (hM3.trans hM5))
        have hfl : [name, putB q.toNat 4, putB d 2, [255], sec].flatten = name ++ (putB q.toNat 4 ++ (putB d 2 ++ (255 :: sec))) := by simp
        have hfll : (name ++ (putB q.toNat 4 ++ (putB d 2 ++ (255 :: sec)))).length = nl + 7 + sl := by rw [List.length_append, List.length_append, List.length_append, putB_length, putB_length, List.length_cons]; omega
        refine to_e 12 rfl (by kernel_rfl) rfl (e_call' rfl (RCat_own (Row.whole hb8 rfl (by omega)) (.cons (hname.mono he) (.cons hA2' (.cons hA3' (.cons hA4' (.cons (hsec.mono he) .nil))))) (by rw [hfl, hfll]; omega)) ?_)
        rintro _ _ _ _ ⟨rfl, A6, c6, E6, rfl, hE6, rfl⟩
        rw [hfl, hfll] at hE6
        rw [hfl, hfll]
        refine ⟨⟨he, Keeps.mem⟩, ?_⟩
        refine .pubRow hE6 (fun M6 hM6 hA6 => ?_)
        replace he := he.trans hM6
        refine to_p 13 rfl (by kernel_rfl) rfl (y_assign (v := .slice _ _ _) rfl) ?_
        refine to_nil (by kernel_rfl) (.then_normal ?_)
        refine .sub (F' := [(4, _), (9, _)]) (.cons rfl (.cons rfl .nil)) ?_
        refine x_seq (x_region ?_)
        refine tl_y rfl (y_fieldAddr rfl) ?_
        refine tl_y rfl (y_load rfl rfl (.own inferInstance inferInstance)) ?_
        refine tl_y rfl (y_fieldAddr rfl) ?_
        refine tl_y rfl (y_load rfl rfl (.own inferInstance inferInstance)) ?_
        refine tl_y rfl (y_move (v := .slice _ _ _) rfl) ?_
        refine tl_e rfl (e_call' rfl (RSum_spec o.kind o.n (Row.in_ hA6) (by omega)) ?_)
        rintro _ M7 _ hM7 ⟨rfl, A7, m7, c7, rfl, hA7⟩
        replace he := he.trans hM7
        refine tl_y rfl (y_assign (v := .slice _ _ _) rfl) ?_
        refine tl_nil (.then_normal ?_)
        refine .sub (F' := [(8, _)]) (.cons rfl .nil) ?_
        refine x_ret (.dropTo L inferInstance (ret1 rfl rfl he ⟨rfl, _, _, _, rfl, by rw [if_pos hok]; exact hA7⟩))
      ·
        refine two_e 8 rfl rfl (e_buildSlice rfl (by decide) (fun b7 => ?_))
        refine ⟨⟨he, Keeps.mem⟩, ?_⟩
        refine .pub b7 inferInstance (fun M4 hM4 hb7 => ?_)
        replace he := he.trans hM4
        refine to_e 7 rfl (by kernel_rfl) rfl (e_call' rfl (RPutV_spec d 2 (by omega) (by omega)) ?_)
        rintro _ M3 _ hM3 ⟨rfl, A3, c3, rfl, hA3⟩
        replace he := he.trans hM3
        refine ⟨⟨(by first | exact Le.refl _ | assumption), Keeps.mem⟩, ?_⟩
        refine to_e 11 rfl (by kernel_rfl) rfl (e_buildSlice rfl (by decide) (fun b8 => ?_))
        refine ⟨⟨he, Keeps.mem⟩, ?_⟩
        refine .pub b8 inferInstance (fun M5 hM5 hb8 => ?_)
        replace he := he.trans hM5
        have hA4 : Bytes M4 (some ⟨b7, 0, none⟩) 1 1 [255] := Row.whole hb7 rfl (by omega)
        have hA2' : Bytes M5 A2 4 c2 (putB q.toNat 4) := hA2.mono (by first | exact hM3.trans (hM4.trans hM5) | exact hM4.trans (hM3.trans hM5) | exact hM3.trans hM5)
        have hA3' : Bytes M5 A3 2 c3 (putB d 2) := hA3.mono (by first | exact hM4.trans hM5 | exact hM5 | exact hM2.trans (hM4.trans hM5) | exact hM2.trans hM5)
        have hA4' : Bytes M5 (some ⟨b7, 0, none⟩) 1 1 [255] := hA4.mono (by first | exact hM5 | exact hM3.trans hM5 | exact hM2.trans (hM3.trans hM5))
        have hfl : [name, putB q.toNat 4, putB d 2, [255], sec].flatten = name ++ (putB q.toNat 4 ++ (putB d 2 ++ (255 :: sec))) := by simp
        have hfll : (name ++ (putB q.toNat 4 ++ (putB d 2 ++ (255 :: sec)))).length = nl + 7 + sl := by rw [List.length_append, List.length_append, List.length_append, putB_length, putB_length, List.length_cons]; omega
        refine to_e 12 rfl (by kernel_rfl) rfl (e_call' rfl (RCat_own (Row.whole hb8 rfl (by omega)) (.cons (hname.mono he) (.cons hA2' (.cons hA3' (.cons hA4' (.cons (hsec.mono he) .nil))))) (by rw [hfl, hfll]; omega)) ?_)
        rintro _ _ _ _ ⟨rfl, A6, c6, E6, rfl, hE6, rfl⟩
        rw [hfl, hfll] at hE6
        rw [hfl, hfll]
        refine ⟨⟨he, Keeps.mem⟩, ?_⟩
        refine .pubRow hE6 (fun M6 hM6 hA6 => ?_)
        replace he := he.trans hM6
        refine to_p 13 rfl (by kernel_rfl) rfl (y_assign (v := .slice _ _ _) rfl) ?_
        refine to_nil (by kernel_rfl) (.then_normal ?_)
        refine .sub (F' := [(4, _), (9, _)]) (.cons rfl (.cons rfl .nil)) ?_
        refine x_seq (x_region ?_)
        refine tl_y rfl (y_fieldAddr rfl) ?_
        refine tl_y rfl (y_load rfl rfl (.own inferInstance inferInstance)) ?_
        refine tl_y rfl (y_fieldAddr rfl) ?_
        refine tl_y rfl (y_load rfl rfl (.own inferInstance inferInstance)) ?_
        refine tl_y rfl (y_move (v := .slice _ _ _) rfl) ?_
        refine tl_e rfl (e_call' rfl (RSum_spec o.kind o.n (Row.in_ hA6) (by omega)) ?_)
        rintro _ M7 _ hM7 ⟨rfl, A7, m7, c7, rfl, hA7⟩
        replace he := he.trans hM7
        refine tl_y rfl (y_assign (v := .slice _ _ _) rfl) ?_
        refine tl_nil (.then_normal ?_)
        refine .sub (F' := [(8, _)]) (.cons rfl .nil) ?_
        refine x_ret (.dropTo L inferInstance (ret1 rfl rfl he ⟨rfl, _, _, _, rfl, by rw [if_pos hok]; exact hA7⟩))
    ·
      refine two_e 8 rfl rfl (e_buildSlice rfl (by decide) (fun b7 => ?_))
      refine ⟨⟨he, Keeps.mem⟩, ?_⟩
      refine .pub b7 inferInstance (fun M4 hM4 hb7 => ?_)
      replace he := he.trans hM4
      refine to_e 4 rfl (by kernel_rfl) rfl (e_call' rfl (RPutV_spec q.toNat 4 (by omega) (by omega)) ?_)
      rintro _ M2 _ hM2 ⟨rfl, A2, c2, rfl, hA2⟩
      replace he := he.trans hM2
      refine ⟨⟨(by first | exact Le.refl _ | assumption), Keeps.mem⟩, ?_⟩
      refine to_e 7 rfl (by kernel_rfl) rfl (e_call' rfl (RPutV_spec d 2 (by omega) (by omega)) ?_)
      rintro _ M3 _ hM3 ⟨rfl, A3, c3, rfl, hA3⟩
      replace he := he.trans hM3
      refine ⟨⟨(by first | exact Le.refl _ | assumption), Keeps.mem⟩, ?_⟩
      refine to_e 11 rfl (by kernel_rfl) rfl (e_buildSlice rfl (by decide) (fun b8 => ?_))
      refine ⟨⟨he, Keeps.mem⟩, ?_⟩
      refine .pub b8 inferInstance (fun M5 hM5 hb8 => ?_)
      replace he := he.trans hM5
      have hA4 : Bytes M4 (some ⟨b7, 0, none⟩) 1 1 [255] := Row.whole hb7 rfl (by omega)
      have hA2' : Bytes M5 A2 4 c2 (putB q.toNat 4) := hA2.mono (by first | exact hM3.trans (hM4.trans hM5) | exact hM4.trans (hM3.trans hM5) | exact hM3.trans hM5)
      have hA3' : Bytes M5 A3 2 c3 (putB d 2) := hA3.mono (by first | exact hM4.trans hM5 | exact hM5 | exact hM2.trans (hM4.trans hM5) | exact hM2.trans hM5)
      have hA4' : Bytes M5 (some ⟨b7, 0, none⟩) 1 1 [255] := hA4.mono (by first | exact hM5 | exact hM3.trans hM5 | exact hM2.trans (hM3.trans hM5))
      have hfl : [name, putB q.toNat 4, putB d 2, [255], sec].flatten = name ++ (putB q.toNat 4 ++ (putB d 2 ++ (255 :: sec))) := by simp
      have hfll : (name ++ (putB q.toNat 4 ++ (putB d 2 ++ (255 :: sec)))).length = nl + 7 + sl := by rw [List.length_append, List.length_append, List.length_append, putB_length, putB_length, List.length_cons]; omega
      refine to_e 12 rfl (by kernel_rfl) rfl (e_call' rfl (RCat_own (Row.whole hb8 rfl (by omega)) (.cons (hname.mono he) (.cons hA2' (.cons hA3' (.cons hA4' (.cons (hsec.mono he) .nil))))) (by rw [hfl, hfll]; omega)) ?_)
      rintro _ _ _ _ ⟨rfl, A6, c6, E6, rfl, hE6, rfl⟩
      rw [hfl, hfll] at hE6
      rw [hfl, hfll]
      refine ⟨⟨he, Keeps.mem⟩, ?_⟩
      refine .pubRow hE6 (fun M6 hM6 hA6 => ?_)
      replace he := he.trans hM6
      refine to_p 13 rfl (by kernel_rfl) rfl (y_assign (v := .slice _ _ _) rfl) ?_
      refine to_nil (by kernel_rfl) (.then_normal ?_)
      refine .sub (F' := [(4, _), (9, _)]) (.cons rfl (.cons rfl .nil)) ?_
      refine x_seq (x_region ?_)
      refine tl_y rfl (y_fieldAddr rfl) ?_
      refine tl_y rfl (y_load rfl rfl (.own inferInstance inferInstance)) ?_
      refine tl_y rfl (y_fieldAddr rfl) ?_
      refine tl_y rfl (y_load rfl rfl (.own inferInstance inferInstance)) ?_
      refine tl_y rfl (y_move (v := .slice _ _ _) rfl) ?_
      refine tl_e rfl (e_call' rfl (RSum_spec o.kind o.n (Row.in_ hA6) (by omega)) ?_)
      rintro _ M7 _ hM7 ⟨rfl, A7, m7, c7, rfl, hA7⟩
      replace he := he.trans hM7
      refine tl_y rfl (y_assign (v := .slice _ _ _) rfl) ?_
      refine tl_nil (.then_normal ?_)
      refine .sub (F' := [(8, _)]) (.cons rfl .nil) ?_
      refine x_ret (.dropTo L inferInstance (ret1 rfl rfl he ⟨rfl, _, _, _, rfl, by rw [if_pos hok]; exact hA7⟩))
theorem RoKey_spec (o : OtsV) (hname : Bytes M NA nl nc name) (hsec : Bytes M SA sl sc sec) (q : UInt32) :
    Con Tryd.prog 56 #[.agg (List.toArray o.cells), .agg (List.toArray (seedC NA nl nc SA sl sc)), .int .u32 (q.toNat : Int)] G M L (fun v M' L' => L = L' ∧ ∃ A m c, v = .slice A m c ∧ Bytes M' A m c (if okY o nl sl then keyB o name sec q.toNat else [])) noPanic := by
  refine enter (args := [_, _, _]) (fn := Tryd.f56) ⟨Tryd.func56, rfl, by kernel_rfl, by kernel_rfl⟩ 44 rfl ?_
  refine x_seq (x_region ?_)
  refine tl_e rfl (e_box rfl (fun b1 => ?_))
  refine tl_e rfl (e_box rfl (fun b2 => ?_))
  refine tl_y rfl (y_assign rfl) ?_
  refine tl_nil (.then_normal ?_)
  refine x_seq (x_seq (x_region ?_))
  refine tl_y rfl (y_loadAgg rfl rfl (.own inferInstance inferInstance)) ?_
  refine tl_y rfl (y_loadAgg rfl rfl (.own inferInstance inferInstance)) ?_
  refine tl_e rfl (e_call' rfl (RoMay_spec o) ?_)
  rintro _ _ _ _ ⟨rfl, rfl, rfl⟩
  refine tl_y rfl (y_notd rfl) ?_
  refine tl_nil (.then_normal ?_)
  refine .sub (F' := [(2, _), (3, _), (4, _), (12, _)]) (.cons rfl (.cons rfl (.cons rfl (.cons rfl .nil)))) ?_
  refine x_cond rfl (fun hc1 => ?_) (fun hc1 => ?_)
  ·
    refine x_seq (x_region ?_)
    refine tl_y rfl (y_assign rfl) ?_
    refine tl_nil (.then_normal ?_)
    refine .sub (F' := [(6, _)]) (.cons rfl .nil) ?_
    refine x_ret (.then_ret (.dropTo L inferInstance (ret1 rfl rfl (Le.refl _) ⟨rfl, _, _, _, rfl, by rw [if_neg hc1]; exact Row.nil _ _⟩)))
  ·
    have hok : okY o nl sl := Classical.not_not.1 hc1
    obtain ⟨n, w, p, ho⟩ := okO_facts hok.1
    have hn32 := ho.n32
    have hn := ho.hn
    have hsl := hok.2.2
    have hnl := hok.2.1
    have hp2 := ho.p2
    refine x_skip (.then_normal ?_)
    refine x_seq (x_region ?_)
    refine tl_y rfl (y_assign rfl) ?_
    refine tl_nil (.then_normal ?_)
    refine x_seq (x_seq (x_region ?_))
    refine tl_y rfl (y_assign rfl) ?_
    refine tl_nil (.then_normal ?_)
    refine x_block ?_
    refine x_loop (I := fun m' F D M1 L1 => ∃ (i : Nat) (A : Option Addr) (m c : Nat) (E : Own), m' = p - i ∧ i ≤ p ∧ Le M M1 ∧ m = (catR (keyR o name sec q.toNat) i).length ∧ OwnRow 5 1 A m c ((catR (keyR o name sec q.toNat) i).map bv) E ∧ D = [] ∧ L1 = E ++ ((b2, .cells (List.toArray (seedC NA nl nc SA sl sc)) 58 (0, 0)) :: (b1, .cells (List.toArray o.cells) 62 (0, 0)) :: L) ∧ F = [(2, .int .u32 (q.toNat : Int)), (3, .pointer (some ⟨b1, 0, none⟩)), (4, .pointer (some ⟨b2, 0, none⟩)), (7, .slice A m c), (8, .int .i64 (i : Int))]) (p) (F0 := [(2, _), (3, _), (4, _), (7, _), (8, _)]) ?_ (.cons rfl (.cons rfl (.cons rfl (.cons rfl (.cons rfl .nil))))) ?_  -- slots [2, 3, 4, 7, 8], written [7, 8]
    · exact ⟨0, none, 0, 0, [], rfl, by omega, Le.refl _, rfl, .nil, rfl, rfl, rfl⟩
    rintro m _ _ M1 _ ⟨i, A, m, c, E, rfl, hi, hM1, hm, hE, rfl, rfl, rfl⟩
    have hle := catR_le (keyR_le o name sec q.toNat) i
    have hli := keyR_le o name sec q.toNat i
    refine x_seq (x_seq (x_region ?_))
    refine tl_y rfl (y_move (v := .int _ _) rfl) ?_
    refine tl_y rfl (y_fieldAddr rfl) ?_
    refine tl_y rfl (y_load (v := .int .i64 (p : Int)) rfl rfl (by rw [← ho.hp]; exact .own inferInstance inferInstance)) ?_
    refine tl_y rfl (y_lss rfl rfl) ?_
    refine tl_nil (.then_normal ?_)
    refine x_cond rfl (fun hc2 => ?_) (fun hc2 => ?_)
    ·
      refine x_skip (.then_normal ?_)
      refine .sub (F' := [(2, _), (3, _), (4, _), (7, _), (8, _)]) (.cons rfl (.cons rfl (.cons rfl (.cons rfl (.cons rfl .nil))))) ?_
      refine x_seq ?_
      refine x_block ?_
      have he : Le M1 M1 := Le.refl _
      have hip : i < p := by omega
      refine x_draw0 17 ([(b2, .cells (List.toArray (seedC NA nl nc SA sl sc)) 58 (0, 0)), (b1, .cells (List.toArray o.cells) 62 (0, 0))]) Keeps.mem hmix rfl ?_
      refine to_p 0 rfl (by kernel_rfl) rfl (y_move (v := .slice _ _ _) rfl) ?_
      refine to_y 1 rfl (by kernel_rfl) rfl (y_loadAgg rfl rfl (.own inferInstance inferInstance)) ?_
      refine to_p 2 rfl (by kernel_rfl) rfl (y_fieldAddr rfl) ?_
      refine to_y 3 rfl (by kernel_rfl) rfl (y_load rfl rfl (.own inferInstance inferInstance)) ?_
      refine to_p 4 rfl (by kernel_rfl) rfl (y_move (v := .int _ _) rfl) ?_
      refine to_p 5 rfl (by kernel_rfl) rfl (y_move (v := .int _ _) rfl) ?_
      refine to_y 6 rfl (by kernel_rfl) rfl (y_loadAgg rfl rfl (.own inferInstance inferInstance)) ?_
      refine to_y 8 rfl (by kernel_rfl) rfl (y_loadAgg rfl rfl (.own inferInstance inferInstance)) ?_
      refine to_y 9 rfl (by kernel_rfl) rfl (y_loadAgg rfl rfl (.own inferInstance inferInstance)) ?_
      refine to_p 10 rfl (by kernel_rfl) rfl (y_move (v := .int _ _) rfl) ?_
      refine to_p 11 rfl (by kernel_rfl) rfl (y_move (v := .int _ _) rfl) ?_
      refine to_p 12 rfl (by kernel_rfl) rfl (y_convE (b := (i : Int)) rfl (by rw [wrapU16]; omega)) ?_
      refine to_e 7 rfl (by kernel_rfl) rfl (e_call' rfl (Rotop_spec o ho) ?_)
      rintro _ _ _ _ ⟨rfl, rfl, rfl⟩
      refine ⟨⟨(by first | exact Le.refl _ | assumption), Keeps.mem⟩, ?_⟩
      refine to_e 13 rfl (by kernel_rfl) rfl (e_call' rfl (RoSecret_spec o (hname.mono hM1) (hsec.mono hM1) q i (by omega)) ?_)
      rintro _ M2 _ hM2 ⟨rfl, A2, m2, c2, rfl, hA2⟩
      rw [if_pos hok] at hA2
      replace he := he.trans hM2
      refine ⟨⟨(by first | exact Le.refl _ | assumption), Keeps.mem⟩, ?_⟩
      refine to_e 14 rfl (by kernel_rfl) rfl (e_call' rfl (RUp_spec9 sha_length o (hname.mono (hM1.trans he)) hA2 q i 0 (topN o)) ?_)
      rintro _ M3 _ hM3 ⟨rfl, A3, m3, c3, rfl, hA3⟩
      replace he := he.trans hM3
      have hm3 : (keyR o name sec q.toNat i).length = m3 := hA3.size
      refine ⟨⟨(by first | exact Le.refl _ | assumption), Keeps.mem⟩, ?_⟩
      refine to_e 15 rfl (by kernel_rfl) rfl (e_append (by decide) rfl rfl hE (.row hA3) (all_one_bv _) (by omega) (by omega) (fun A7 c7 E7 hE7 => ?_))
      rw [← List.map_append, show catR (keyR o name sec q.toNat) i ++ cUp o name q.toNat (i : Int) 0 (topN o) (hidB o name sec q.toNat i) = catR (keyR o name sec q.toNat) (i + 1) from (catR_succ _ _).symm] at hE7
      refine ⟨⟨(by first | exact Le.refl _ | assumption), Keeps.mem⟩, ?_⟩
      refine to_p 16 rfl (by kernel_rfl) rfl (y_assign (v := .slice _ _ _) rfl) ?_
      refine to_nil (by kernel_rfl) (.block_normal (.then_normal ?_))
      refine .sub (F' := [(2, _), (3, _), (4, _), (7, _), (8, _)]) (.cons rfl (.cons rfl (.cons rfl (.cons rfl (.cons rfl .nil))))) ?_
      refine x_region ?_
      refine tl_y rfl (y_move (v := .int _ _) rfl) ?_
      refine tl_y rfl (y_addI rfl rfl (by omega)) ?_
      refine tl_y rfl (y_assign (v := .int _ _) rfl) ?_
      refine tl_nil (.loop_next (m' := p - (i + 1)) (by omega) (F' := [(2, _), (3, _), (4, _), (7, _), (8, _)]) (.cons rfl (.cons rfl (.cons rfl (.cons rfl (.cons rfl .nil))))) ?_)
      exact ⟨i + 1, A7, m + m3, c7, E7, rfl, by omega, hM1.trans he, by rw [catR_succ, List.length_append]; omega, hE7, rfl, rfl, rfl⟩
    ·
      obtain rfl : i = p := by omega
      refine .pubRow hE (fun M4 hM4 hrow => ?_)
      have hd := hM1.trans hM4
      refine x_exit (.then_exit (.loop_exit (.block_exit (.then_normal ?_))))
      refine .sub (F' := [(2, _), (3, _), (4, _), (7, _)]) (.cons rfl (.cons rfl (.cons rfl (.cons rfl .nil)))) ?_
      refine x_seq (x_region ?_)
      refine tl_y rfl (y_fieldAddr rfl) ?_
      refine tl_y rfl (y_load rfl rfl (.own inferInstance inferInstance)) ?_
      refine tl_y rfl (y_fieldAddr rfl) ?_
      refine tl_y rfl (y_load rfl rfl (.own inferInstance inferInstance)) ?_
      refine tl_y rfl (y_fieldAddr rfl) ?_
      refine tl_y rfl (y_load rfl rfl (.own inferInstance inferInstance)) ?_
      refine tl_y rfl (y_move (v := .int _ _) rfl) ?_
      refine tl_y rfl (y_move (v := .slice _ _ _) rfl) ?_
      refine tl_e rfl (e_call' rfl (RPart_spec o.kind o.n (hname.mono hd) q 32896 (by omega) hrow (by omega)) ?_)
      rintro _ M5 _ hM5 ⟨rfl, A5, m5, c5, rfl, hA5⟩
      refine tl_y rfl (y_assign (v := .slice _ _ _) rfl) ?_
      refine tl_nil (.then_normal ?_)
      refine .sub (F' := [(6, _)]) (.cons rfl .nil) ?_
      refine x_ret (.dropTo L inferInstance (ret1 rfl rfl (hd.trans hM5) ⟨rfl, _, _, _, rfl, by rw [if_pos hok, keyB, ho.hp, Int.toNat_natCast]; exact hA5⟩))
end
end Go.Proofs.YtbjnjedfoiedeaaDoor
set_option linter.unusedVariables false
set_option linter.unusedSimpArgs false
namespace Go.Proofs.YtbjnjedfoiedeaaDoor
open Go Go.Eng
/-! ### A signature stands for the key -/
theorem upC_add10 (o : OtsV) (name : List UInt8) (q i f : Nat) (x : List UInt8) (a b : Nat) : upC o name q i f x (a + b) = upC o name q i (f + a) (upC o name q i f x a) b := by
  induction b with
  | zero => rfl
  | succ b ih => rw [← Nat.add_assoc, upC, upC, ih, Nat.add_assoc]
theorem okR_of {o : OtsV} {n w p : Nat} (ho : OF o n w p) {nl i xl : Nat} (hn : nl = 16) (hi : i < p) (hx : xl = n) : okR o nl (i : Int) xl := by
  refine ⟨ho.ok.1, ho.ok.2, hn, by omega, ?_, ?_⟩
  · rw [ho.hp]; omega
  · rw [ho.hn, hx]
theorem cUp_of {o : OtsV} {n w p : Nat} (ho : OF o n w p) {name : List UInt8} (hn : name.length = 16) (q : Nat) {i f t : Nat} (hi : i < p) (hft : f ≤ t) (ht : t < pw2 w) {x : List UInt8} (hx : x.length = n) :
    cUp o name q (i : Int) (f : Int) (t : Int) x = upC o name q i f x (t - f) ∧ (upC o name q i f x (t - f)).length = n := by
  refine ⟨?_, ?_⟩
  · rw [cUp, if_pos ⟨okR_of ho hn hi hx, by omega, by omega, by rw [ho.hw, Int.toNat_natCast]; omega⟩]
    rw [Int.toNat_natCast, Int.toNat_natCast, show ((t : Int) - (f : Int)).toNat = t - f by omega]
  · have := upC_length ho.c sha_length name q i f (x := x) (by rw [hx, ho.hn]) (t - f)
    rw [ho.hn] at this
    omega
theorem topN_of {o : OtsV} {n w p : Nat} (ho : OF o n w p) : topN o = ((pw2 w - 1 : Nat) : Int) := by
  have := ho.w2
  rw [topN, ho.hw, Int.toNat_natCast]; omega
/-- A chain that is gone up in two goes. -/
theorem chain_two {o : OtsV} {n w p : Nat} (ho : OF o n w p) {name : List UInt8} (hn : name.length = 16) (q : Nat) {i d : Nat} (hi : i < p) (hd : d < pw2 w) {x : List UInt8} (hx : x.length = n) :
    cUp o name q (i : Int) (d : Int) (topN o) (cUp o name q (i : Int) 0 (d : Int) x) = cUp o name q (i : Int) 0 (topN o) x := by
  have hw := ho.w2
  obtain ⟨h1, h2⟩ := cUp_of ho hn q (f := 0) (t := d) hi (by omega) hd hx
  obtain ⟨h3, _⟩ := cUp_of ho hn q (f := 0) (t := pw2 w - 1) hi (by omega) (by omega) hx
  rw [topN_of ho]
  have e0 : ((0 : Nat) : Int) = 0 := rfl
  rw [e0] at h1 h3
  rw [h1, h3, Nat.sub_zero, Nat.sub_zero] at *
  obtain ⟨h5, _⟩ := cUp_of ho hn q (f := d) (t := pw2 w - 1) hi (by omega) (by omega) h2
  rw [h5, ← Nat.zero_add d, Nat.zero_add d]
  have := upC_add10 o name q i 0 x d (pw2 w - 1 - d)
  rw [Nat.zero_add, show d + (pw2 w - 1 - d) = pw2 w - 1 by omega] at this
  exact this.symm
theorem sigR_len {o : OtsV} {n w p : Nat} (ho : OF o n w p) {name : List UInt8} (hn : name.length = 16) (sec : List UInt8) (q : Nat) {ds : List Nat} (hd : ∀ d ∈ ds, d < pw2 w) (hdl : ds.length = p) {i : Nat} (hi : i < p) : (sigR o name sec q ds i).length = n := by
  have hdi : ds.getD i 0 < pw2 w := hd _ (by rw [List.getD_eq_getElem?_getD, List.getElem?_eq_getElem (by omega)]; exact List.getElem_mem _)
  obtain ⟨h1, h2⟩ := cUp_of ho hn q (f := 0) (t := ds.getD i 0) hi (by omega) hdi (hidB_len ho name sec q i)
  rw [sigR]
  have e0 : ((0 : Nat) : Int) = 0 := rfl
  rw [e0] at h1
  rw [h1]; exact h2
theorem drop_at {a b : List UInt8} {k : Nat} (h : a.length = k) : (a ++ b).drop k = b := by subst h; exact List.drop_left
theorem take_at {a b : List UInt8} {k : Nat} (h : a.length = k) : (a ++ b).take k = a := by subst h; exact List.take_left
theorem sig_parts {o : OtsV} {n w p : Nat} (ho : OF o n w p) {name : List UInt8} (hn : name.length = 16) (sec : List UInt8) (q : Nat) (text : List UInt8) :
    (sigB o name sec q text).length = sizeN o ∧ ofV (sigB o name sec q text) = (o, 0) ∧ ((sigB o name sec q text).drop 4).take n = saltB o name sec q ∧
      (sigB o name sec q text).drop (4 + n) = catR (sigR o name sec q (digO o name q (saltB o name sec q) text)) p := by
  obtain ⟨hdl, hdd⟩ := digO_get ho name q (saltB o name sec q) text
  have hsl : (saltB o name sec q).length = n := hidB_len ho name sec q 65533
  have hcl := o.code.toNat_lt
  have hp4 : (putB o.code.toNat 4).length = 4 := putB_length 4 _
  have hrl := catR_len (rows := sigR o name sec q (digO o name q (saltB o name sec q) text)) (n := n) p (fun i hi => sigR_len ho hn sec q hdd hdl hi)
  obtain ⟨hz1, hz2, hz3⟩ := ho.size
  have hl : (sigB o name sec q text).length = sizeN o := by
    rw [sigB, List.length_append, List.length_append, hp4, hsl, ho.hp, Int.toNat_natCast, hrl, hz1, hz2, Nat.mul_comm p n]; omega
  have hc : sigC (sigB o name sec q text) = o.code := by
    rw [sigC, sigB, List.take_append_of_le_length (by omega), List.take_of_length_le (by omega), getB_put]
    apply UInt32.toNat_inj.1
    rw [UInt32.toNat_ofNat', Nat.mod_eq_of_lt, Nat.mod_eq_of_lt]
    · omega
    · exact Nat.lt_of_le_of_lt (Nat.mod_le _ _) hcl
  refine ⟨hl, ?_, ?_, ?_⟩
  · rw [ofV, hc, if_neg (by rw [hl, hz1]; omega), if_neg (fun h => h ho.ok.1), ho.ok.2, if_neg (by rw [hl]; simp)]
  · rw [sigB, drop_at hp4, take_at hsl]
  · rw [sigB, ← List.append_assoc, ho.hp, Int.toNat_natCast]
    exact drop_at (by rw [List.length_append, hp4, hsl])
theorem sig_stands {o : OtsV} {n w p : Nat} (ho : OF o n w p) {name : List UInt8} (hn : name.length = 16) (sec : List UInt8) (q : Nat) (text : List UInt8) : staB o name q text (sigB o name sec q text) = keyB o name sec q := by
  obtain ⟨h1, h2, h3, h4⟩ := sig_parts ho hn sec q text
  obtain ⟨hdl, hdd⟩ := digO_get ho name q (saltB o name sec q) text
  rw [staB, keyB, ho.hp, Int.toNat_natCast, show o.n.toNat = n by rw [ho.hn]; rfl, h3, h4]
  congr 1
  refine catR_congr p (fun i hi => ?_)
  have hdi : (digO o name q (saltB o name sec q) text).getD i 0 < pw2 w := hdd _ (by rw [List.getD_eq_getElem?_getD, List.getElem?_eq_getElem (by omega)]; exact List.getElem_mem _)
  rw [staR, show o.n.toNat = n by rw [ho.hn]; rfl, catR_row (fun j hj => sigR_len ho hn sec q hdd hdl hj) hi, sigR, keyR]
  exact chain_two ho hn q hi hdi (hidB_len ho name sec q i)
theorem keyB_len {o : OtsV} {n w p : Nat} (ho : OF o n w p) {name : List UInt8} (hn : name.length = 16) (sec : List UInt8) (q : Nat) : (keyB o name sec q).length = n := cPartO_len ho hn _ _ _
theorem sta_sig {o : OtsV} {n w p : Nat} (ho : OF o n w p) {name : List UInt8} (hn : name.length = 16) (sec : List UInt8) (q : Nat) (text : List UInt8) {nl tl : Nat} (h16 : nl = 16) (htl : tl ≤ 65536) :
    staE nl tl (sigB o name sec q text) = 0 ∧ staV nl tl name q text (sigB o name sec q text) = keyB o name sec q := by
  obtain ⟨_, h2, _, _⟩ := sig_parts ho hn sec q text
  have hE : staE nl tl (sigB o name sec q text) = 0 := by rw [staE, if_neg (by omega), h2]
  exact ⟨hE, by rw [staV, if_pos hE, h2]; exact sig_stands ho hn sec q text⟩
end Go.Proofs.YtbjnjedfoiedeaaDoor
set_option linter.unusedVariables false
set_option linter.unusedSimpArgs false
set_option linter.constructorNameAsVariable false
namespace Go.Proofs.YtbjnjedfoiedeaaDoor
open Go Go.Eng
section
variable {G : World} {M : Mem} {L : Own}
theorem upC_add (o : OtsV) (name : List UInt8) (q i f : Nat) (x : List UInt8) (a b : Nat) : upC o name q i f x (a + b) = upC o name q i (f + a) (upC o name q i f x a) b := by
  induction b with
  | zero => rfl
  | succ b ih => rw [← Nat.add_assoc, upC, ih, upC, Nat.add_assoc]
theorem otsV_ok (c : UInt8) : ∃ o : OtsV, otsV (UInt32.ofNat (1 + c.toNat % 16)) = o ∧ otsE (UInt32.ofNat (1 + c.toNat % 16)) = 0 ∧ otsE o.code = 0 ∧ otsV o.code = o ∧ okC o.kind o.n ∧ 26 ≤ o.p ∧ o.p ≤ 265 ∧ ∃ w, isW w ∧ o.w = ((w : Nat) : Int) := by
  have hlt : c.toNat % 16 < 16 := Nat.mod_lt _ (by omega)
  have h1 : ∀ k : Fin 16, otsE (UInt32.ofNat (1 + k.val)) = 0 ∧ otsV (UInt32.ofNat (1 + k.val)) = otsT k.val ∧ otsE (otsT k.val).code = 0 ∧ otsV (otsT k.val).code = otsT k.val := by decide +kernel
  obtain ⟨a1, a2, a3, a4⟩ := h1 ⟨_, hlt⟩
  obtain ⟨b1, b2, b3, b4⟩ := otsT_facts hlt
  exact ⟨_, a2, a1, a3, a4, b1, b2, b3, b4⟩
end
end Go.Proofs.YtbjnjedfoiedeaaDoor
